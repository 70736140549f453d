/- SingularModes: for any linkage and any turns the law returns true and leaves its arguments as they were. No other condition. Part 4 of 8: what the later parts need -/
import Derived.Test.YtokaoegjfpjjnaaGreatSc
import Derived.Test.YtokaoegjfpjjnaaGreatRows
set_option linter.unusedVariables false
open List (nil_append drop_drop map_take)
open List renaming mem_of_getElem? → aap, mem_cons_of_mem → abt, mem_append → aa2, map_cons → ab2, mem_cons → abd, length_cons → aa4, mem_cons_self → abr, length_append → abi, length_nil → abg, getD_eq_getElem?_getD → aaq, getElem?_eq_none → aa5, all_eq_true → aa3, getElem?_take → abj, getElem?_map → aav, getElem?_eq_getElem → aat, drop_eq_nil_of_le → abm, getElem?_replicate → abl, map_append → abf, length_take → abc, take_of_length_le → aa7, drop_zero → ab1, take_length → aa8, not_mem_nil → abb, length_map → aar, length_replicate → abp, map_replicate → abw, map_set → ab0, length_set → ab4, length_eq_one_iff → YV, getElem?_eq_some_iff → Y1, mem_range → Y3, drop_eq_getElem_cons → Y5, replicate → Y6, mem_map → Y8, take_take → Y9, mem_singleton → Za, take_append_drop → Zc, getLast?_eq_getElem? → Zd, contains_iff_mem → Zh, getElem_mem → Zi, find?_range_eq_none → Zk, length_pos_iff → Zr, take_append_of_le_length → Zt, find?_range_eq_some → Zx, length_eq_zero_iff → ZA
open Nat renaming le_refl → aau, lt_of_lt_of_le → aba, lt_or_ge → aay, le_trans → abe, mul_le_mul_right → abh, mul_le_mul_left → aaz, zero_le → aa0, pow_add → abq, lt_of_le_of_lt → abk, eq_zero_or_pos → X8, blt → X9, div_add_mod → Yc, add_mul_div_left → Yd, mod_lt → Ye, zero_add → Yf, add_comm → Yh, div_div_eq_div_mul → Yi, pow_succ → Yj, pow_mul → Yk, le_of_lt → Ym, mul_comm → Yn, add_zero → Ys, mul_add → Yt, min_eq_left → Yu, mul_assoc → Yw, div_le_self → Yx, mod_eq_of_lt → Yz, div_lt_iff_lt_mul → YA, add_mul_mod_self_left → YE, add_mul → YH, div_eq_of_lt → YI, pow_le_pow_right → YK, gcd_comm → YL, gcd → YM, pow_pos → YP, mul_lt_mul'' → YR, succ_mul → YT
open Option renaming map_eq_some_iff → aas, getD_some → aan
open Bool renaming and_eq_true → aaw, or_eq_true → abz, false_eq_true → ZX, eq_false_iff → ZY, false_and → ZZ, not_eq_false' → Z0, not_eq_true' → Z2, eq_iff_iff → Z3
open Int renaming toNat_natCast → abn, natAbs_natCast → abo, mul_ne_zero → ZC, ofNat_inj → ZD, sign_nonneg_iff → ZE, mul_nonneg → ZF, sign_eq_neg_one_iff_neg → ZG, gcd → ZH, sign_eq_zero_iff_zero → ZL, sign_trichotomy → ZN
open Rat renaming divInt → ZP, mul_pos → ZQ, sub_eq_add_neg → ZR, num_divInt_den → ZU
open Decidable renaming not_not → aao
open Go renaming Value → acg, TypeId → ach, Program → aci, World → acj
open Go.Proofs.Tryz
namespace Go.Lw
open Go.Proofs
theorem D4(a b:List Nat)(ha:Ws a)(hb:Ws b)(na:Nz a)(nb:Nz b)(hb0:b≠[])(la:a.length<aK)(lb:b.length<aK) :
  FP 396 [ws a,ws b] (.tup [ws (ofNat (val a/val b)),ws (ofNat (val a%val b))]):=by
 have la':=la;unfold aK at la lb;refine aj func396 ?_;refine gc (zE a b ha hb na nb) ?_;refine gC (fun t22=>?_) (fun t22=>?_)
 ·have h1:val a<val b:=by
   simp only[aa]at t22;split at t22
   ·assumption
   ·split at t22 <;> simp at t22
  refine gc (mM a ha oz) ?_;refine gR ?_;exact Uu (by rw[YI h1];exact Sub.nil _ _ _) (by rw[Yz h1];exact Sub.refl _)
 have h1:val b<=val a:=by
  simp only[aa]at t22;split at t22
  ·simp at t22
  ·omega
 refine gl ?_;refine gC (fun z=>?_) (fun z=>?_)
 ·have hl : b.length = 1 := by have := z; simp [aa] at this; omega
  obtain⟨x,rfl⟩:∃x,b=[x]:=YV.1 hl;have hx:x≠0:=nb x rfl;have hxB:x<4294967296:=hb x (by simp);have hv:val [x]=x:=by simp[val]
  have hm:=Ye (val a) (show 0<x by omega);refine gi (show _=some (u32 x)from rfl) ?_;refine gc (Lb a x ha oz oz hxB) ?_;refine gc (mM [val a%x] (uz oz) (by simp[aK])) ?_;refine bt ?_;rw[hv];simp[val]
 have hl:b.length≠1:=by have:=z;simp[aa]at this;omega
 obtain⟨n,hn⟩:∃n,b.length=n+2:=⟨b.length-2,by have:=Zr.2 hb0;omega⟩
 obtain⟨sh,v,hsh,hsh2,hv,wv,lv,vv,hvt,htop,hlo⟩:=OJ hb nb hn
 have hab:b.length<=a.length:=by
  rcases aay a.length b.length with h2 |h2
  ·have:=tT ha nb h2;omega
  ·exact h2
 obtain⟨lq,hlq⟩:∃lq,a.length+1=lq+(n+2):=⟨a.length+1-(n+2),by omega⟩
 have hbt:=cf hb (n+1);refine gl ?_;refine ga (show _=((n+1:Nat):Int) by rw[dP oz];omega) ?_;refine gi (ib (n:=n+1) oz (by first |omega |(simp;omega))) ?_;refine gc (show jc _ _ _ (i64 (sh:Nat)) by rw[hsh];exact L2 _ hbt) ?_;refine gt (aE (Gq 900 rfl b sh hb (by unfold aK;omega) hsh2) (bC rfl rfl) aG rfl rfl) ?_;refine gl ?_;refine gs (vW (.tmp rfl) (.none _) (.some _ (.tmp rfl) oz) T104 rfl T354 rfl oz oz rfl) ?_;refine gt (aE (Gq 901 rfl a sh ha (by unfold aK;omega) hsh2) (bC rfl rfl) aG rfl rfl) ?_;refine gD ?_ (8,0);refine gW ((Wk.freeze (k:=900) rfl).trans<|Wk.of (sl:=[pP 0 (ws a),pP 1 (ws b),pP 8 (i64 sh),pP 9 (ws v),pP 10 (.ms 901 1 0 (a.length+1))]) (hp:=[pP 901 (.row 1 ((bp (a.length+1) (2^sh*val a)).map u32))]) (.k (.k (.k (.cons rfl (Sub.of (P5 hn hv)) (.k .nil))))) (.k .nil)) ?_;refine gl ?_;refine ga (show _=(lq:Int) by rw[lv,dP oz];omega) ?_;refine gs (iD (.tmp rfl) T104 rfl T354 rfl rfl oz (by dsimp only;omega) rfl) ?_;refine gl ?_;refine ga (show _=((n+1:Nat):Int) by rw[lv,dP oz];omega) ?_;refine gi (ib (n:=n+1) oz (by first |omega |(simp;omega))) ?_;refine gv (u64_in (by have:=cf wv (n+1);omega)) ?_;refine gl ?_;refine ga (show _=(n:Int) by rw[lv,dP oz];omega) ?_;refine gi (ib (n:=n) oz (by first |omega |(simp;omega))) ?_;refine gv (u64_in (by have:=cf wv n;omega)) ?_;refine gD ?_;refine ga (dP oz) ?_;refine i9 [8,9,12,13] [] (fun(q u:List Nat)(j:Nat)=>[pP 10 (.ms 901 1 0 (a.length+1)),pP 11 (.ms 61 1 0 lq),pP 14 (i64 ((j:Int)-1))]) (fun q u _=>[pP 901 (.row 1 (u.map u32)),pP 61 (.row 1 (q.map u32))]) (fun q u j=>q.length=lq/\u.length=a.length+1/\Ws q/\Ws u/\j<=lq/\val (u.drop j)<val v/\2^sh*val a=val v*(4294967296^j*val (q.drop j))+val u) (fun _ _ j=>j) (Y6 lq 0) (bp (a.length+1) (2^sh*val a)) lq ⟨by simp,fA _ _,lD _,kt _ _,aau _,by rw[vv];exact(Gk ha hsh2 hlq hlo).2,by rw[(Gk ha hsh2 hlq hlo).1];simp[val]⟩ ?_ (h2:=(.k (.cons rfl (BlkSub.of (by rw[abw];rfl)) .nil)))
 rintro q u j ⟨hql,hul,wq,wu,hj,hlt,hU⟩ K1 J1;refine gC (fun z=>?_) (fun z=>?_) (st2:=(23,0))
 ·have hj0 : 1 <= j := by have := z; simp [aa] at this; omega
  obtain⟨k,rfl⟩:∃k,j=k+1:=⟨j-1,by omega⟩
  obtain⟨W,hW⟩:∃W,W=val (bK u k (n+3)):=⟨_,rfl⟩
  have hVl:val v<4294967296^(n+2):=by have:=cr v wv;rwa [lv]at this
  obtain⟨e1,e2,e3⟩:=V7 (u:=u) (q:=q) (k:=k) (lv:=n+2) wu oz oz hVl hlt hU;simp only[show n+2+1=n+3 from rfl]at e1 e2 e3;have hdig:=Uz wv (ni wu k (n+3)) lv (pI oz) hvt e1;rw[<- hW]at e1 e2 e3 hdig;have wp:=ni wu k (n+3);have b1:=cf wp n;have b2:=cf wp (n+1);have b3:=cf wp (n+2);have b4:=hdig.htop;have b5:=hdig.htopB;have b6:=hdig.hnext;obtain⟨top,htop'⟩:∃top,top=ak v (n+1):=⟨_,rfl⟩
  obtain⟨nx,hnx⟩:∃nx,nx=ak v n:=⟨_,rfl⟩
  obtain⟨hd,hhd⟩:∃hd,hd=ak (bK u k (n+3)) (n+2)*4294967296+ak (bK u k (n+3)) (n+1):=⟨_,rfl⟩
  obtain⟨th,hth⟩:∃th,th=ak (bK u k (n+3)) n:=⟨_,rfl⟩
  rw[<- htop',<- hnx,<- hhd,<- hth]at hdig;rw[<- htop']at b4 b5 ⊢;rw[<- hnx]at b6 ⊢;rw[<- hth]at b1;have hdB:hd<18446744073709551616:=by omega
  refine gl ?_;refine ga (show _=((k+n+2:Nat):Int) by rw[lv,dq oz];omega) ?_;refine ga (show _=((k+n+3:Nat):Int) by rw[dq oz];omega) ?_;refine gs (vW (.tmp rfl) (.some _ (.tmp rfl) oz) (.some _ (.tmp rfl) oz) T104 rfl T354 rfl oz oz rfl) ?_ (14,0);refine gW (Wk.of (sl:=[pP 8 (i64 sh),pP 9 (ws v),pP 10 (.ms 901 1 0 (a.length+1)),pP 11 (.ms 61 1 0 lq),pP 12 (u64 top),pP 13 (u64 nx),pP 14 (i64 k),pP 15 (.ms 901 1 k (n+3))]) (hp:=[pP 901 (.row 1 (u.map u32)),pP 61 (.row 1 (q.map u32))]) (.k (.k (.k (.k (.k (.k (.cons rfl (Sub.int oz) (.cons rfl (Sub.of (by congr 1 <;> omega)) .nil)))))))) (.k (.k .nil))) ?_
  refine gl ?_;refine gs (n6 (n:=n+2) (.tmp rfl) (.tmp rfl) T104 rfl T354 rfl oz oz rfl) ?_;refine gs (eK (.tmp rfl) rfl (AI (n:=n+3) (i:=n+2) oz oz) T354 rfl rfl rfl) ?_;refine gv (u64_in oz) ?_;refine gs (ia (.tmp rfl) (.const _) oz (qK (n:=32) oz oz) rfl) ?_;refine gl ?_;refine ga (show _=((n+1:Nat):Int) by rw[lv,dP oz];omega) ?_;refine gs (n6 (n:=n+1) (.tmp rfl) (.tmp rfl) T104 rfl T354 rfl oz oz rfl) ?_;refine gs (eK (.tmp rfl) rfl (AI (n:=n+3) (i:=n+1) oz oz) T354 rfl rfl rfl) ?_;refine gv (u64_in oz) ?_;refine gs (jL (.tmp rfl) (.tmp rfl) rfl ((ui oz oz).trans (show _=(hd:Int) by rw[uH oz,hhd])) rfl) ?_;refine gD ?_;refine gs (fv (.tmp rfl) (.tmp rfl) oz (Ks hdB) rfl) ?_;refine gs (vJ (.tmp rfl) (.tmp rfl) oz El rfl) ?_;refine gD ?_;refine hO [8,9,12,13,14] [901,61] (fun(g r:Nat)=>[pP 10 (.ms 901 1 0 (a.length+1)),pP 11 (.ms 61 1 0 lq),pP 15 (.ms 901 1 k (n+3)),pP 17 (u64 g),pP 18 (u64 r)]) (fun _ _=>[]) (fun g r=>W/val v<=g/\g*top+r=hd/\g<18446744073709551616/\r<8589934592) (fun g _=>g) (hd/top) (hd%top) ⟨hdig.first,by rw[Yn];exact Yc _ _,by have:=Yx hd top;omega,by have:=Ye hd (show 0<top by omega);omega⟩ ?_
  rintro g r ⟨hg,hgr,hgB,hrB⟩ K2 J2;refine oD (fun⟨h,h2⟩=>(vI (by simp[aa]at h2;have:=xJ (x:=g) (y:=nx) oz b6;omega))) ?_;refine gs (q7 rfl rfl rfl (fun h h2=>ia (.opt rfl (o2 h h2)) (.const _) oz (qK (n:=32) oz (by simp[aa]at h;omega)) rfl)) ?_;refine cJ ?_;refine oD (fun _=>(show _=(n:Int) by rw[lv,dP oz];omega)) ?_;refine gs (q7 rfl rfl rfl (fun h h2=>n6 (n:=n) (.opt rfl (o2 h h2)) (.opt rfl (o2 h h2)) T104 rfl T354 rfl oz oz rfl)) ?_;refine gs (q7 rfl rfl rfl (fun h h2=>eK (.opt rfl (o2 h h2)) rfl (AI (n:=n+3) (i:=n) oz oz) T354 rfl rfl rfl)) ?_;refine RK (fun _=>(u64_in oz)) ?_;refine gs (q7 rfl rfl rfl (fun h h2=>jL (.opt rfl (o2 h h2)) (.opt rfl (o2 h h2)) rfl ((ui (by simp[aa]at h;omega) oz).trans (by rw[uH oz])) rfl)) ?_;refine gC (fun t133=>?_) (fun t133=>?_)
  ·have hc:r<4294967296/\(4294967296<=g\/r*4294967296+th<g*nx):=by
    rw[hth];have h9:=GB.1 t133
    rwa [show r*2^32=r*4294967296 from rfl]at h9
   have hg1:=hdig.step hg hgr hc.2;have hg0:1<=g:=Nat.succ_le_of_lt (abk (aa0 _) hg1);refine ga (Iz oz oz) ?_;refine ga (ju oz) ?_;exact gk J2 (g-1) (r+top) ⟨Nat.le_sub_one_of_lt hg1,by rw[Nat.sub_mul];have:=abh top (show 1<=g by omega);omega,by omega,by omega⟩
  have hc:¬(r<4294967296/\(4294967296<=g\/r*4294967296+th<g*nx)):=by
   rw[hth];intro hh;rw[show r*4294967296=r*2^32 from rfl]at hh;exact ZY.1 t133 (GB.2 hh)
  obtain⟨hgB2,hgq⟩:=hdig.last hgr hc;have hVp:=hdig.vpos;have hWl:val (bK u k (n+3))<4294967296^(n+3):=by have:=cr _ wp;rwa [pI oz]at this
  obtain⟨p1,p2⟩:=No hVp (show val v<=4294967296^(n+3) by have:=YK (show 0<4294967296 by omega) (show n+2<=n+3 by omega);omega) (hW▸hWl) hg hgq;have hwul:k+(n+3)<=u.length:=by omega
  have hwr:(wr u k (bp (n+3) (ka g (val v) W (n+3)))).length=a.length+1:=by rw[mG (by rw[fA];omega),hul]
  refine gt (aE (Con.rk 901 rfl rfl (Oh u v k (n+3) g wu wv oz hwul hgB2 (by unfold bc;omega))) (aJ rfl rfl rfl) aG rfl rfl) ?_;refine gC (fun z=>?_) (fun z=>?_)
  ·have hlt2 : W < g * val v := by rw [hW]; simpa using z
   obtain⟨q1,q2,q3⟩:=p1 hlt2;have hrl:ka g (val v) W (n+3)<4294967296^(n+3):=by unfold ka;rw[ab5 oz];rw[<- hW]at hWl;omega
   refine ga (Iz oz oz) ?_;refine gt (aE (Con.rk 901 rfl rfl (Nr (wr u k (bp (n+3) (ka g (val v) (val (bK u k (n+3))) (n+3)))) v k (n+3) (qM wu (kt _ _)) wv oz (by rw[<- hW,hwr];omega) (by rw[<- hW,hwr];unfold bc;omega))) (bC rfl rfl) aG rfl rfl) ?_;refine gv ((dN _).trans (by rw[Yz oz])) ?_;refine gs (cg (n:=k) (.tmp rfl) (.tmp rfl) T104 rfl T354 rfl oz oz rfl) ?_;refine gs (dM (.tmp rfl) rfl (cz (i:=k) oz) rfl (.tmp rfl) rfl rfl T354 rfl rfl) ?_;refine ga (dP oz) ?_;exact ik J1 (q.set k (W/val v)) (wr u k (bp (n+3) (W%val v))) k ⟨by simp[hql],by rw[mG (by rw[fA];omega),hul],gw wq hdig.q_lt,qM wu (kt _ _),by omega,e2,e3⟩ (hw:=Wk.of bb (.cons rfl (BlkSub.of (by rw[<- hW];first |(rw[q1];done) |(rw[DV (r:=W%val v) hwul (fA _ _) (by rw[l9 _ _ hrl];exact q1)];done))) (.cons rfl (BlkSub.of (by rw[ab0,q2];rfl)) .nil)))
  have hlt2:¬W<g*val v:=by rw[hW];simpa using z
  obtain⟨q1,q2⟩:=p2 hlt2;refine gv ((dN _).trans (by rw[Yz oz])) ?_;refine gs (cg (n:=k) (.tmp rfl) (.tmp rfl) T104 rfl T354 rfl oz oz rfl) ?_;refine gs (dM (.tmp rfl) rfl (cz (i:=k) oz) rfl (.tmp rfl) rfl rfl T354 rfl rfl) ?_;refine ga (dP oz) ?_;exact ik J1 (q.set k (W/val v)) (wr u k (bp (n+3) (W%val v))) k ⟨by simp[hql],by rw[mG (by rw[fA];omega),hul],gw wq hdig.q_lt,qM wu (kt _ _),by omega,e2,e3⟩ (hw:=Wk.of bb (.cons rfl (BlkSub.of (by rw[<- hW];first |(rw[q1];done) |(rw[DV (r:=W%val v) hwul (fA _ _) (by rw[l9 _ _ hrl];exact q1)];done))) (.cons rfl (BlkSub.of (by rw[ab0,q2];rfl)) .nil)))
 have hj0:j=0:=by have:=z;simp[aa]at this;omega
 subst hj0;have hU':2^sh*val a=2^sh*val b*val q+val u:=by rw[<- vv];simpa using hU
 obtain⟨hQ,hR⟩:=Uw hU' (by rw[<- vv];simpa using hlt);refine gW ((Wk.freeze (k:=61) rfl).trans<|(Wk.freeze (k:=901) rfl).trans<|Wk.of (sl:=[pP 8 (i64 sh),pP 10 (ws u),pP 11 (ws q)]) (hp:=[]) (.k (.cons rfl (Sub.of (b7 (by simp[hul]))) (.cons rfl (Sub.of (by rw[show AV.fz 61 1 (q.map u32) (.ms 61 1 0 lq)=ws q from b7 (by simp[hql])];rfl)) .nil))) .nil) ?_;refine gc (mM q wq (by unfold aK;omega)) ?_;refine gc (Us u sh wu (by unfold aK;omega) hsh2) ?_;refine bt ?_;rw[<- hQ,<- hR]
theorem xu{b:Bool}{n:Nat}:(cond b (aa .gtr ((ofNat n).length:Int) 0) false)=true↔(b=true/\0<n):=by
 have h:aa .gtr ((ofNat n).length:Int) 0=true↔0<n:=by
  simp only[aa,ab7];constructor
  ·intro h;rcases X8 n with h1 |h1;(subst h1;simp[TT]at h);exact h1
  ·intro h;have:ofNat n ≠ []:=by intro h1; have:=cA n; rw [h1] at this; simp [val] at this; omega
   have:=Zr.2 this;omega
 cases b with
 |false=>simp
 |true=>exact⟨fun h1=>⟨rfl,h.1 h1⟩,fun h1=>h.2 h1.2⟩
theorem Af(a:Wh)(ha:a.ok):FP 299 [a.av] (i64 a.z.sign):=by
 obtain⟨e1,e2,e3⟩:=H6 ha;refine aj func299 ?_;refine gc (ko a ha) ?_;refine gl ?_;refine gC (fun z=>?_) (fun z=>?_)
 ·have h0 : a.m.length = 0 := by simpa [aa] using z
  refine ah ?_;rw[e1 h0];rfl
 have h0:a.m.length≠0:=by simpa[aa]using z
 refine gC (fun z=>?_) (fun z=>?_)
 ·refine ah ?_;rw[e2 h0 z];rfl
 refine ah ?_;rw[e3 h0 z];rfl
theorem TS(a b:Wh)(ha:a.ok)(hb:b.ok):FP 308 [a.av,b.av] (i64 (gQ a.z b.z)):=by
 refine aj func308 ?_;refine gc (Af a ha) ?_;refine gc (Af b hb) ?_;refine gD ?_;refine gC (fun z=>?_) (fun z=>?_)
 ·have h0 : a.z.sign ≠ b.z.sign := by simpa [aa] using z
  obtain⟨e1,e2⟩:=Wp h0;refine gC (fun z=>?_) (fun z=>?_)
  ·have h1 : a.z.sign < b.z.sign := by simpa [aa] using z
   refine ah ?_;rw[e1 h1];rfl
  have h1:¬a.z.sign<b.z.sign:=by simpa[aa]using z
  refine ah ?_;rw[e2 h1];rfl
 have h0:a.z.sign=b.z.sign:=by simpa[aa]using z
 have e1:=Pf h0;refine gc (ko a ha) ?_;refine gc (ko b hb) ?_;refine gc (zE a.m b.m (Wh.ws ha) (Wh.ws hb) a.nz b.nz) ?_;refine gD ?_;refine gc (iX a ha) ?_;refine gC (fun z=>?_) (fun z=>?_)
 ·rw[z,ab6 rfl]at e1;refine gs (yA (.tmp rfl) rfl) ?_;refine ah ?_;rw[e1];split
  ·rfl
  ·split <;> rfl
 rw[z,ab5 Bool.false_ne_true]at e1;refine ah ?_
 first |(rw[e1];done) |(rw[e1];rfl)
theorem Un(a:Wh)(ha:a.ok)(la:a.mag.length<aK):FP 175 [a.av] (zA (-a.z)):=by
 refine aj func175 ?_;refine gc (iX a ha) ?_;refine gc (ko a ha) ?_;refine gc (ki _ a.m (Wh.ws ha) (Ym (Wh.small ha la))) ?_;refine gD ?_;refine ah ?_;rw[Wh.z_eq,<- GM];rfl
theorem TA(a b:Wh)(ha:a.ok)(hb:b.ok)(la:a.mag.length+b.mag.length<=aK):FP 298 [a.av,b.av] (zA (a.z*b.z)):=by
 have h1:=Wh.m_le (w:=a);have h2:=Wh.m_le (w:=b);have h3:(ofNat (val a.m*val b.m)).length<=a.m.length+b.m.length:=fy (by rw[abq];exact YR (cr _ (Wh.ws ha)) (cr _ (Wh.ws hb)));refine aj func298 ?_;refine gc (iX a ha) ?_;refine gc (iX b hb) ?_;refine gc (ko a ha) ?_;refine gc (ko b hb) ?_;refine gc (Nn a.m b.m (Wh.ws ha) (Wh.ws hb) oz) ?_;refine gc (ki _ _ (dG _) oz) ?_;refine gD ?_;refine ah ?_;rw[cA,G4];rfl
theorem SQ(a b:Wh)(ha:a.ok)(hb:b.ok)(la:a.mag.length<aK)(lb:b.mag.length<aK):FP 297 [a.av,b.av] (zA (a.z+b.z)):=by
 have h1:=Wh.m_le (w:=a);have h2:=Wh.m_le (w:=b);have hla:val a.m<4294967296^(max a.m.length b.m.length):=aba (cr _ (Wh.ws ha)) (YK oz oz);have hlb:val b.m<4294967296^(max a.m.length b.m.length):=aba (cr _ (Wh.ws hb)) (YK oz oz);have h3:(ofNat (val a.m+val b.m)).length<=max a.m.length b.m.length+1:=fy (by rw[Yj];omega);have h4:(ofNat (val a.m-val b.m)).length<=max a.m.length b.m.length:=fy oz;have h5:(ofNat (val b.m-val a.m)).length<=max a.m.length b.m.length:=fy oz;refine aj func297 ?_;refine gc (ko a ha) ?_;refine gc (ko b hb) ?_;refine gD ?_;refine gc (iX a ha) ?_;refine gc (iX b hb) ?_;refine gD ?_;refine gC (fun z=>?_) (fun z=>?_)
 ·have h0 : a.n = b.n := by simpa using z
  refine gc (iX a ha) ?_;refine gc (Ew a.m b.m (Wh.ws ha) (Wh.ws hb) oz oz) ?_;refine gc (ki _ _ (dG _) oz) ?_;refine ah ?_;rw[cA,HI h0];rfl
 have h0:a.n≠b.n:=by simpa using z
 refine gc (zE a.m b.m (Wh.ws ha) (Wh.ws hb) a.nz b.nz) ?_;refine gC (fun t23=>?_) (fun t23=>?_)
 ·have h6:val b.m<=val a.m:=by
   rcases aay (val a.m) (val b.m)with h |h
   ·rw[ab6 h]at t23;cases t23
   ·exact h
  refine gc (iX a ha) ?_;refine gc (Cr a.m b.m (Wh.ws ha) (Wh.ws hb) oz (by rcases aay a.m.length b.m.length with h |h;(have:=tT (Wh.ws ha) b.nz h;omega);exact h) h6) ?_;refine gc (ki _ _ (dG _) oz) ?_;refine ah ?_;rw[cA,AE h0 h6];rfl
 have h6:val a.m<val b.m:=by
  rcases aay (val a.m) (val b.m)with h |h
  ·exact h
  ·rw[ab5 oz]at t23;split at t23 <;> cases t23
 refine gc (iX b hb) ?_;refine gc (Cr b.m a.m (Wh.ws hb) (Wh.ws ha) oz (by rcases aay b.m.length a.m.length with h |h;(have:=tT (Wh.ws hb) a.nz h;omega);exact h) oz) ?_;refine gc (ki _ _ (dG _) oz) ?_;refine ah ?_;rw[cA,IX h0 oz];rfl
theorem JT(a b:Wh)(ha:a.ok)(hb:b.ok)(la:a.mag.length<aK)(lb:b.mag.length<aK):FP 300 [a.av,b.av] (zA (ZH a.z b.z)):=by
 refine aj func300 ?_;refine gc (ko a ha) ?_;refine gc (ko b hb) ?_;refine gD ?_;refine hO [4] [4] (fun(x y:List Nat)=>[pP 5 (ws x),pP 6 (ws y)]) (fun _ _=>[]) (fun x y=>Ws x/\Ws y/\Nz x/\Nz y/\x.length<aK/\y.length<aK/\YM (val x) (val y)=ZH a.z b.z) (fun _ y=>val y) a.m b.m ⟨Wh.ws ha,Wh.ws hb,a.nz,b.nz,Wh.small ha la,Wh.small hb lb,by rw[ZH,Wh.abs,Wh.abs]⟩ ?_;rintro x y ⟨wx,wy,nx,ny,lx,ly,hg⟩ K1 J1;refine gl ?_;refine gC (fun t15=>?_) (fun t15=>?_)
 ·have hy : y ≠ [] := by intro h; subst h; simp [aa] at t15
  have hy0:=oF ny hy;have hm:=Ye (val x) hy0;refine gc (D4 x y wx wy nx ny hy lx ly) ?_;exact gk J1 y (ofNat (val x%val y)) ⟨wy,dG _,ny,qY _,ly,abk (fy (Nat.lt_trans hm (cr y wy))) ly,by rw[cA,<- hg,YL (val x) (val y),YL (val y) (val x%val y)];exact(Nat.gcd_rec _ _).symm⟩ (by show val (ofNat _)<val y;rw[cA];exact hm)
 have hy:y=[]:=by
  cases y with
  |nil=>rfl
  |cons c l=>simp[aa]at t15
 subst hy;have hg':val x=ZH a.z b.z:=by rw[<- hg];simp[val]
 refine gc (ki false x wx (Ym lx)) ?_;refine ah ?_;rw[hg'];rfl
theorem Rq(a b:Wh)(ha:a.ok)(hb:b.ok)(la:a.mag.length+1<aK)(lb:b.mag.length<aK)(h0:b.z≠0):FP 301 [a.av,b.av] (.tup [zA (a.z/b.z),zA (a.z%b.z),.v .nilIface]):=by
 have hm1:=Wh.m_le (w:=a);have hm2:=Wh.m_le (w:=b);have hb1:val b.m≠0:=by have:=Wh.abs (w:=b);omega
 have hb2:b.m≠[]:=fun h=>hb1 (by rw[h];rfl)
 have hl1:(ofNat (val a.m/val b.m)).length<=a.m.length:=fy (abk (Yx _ _) (cr _ (Wh.ws ha)));have hmod:=Ye (val a.m) (show 0<val b.m by omega);have hl2:(ofNat (val a.m%val b.m)).length<=b.m.length:=fy (Nat.lt_trans hmod (cr _ (Wh.ws hb)));have hl3:(ofNat (val a.m/val b.m+1)).length<=a.m.length+1:=fy (by have h7:=abk (Yx (val a.m) (val b.m)) (cr _ (Wh.ws ha));rw[Yj];generalize val a.m/val b.m=m at *;omega);have hl4:(ofNat (val b.m-val a.m%val b.m)).length<=b.m.length:=fy (by have:=cr _ (Wh.ws hb);omega);have hv1:val [1]=1:=rfl;refine aj func301 ?_;refine gc (ko b hb) ?_;refine gl ?_;refine gC (fun z=>?_) (fun z=>?_) (st1:=(3,0));exact acc (ZA.1 (by simpa[aa]using z)) hb2;refine gc (ko a ha) ?_;refine gc (D4 a.m b.m (Wh.ws ha) (Wh.ws hb) a.nz b.nz hb2 oz oz) ?_;refine gc (iX a ha) ?_;refine cJ ?_;refine gC (fun z=>?_) (fun z=>?_)
 ·have h1:a.n = true /\ 0 < val a.m % val b.m:=xu.1 z;obtain ⟨e1,e2⟩:=FH hb1 h1.1 h1.2;refine gc (Ew (ofNat (val a.m / val b.m)) [1] (dG _) (uz oz) oz (by unfold aK; simp)) ?_;refine gc (Cr b.m (ofNat (val a.m % val b.m)) (Wh.ws hb) (dG _) oz hl2 (by rw [cA]; omega)) ?_ (7,0);refine gW (Wk.of (sl:=[pP 2 (.ptr 2 0),pP 3 (.ptr 3 0),pP 4 (.ptr 4 0),pP 5 (.ptr 5 0),pP 8 (ws (ofNat (val a.m / val b.m + 1))),pP 9 (ws (ofNat (val b.m - val a.m % val b.m)))]) (hp:=[pP 2 (.box [bl a.neg,ws a.mag]),pP 3 (.box [bl b.neg,ws b.mag]),pP 4 (.box [.v (.bool false),nS]),pP 5 (.box [.v (.bool false),nS])]) (.k (.k (.k (.k (.cons rfl (Sub.of (by rw [cA,hv1])) (.cons rfl (Sub.of (by rw [cA])) .nil)))))) (.k (.k (.k (.k .nil))))) ?_
  refine gc (iX a ha) ?_;refine gc (iX b hb) ?_;refine gc (by apply ki _ _ (dG _) oz) ?_;refine gc (by apply ki _ _ (dG _) oz) ?_;refine gD ?_;refine gR ?_;exact s7 (by rw[cA,cA,e1,show sgn false _=_ from e2];rfl)
 have h1:¬(a.n=true/\0<val a.m%val b.m):=fun h=>ZY.1 z (xu.2 h)
 obtain⟨e1,e2⟩:=EM hb1 h1;refine gc (iX a ha) ?_;refine gc (iX b hb) ?_;refine gc (by apply ki _ _ (dG _) oz) ?_;refine gc (by apply ki _ _ (dG _) oz) ?_;refine gD ?_;refine gR ?_;exact s7 (by rw[cA,cA,e1,show sgn false _=_ from e2];rfl)
theorem vz{N:Nat}(h:N<18446744073709551616):val [N%4294967296,N/2^32]=N:=by
 simp only[val];omega
theorem wG{N:Nat}(h:N<18446744073709551616):Ws [N%4294967296,N/2^32]:=by
 intro x hx;simp only[abd,abb,or_false]at hx;rcases hx with rfl |rfl <;> omega
theorem Hx(n:Int)(h:-9223372036854775808<=n/\n<=9223372036854775807):FP 227 [i64 n] (zA n):=by
 obtain⟨N,hN⟩:∃N,N=n.natAbs:=⟨_,rfl⟩
 have hNB:N<18446744073709551616:=by omega
 refine aj func227 ?_;refine gv (show IntKind.u64.wrap n=((n%18446744073709551616:Int)) by simp only[IntKind.wrap,IntKind.signed,IntKind.bits,ZZ,if_false,ZX];omega) ?_;refine gC (fun z=>?_) (fun z=>?_) (st2:=(77777,0))
 ·have hn : n < 0 := by simpa [aa] using z
  refine gs (yA (.tmp rfl) rfl) ?_ (4,0);refine gW (Wk.of (sl:=[pP 0 (i64 n),pP 2 (.ptr 2 0),pP 3 (u64 N)]) (hp:=[pP 2 (.box [.v (.bool false),nS])]) (.k (.k (.cons rfl (Sub.int (by simp only[IntKind.wrap,IntKind.signed,IntKind.bits,ZZ,if_false,ZX];omega)) .nil))) (.k .nil)) ?_;refine gv (dN _) ?_;refine gs (ff (.tmp rfl) (.const _) oz (ig _ 32 oz) rfl) ?_;refine gv ((dN _).trans (by rw[Yz (show N/2^32<4294967296 by omega)])) ?_;refine gc (ki (aa .lss n 0) [N%4294967296,N/2^32] (wG hNB) (by unfold aK;simp)) ?_;refine ah ?_;rw[vz hNB,show sgn (aa .lss n 0) N=n by simp only[sgn,aa,ab7];split <;> omega];rfl
 have hn:¬n<0:=by simpa[aa]using z
 refine gW (Wk.of (sl:=[pP 0 (i64 n),pP 2 (.ptr 2 0),pP 3 (u64 N)]) (hp:=[pP 2 (.box [.v (.bool false),nS])]) (.k (.k (.cons rfl (Sub.int oz) .nil))) (.k .nil)) ?_;refine gv (dN _) ?_;refine gs (ff (.tmp rfl) (.const _) oz (ig _ 32 oz) rfl) ?_;refine gv ((dN _).trans (by rw[Yz (show N/2^32<4294967296 by omega)])) ?_;refine gc (ki (aa .lss n 0) [N%4294967296,N/2^32] (wG hNB) (by unfold aK;simp)) ?_;refine ah ?_;rw[vz hNB,show sgn (aa .lss n 0) N=n by simp only[sgn,aa,ab7];split <;> omega];rfl
theorem Ar:∀(j k v:Nat),j<=k->(bp k v).take j=bp j v
 |0,_,_,_=>by simp[bp]
 |j+1,0,_,h=>by omega
 |j+1,k+1,v,h=>by
  rw[bp,bp,List.take_succ_cons,Ar j k _ oz]
theorem DK{m:List Nat}(h:Ws m):(ofNat (val m)).length<=m.length:=fy (cr m h)
theorem Dg{m:List Nat}(h:Ws m):m.take (ofNat (val m)).length=ofNat (val m):=by
 have h1:=sj m h;have h2:=sj (ofNat (val m)) (dG _);rw[cA]at h2;have h3:=Ar _ _ (val m) (DK h);rw[<- h1,<- h2]at h3;exact h3
theorem Ga{m:List Nat}{n:Nat}(h:Ws m)(hn:n<=m.length)(hv:val (m.take n)=val m)(h0:n=0\/ak m (n-1)≠0):n=(ofNat (val m)).length:=by
 have h1:m.take n=ofNat (val m):=by
  refine EU (gj h n) ?_ hv;intro x hx;rcases h0 with h0 |h0
  ·subst h0;simp at hx
  ·have hn0 : n ≠ 0 := by intro h3; subst h3; simp at hx
   rw[Zd,abc,Yu hn,abj,ab6 oz,jK oz]at hx;cases hx;exact h0
 rw[<- h1,abc,Yu hn]
theorem BV(l:List Nat)(i:Nat):val l=val (l.take i)+4294967296^i*val (l.drop i):=by
 rcases aay i l.length with h |h
 ·exact An oz
 ·rw[fq h,abm h];simp[val]
theorem un(l:List Nat)(i:Nat):val (l.drop i)=ak l i+4294967296*val (l.drop (i+1)):=by
 rcases aay i l.length with h |h
 ·exact pV h
 ·rw[qg h,abm h,abm oz];rfl
theorem HZ{a b:List Nat}{i:Nat}(ha:Ws a)(he:val (a.drop (i+1))=val (b.drop (i+1)))(hx:ak a i<ak b i):val a<val b:=by
 rw[BV a (i+1),BV b (i+1),he];have:=JK ha hx;omega
theorem Vz{xs ys:List AV}(hl:xs.length=ys.length)(h1:∀(j:Nat)(y:AV),ys[j]?=some y->y.one=true)(h:∀(j:Nat)(x y:AV),xs[j]?=some x->ys[j]?=some y->Sub x y):Sub (.agg xs) (.agg ys):=by
 intro g S m v hr;cases hr with
 |agg hn h2 hr =>
  refine .agg (hn.trans hl) h1 ?_;intro j u c hu hc
  have hj:j<xs.length:=by
   rw[hl];rcases aay j ys.length with h |h
   ·exact h
   ·rw[aa5 h]at hc;cases hc
  exact h j _ c (aat hj) hc _ _ _ _ (hr j u _ hu (aat hj))
theorem OB:Sub (.agg [.v (.bool false),.v (.slice none 0 0)]) (zA 0):=by
 show Sub (.agg [.v (.bool false),.v (.slice none 0 0)]) (.agg [bl false,ws []]);refine Vz rfl ?_ ?_
 ·intro j y hy
  match j,hy with
  |0,hy=>cases hy;rfl
  |1,hy=>cases hy;rfl
 ·intro j x y hx hy
  match j,hx,hy with
  |0,hx,hy=>cases hx;cases hy;exact Sub.refl _
  |1,hx,hy=>cases hx;cases hy;exact Sub.nil _ _ _
theorem IL{out:List Nat}{i x:Nat}(h:out.length=i):val (out++[x])=val out+4294967296^i*x:=by
 rw[rZ,h];simp[val]
theorem Fy{o c P x y u w:Nat}(hu:u<4294967296)(hw:w<4294967296)(hc:c<=1)(h:o+y=x+c*P) :
  (o+P*((4294967296+u-w-c)%4294967296))+(y+P*w)=(x+P*u)+(1-(4294967296+u-w-c)/2^32)*(P*4294967296):=by
 have h0:(4294967296+u-w-c)%4294967296+w+c=u+(1-(4294967296+u-w-c)/2^32)*4294967296:=by omega
 generalize(1-(4294967296+u-w-c)/2^32)=q at *;generalize(4294967296+u-w-c)%4294967296=r at *;grind
theorem EL{a b out:List Nat}{c:Nat}(ha:Ws a)(hw:Ws out)(ho:out.length=a.length)(hle:val b<=val a)
  (h:val out+val (b.take a.length)=val (a.take a.length)+c*4294967296^a.length):val out=val a-val b:=by
 have hb:=BV b a.length;have h2:=cr a ha
 have h3:val (b.drop a.length)=0:=by
  rcases X8 (val (b.drop a.length))with h4 |h4
  ·exact h4
  ·have:=aaz (4294967296^a.length) h4;omega
 rw[h3,Nat.mul_zero,Ys]at hb;rw[<- hb,aa8]at h;have h1:=cr out hw;rw[ho]at h1;cases c with
 |zero=>omega
 |succ c=>rw[YT]at h;omega
theorem EV{z:Int}{k:Nat}(h:Lz k z)(hk:k<=bc):(ofInt z).ok:=⟨dG _,abe h.len hk⟩
theorem DJ{z:Int}{k:Nat}(h:Lz k z):(ofInt z).mag.length<=k:=h.len
theorem PA(x y:Int):(x-y).sign=gQ x y:=by
 unfold gQ;have h:=AT (x-y)
 (repeat' split) <;> omega
theorem l7(m:List Nat)(i:Nat)(hm:Ws m):FP 428 [ws m,i64 i] (u64 (ak m i)):=by
 refine aj func428 ?_;refine gl ?_;refine gC (fun z=>?_) (fun z=>?_)
 ·simp[aa]at z;have:=cf hm i;refine gi (cz (i:=i) z) ?_;refine gv (u64_in oz) ?_;refine ah ?_;rfl
 simp[aa]at z;refine ah ?_;simp[u64,qg z]
theorem DS(w:Wh)(h:w.ok):FP 423 [w.av] (bl w.valid):=by
 have hl:w.mag.length<=bc:=h.2;refine aj func423 ?_;refine gl ?_;refine gC (fun z=>?_) (fun z=>?_)
 ·have h0 : w.mag = [] := by simpa [aa] using z
  refine ah ?_;simp[bl,Wh.valid,h0]
 have h0:w.mag.length≠0:=by simpa[aa]using z
 refine gl ?_;refine ga (j7 oz oz) ?_;refine gi (cz (i:=w.mag.length-1) oz) ?_;refine ah ?_;have h1:w.mag≠[]:=fun h=>h0 (by rw[h];rfl)
 simp only[bl,Wh.valid,ab5 h1,Zd,jK (show w.mag.length-1<w.mag.length by omega),aa];congr 2;generalize ak w.mag _=x;rw[Z3];simp
theorem kM(w:Wh)(h:w.ok):FP 365 [w.av] (ws w.m):=by
 refine aj func365 ?_;refine gc (DS w h) ?_;refine gC (fun z=>?_) (fun z=>?_)
 ·have h0 : w.valid = false := by simpa [aa] using z
  refine gR ?_;exact lc (by rw[show w.m=[] by simp[Wh.m,h0]];exact Sub.nil _ _ _)
 have h0:w.valid=true:=by simpa[aa]using z
 refine ah ?_;simp only[Wh.m,h0];rfl
theorem jv(w:Wh)(h:w.ok):FP 366 [w.av] (bl w.n):=by
 refine aj func366 ?_;refine gc (DS w h) ?_;refine ah ?_;simp only[Wh.n,bl];cases w.valid <;> rfl
theorem CZ(d:Nat)(hd:X9 d 1000=true)(m:List Nat)(hm:Ws m)(hb:m.length<=aK) :
  Con prog 371 [ws m] [] (.ms d 1 0 (ofNat (val m)).length) [(d,some (.row 1 (m.map u32)))]:=by
 have hb':=hb;unfold aK at hb;refine gF func371 (fun k z h=>by cases h) ?_;refine gs (jI T104 rfl T354 rfl rfl rfl) ?_;refine gs (cK (.tmp rfl) rfl rfl (.tmp rfl) T104 rfl T354 rfl rfl (by simp only[aar];omega) rfl rfl) ?_;refine aW [] [6] (fun(n:Nat)=>[pP 3 (.ms 6 1 0 n)]) (fun _=>[]) (fun n=>n<=m.length/\val (m.take n)=val m) (fun n=>n) m.length ⟨aau _,by rw[aa8]⟩ ?_ (h1:=(.cons rfl (Sub.of (by rw[aar,Yf])) .nil));rintro n ⟨hn,hv⟩ K1 J1;refine oD (fun h=>(j7 (by simp[aa]at h;omega) (by unfold bc;omega))) ?_;refine gs (fa rfl rfl rfl (fun h=>cg (n:=n-1) (.opt rfl (o1 h)) (.opt rfl (o1 h)) T104 rfl T354 rfl oz (by simp[aa]at h;omega) rfl)) ?_;refine gs (fa rfl rfl rfl (fun h=>eK (.opt rfl (o1 h)) rfl (cz (i:=n-1) (by simp[aa]at h;omega)) T354 rfl rfl rfl)) ?_;refine gC (fun t18=>?_) (fun t18=>?_)
 ·have t18 : 0 < n /\ ak m (n - 1) = 0 := by simpa [aa] using t18
  refine ga (j7 oz (by unfold bc;omega)) ?_;refine gs (vW (.tmp rfl) (.none _) (.some _ (.tmp rfl) oz) T104 rfl T354 rfl oz oz rfl) ?_;exact aR J1 (n-1) ⟨by omega,by have h:=@dB m (n-1);rw[show n-1+1=n by omega,t18.2]at h;simp at h;omega⟩ (hw:=Wk.of (.cons rfl (Sub.of (by congr 1)) .nil) (.k .nil))
 have t18:0<n->ak m (n-1)≠0:=by simpa[aa]using t18
 have hn1:=Ga hm hn hv (by rcases X8 n with h |h;(exact .inl h);exact .inr (t18 h));subst hn1;refine gR ?_;exact aC.own1 rfl hd rfl
theorem qX(m:List Nat)(hm:Ws m)(hb:m.length<=aK):FP 371 [ws m] (ws (ofNat (val m))):=by
 have h:=Con.freeze (by rw[aar,Yf];exact DK hm) (CZ 0 rfl m hm hb)
 rwa [ab1,<- map_take,Dg hm]at h
theorem kE(b:Bool)(m:List Nat)(hm:Ws m)(hb:m.length<=aK):FP 271 [bl b,ws m] (zA (sgn b (val m))):=by
 refine aj func271 ?_;refine gc (qX m hm hb) ?_;refine gl ?_;refine gC (fun t9=>?_) (fun t9=>?_)
 ·have h0:val m=0:=by
   have:=cA (val m);have h9:ofNat (val m)=[]:=ZA.1 (by simpa[aa]using t9);rw[h9]at this;exact this.symm
  refine gR ?_;exact lc (by rw[h0,show sgn b 0=0 by cases b <;> rfl];exact OB)
 have h0:val m≠0:=by
  intro h;rw[h]at t9;cases t9
 refine ah ?_
 rw[show zA (sgn b (val m))=.agg [bl b,ws (ofNat (val m))] by
  unfold zA ofInt Wh.av;rw[show(sgn b (val m)).natAbs=val m by unfold sgn;split <;> omega,show decide (sgn b (val m)<0)=b by cases b <;> simp[sgn] <;> omega]]
theorem Bp(a b:List Nat)(ha:Ws a)(hb:Ws b):FP 385 [ws a,ws b] (i64 (if val a<val b then -1 else if val b<val a then 1 else 0)):=by
 refine aj func385 ?_ (0,0);refine tX (t:=0) rfl (fun hla=>?_);refine tX (t:=1) rfl (fun hlb=>?_);unfold bc at hla hlb;refine go ?_;refine gl ?_;refine gl ?_;refine gs (pX (.tmp rfl) (.tmp rfl) rfl) ?_;refine ga (dP oz) ?_;refine aW [0,1] [] (fun(n:Nat)=>[pP 5 (i64 ((n:Int)-1))]) (fun _=>[]) (fun n=>n<=281474976710656/\val (a.drop n)=val (b.drop n)) (fun n=>n) (max a.length b.length) ⟨by omega,by rw[abm oz,abm oz]⟩ ?_ (h1:=(.cons rfl (Sub.int oz) .nil));rintro n ⟨hn,hd⟩ K1 J1;refine gC (fun z=>?_) (fun z=>?_)
 ·have hn0 : 1 <= n := by have := z; simp [aa] at this; omega
  obtain⟨k,rfl⟩:∃k,n=k+1:=⟨n-1,by omega⟩
  have hk:((k+1:Nat):Int)-1=(k:Int):=by omega
  rw[hk];refine gc (l7 a k ha) ?_;refine gc (l7 b k hb) ?_;refine gC (fun z=>?_) (fun z=>?_)
  ·have h3 : ak a k ≠ ak b k := by simpa [aa, ZD] using z
   refine gc (l7 a k ha) ?_;refine gc (l7 b k hb) ?_;refine gC (fun z=>?_) (fun z=>?_)
   ·have h4 : ak a k < ak b k := by simpa [aa] using z
    have h5:=HZ ha hd h4;refine ah ?_;simp[i64,h5]
   have h4:ak b k<ak a k:=by have:ak b k<=ak a k:=(by simpa[aa]using z);omega
   have h5:=HZ hb hd.symm h4;refine ah ?_;simp[i64,h5,Nat.lt_asymm h5]
  have h3:ak a k=ak b k:=by simpa[aa,ZD]using z
  refine ga (dP oz) ?_;exact aR J1 k ⟨by omega,by rw[un a,un b,hd,h3]⟩
 have hn0:n=0:=by have:=z;simp[aa]at this;omega
 subst hn0;refine ah ?_;simp at hd;simp[i64,hd]
theorem CU(a b:List Nat)(ha:Ws a)(hb:Ws b)(la:a.length<aK)(lb:b.length<aK):FP 369 [ws a,ws b] (ws (ofNat (val a+val b))):=by
 unfold aK at la lb;obtain⟨n,hn⟩:∃n,n=max a.length b.length+1:=⟨_,rfl⟩
 refine aj func369 ?_;refine gl ?_;refine gl ?_;refine gs (pX (.tmp rfl) (.tmp rfl) rfl) ?_;refine ga (show _=(n:Int) by rw[dq oz];omega) ?_;refine gW (Wk.virt 900 1 rfl) ?_;refine i9 [0,1,14] [] (fun(out:List Nat)(c i:Nat)=>[pP 5 (.ms 900 1 0 i),pP 6 (u64 c),pP 15 (i64 i)]) (fun out _ _=>[pP 900 (.row 1 (out.map u32))]) (fun out c i=>out.length=i/\i<=n/\Ws out/\c<=1/\val out+c*4294967296^i=val (a.take i)+val (b.take i)) (fun _ _ i=>n-i) ([]) 0 0 ⟨rfl,by omega,tF,by omega,by simp[val]⟩ ?_;rintro out c i ⟨ho,hi,hw,hc,hv⟩ K1 J1;refine gC (fun z=>?_) (fun z=>?_) (st2:=(9,0))
 ·have hin : i < n := by simpa [aa] using z
  have h1:=cf ha i;have h2:=cf hb i;obtain⟨s,hs⟩:∃s,s=c+(ak a i+ak b i):=⟨_,rfl⟩
  have h3:=Bn (u:=ak a i) (w:=ak b i) hv;rw[<- hs]at h3;refine gc (by apply l7 <;> assumption) ?_;refine gc (by apply l7 <;> assumption) ?_;refine ga (ju oz) ?_;refine ga ((ju oz).trans (show _=(s:Int) by congr 1;omega)) ?_;refine gv (dN _) ?_;refine gs (cK (.tmp rfl) rfl (by rw[aar,ho]) (.tmp rfl) T104 rfl T354 rfl rfl (by simp;omega) rfl rfl) ?_;refine gs (ff (.tmp rfl) (.const _) oz (ig _ 32 oz) rfl) ?_ (8,0);refine gW (Wk.of (sl:=[pP 0 (ws a),pP 1 (ws b),pP 5 (.ms 31 1 0 (i+1)),pP 6 (u64 (s/2^32)),pP 14 (i64 n),pP 15 (i64 i)]) (hp:=[pP 31 (.row 1 ((out++[s%4294967296]).map u32))]) bb (.cons rfl (BlkSub.of (by rw[abf];rfl)) .nil)) ?_ (8,0);refine gW (Wk.rk (k:=31) (d:=900) rfl rfl) ?_;refine ga (dq oz) ?_;exact ik J1 (out++[s%4294967296]) (s/2^32) (i+1) ⟨by simp[ho],by omega,yk hw (uz oz),by omega,by rw[IL ho,dB,dB,Yj];exact h3⟩
 have hin:i=n:=by have:n<=i:=(by simpa[aa]using z);omega
 refine gW ((Wk.freeze (k:=900) rfl).trans<|Wk.of (sl:=[pP 5 (ws out)]) (hp:=[]) (.cons rfl (Sub.of (b7 (by simp[ho]))) .nil) .nil) ?_;refine gc (qX out hw (by unfold aK;omega)) ?_;refine ah ?_;subst hin;rw[KI ha hb hn ho (by rw[fq (l:=out) oz];exact hv)]
theorem yK(a b:List Nat)(ha:Ws a)(hb:Ws b)(la:a.length<aK)(hle:val b<=val a):FP 370 [ws a,ws b] (ws (ofNat (val a-val b))):=by
 unfold aK at la;obtain⟨n,hn⟩:∃n,n=a.length:=⟨_,rfl⟩
 refine aj func370 ?_;refine gl ?_;refine gW (Wk.virt 900 1 rfl) ?_;refine i9 [0,1] [] (fun(out:List Nat)(c i:Nat)=>[pP 5 (.ms 900 1 0 i),pP 6 (u64 c),pP 10 (i64 n),pP 11 (i64 i)]) (fun out _ _=>[pP 900 (.row 1 (out.map u32))]) (fun out c i=>out.length=i/\i<=n/\Ws out/\c<=1/\val out+val (b.take i)=val (a.take i)+c*4294967296^i) (fun _ _ i=>n-i) ([]) 0 0 ⟨rfl,by omega,tF,by omega,by simp[val]⟩ ?_ (h1:=(.k (.k (.cons rfl (Sub.int (by rw[hn])) (.k .nil)))))
 rintro out c i ⟨ho,hi,hw,hc,hv⟩ K1 J1;refine gC (fun z=>?_) (fun z=>?_) (st2:=(9,0))
 ·have hin : i < n := by simpa [aa] using z
  have h1:=cf ha i;have h2:=cf hb i;obtain⟨s,hs⟩:∃s,s=4294967296+ak a i-ak b i-c:=⟨_,rfl⟩
  have h3:=Fy h1 h2 hc hv;rw[<- hs]at h3;refine gc (by apply l7 <;> assumption) ?_;refine ga ((ju (x:=4294967296) oz)) ?_;refine gc (by apply l7 <;> assumption) ?_;refine ga ((kL oz oz).trans (by rw[ab6 oz])) ?_;refine ga ((kL oz oz).trans (show _=(s:Int) by rw[ab6 oz];congr 1;omega)) ?_;refine gv (dN _) ?_;refine gs (cK (.tmp rfl) rfl (by rw[aar,ho]) (.tmp rfl) T104 rfl T354 rfl rfl (by simp;omega) rfl rfl) ?_;refine gs (ff (.tmp rfl) (.const _) oz (ig _ 32 oz) rfl) ?_;refine ga ((kL (x:=1) oz oz).trans (by rw[ab6 oz])) ?_ (8,0);refine gW (Wk.of (sl:=[pP 0 (ws a),pP 1 (ws b),pP 5 (.ms 28 1 0 (i+1)),pP 6 (u64 (1-s/2^32:Nat)),pP 10 (i64 n),pP 11 (i64 i)]) (hp:=[pP 28 (.row 1 ((out++[s%4294967296]).map u32))]) bb (.cons rfl (BlkSub.of (by rw[abf];rfl)) .nil)) ?_ (8,0);refine gW (Wk.rk (k:=28) (d:=900) rfl rfl) ?_;refine ga (dq oz) ?_;exact ik J1 (out++[s%4294967296]) (1-s/2^32) (i+1) ⟨by simp[ho],by omega,yk hw (uz oz),by omega,by rw[IL ho,dB,dB,Yj];exact h3⟩
 have hin:i=n:=by have:n<=i:=(by simpa[aa]using z);omega
 refine gW ((Wk.freeze (k:=900) rfl).trans<|Wk.of (sl:=[pP 5 (ws out)]) (hp:=[]) (.cons rfl (Sub.of (b7 (by simp[ho]))) .nil) .nil) ?_;refine gc (qX out hw (by unfold aK;omega)) ?_;refine ah ?_;subst hin;subst hn;rw[EL ha hw ho hle hv]
theorem Q4(a b:List Nat)(ha:Ws a)(hb:Ws b)(la:a.length+b.length<=aK):FP 386 [ws a,ws b] (ws (ofNat (val a*val b))):=by
 have la':=la;unfold aK at la;refine aj func386 ?_;refine gl ?_;refine gl ?_;refine ga (jQ (by unfold bc;omega) (by unfold bc;omega)) ?_;refine gs (iD (.tmp rfl) T104 rfl T354 rfl rfl oz (by dsimp only;omega) rfl) ?_;refine gl ?_;refine hO [0,1,17] [] (fun(out:List Nat)(i:Nat)=>[pP 5 (.ms 15 1 0 (a.length+b.length)),pP 18 (i64 i)]) (fun out _=>[pP 15 (.row 1 (out.map u32))]) (fun out i=>out.length=a.length+b.length/\i<=a.length/\Ws out/\val (out.take (i+b.length))=val (a.take i)*val b) (fun _ i=>a.length-i) (Y6 (a.length+b.length) 0) 0 ⟨by simp,by omega,lD _,by simp[val,vk]⟩ ?_ (h2:=(.cons rfl (BlkSub.of (by rw[abw];rfl)) .nil))
 rintro out i ⟨ho,hi,hw,hv⟩ K1 J1;refine gC (fun z=>?_) (fun z=>?_) (st2:=(14,0))
 ·have hin : i < a.length := by simpa [aa] using z
  have h1:=cf ha i;refine gl ?_;refine i9 [0,1,17,18,6,22] [] (fun(o:List Nat)(c k:Nat)=>[pP 5 (.ms 15 1 0 (a.length+b.length)),pP 7 (u64 c),pP 23 (i64 k)]) (fun o _ _=>[pP 15 (.row 1 (o.map u32))]) (fun o c k=>o.length=a.length+b.length/\k<=b.length/\Ws o/\c<4294967296/\val (o.take (i+b.length))+c*4294967296^(i+k)=val (out.take (i+b.length))+4294967296^i*(ak a i*val (b.take k))) (fun _ _ k=>b.length-k) out 0 0 ⟨ho,by omega,hw,by omega,by simp[val]⟩ ?_
  rintro o c k ⟨ho2,hk,hw2,hc,hv2⟩ K2 J2;refine gC (fun z=>?_) (fun z=>?_)
  ·have hkn : k < b.length := by simpa [aa] using z
   have h2:=cf hb k;have h3:=cf hw2 (i+k);have h4:=xJ h1 h2;obtain⟨s,hs⟩:∃s,s=c+(ak a i*ak b k+ak o (i+k)):=⟨_,rfl⟩
   have h5:=Dc (x:=s%4294967296) (show i+k<o.length by omega) (show i+k<i+b.length by omega);have h6:=IH h5 hs hv2;refine gi (ib (n:=i) oz (by first |omega |(simp;omega))) ?_;refine gv (u64_in oz) ?_;refine gi (ib (n:=k) oz (by first |omega |(simp;omega))) ?_;refine gv (u64_in oz) ?_;refine ga (vI oz) ?_;refine ga (jQ (by unfold bc;omega) (by unfold bc;omega)) ?_;refine gs (cg (n:=i+k) (.tmp rfl) (.tmp rfl) T104 rfl T354 rfl oz (by first |omega |(simp;omega)) rfl) ?_;refine gs (eK (.tmp rfl) rfl (cz (i:=i+k) oz) T354 rfl rfl rfl) ?_;refine gv (u64_in oz) ?_;refine ga (ju oz) ?_;refine ga ((ju oz).trans (show _=(s:Int) by congr 1;omega)) ?_;refine gD ?_;refine ga (jQ (by unfold bc;omega) (by unfold bc;omega)) ?_;refine gv (dN _) ?_;refine gs (ff (.tmp rfl) (.const _) oz (ig _ 32 oz) rfl) ?_;refine gs (cg (n:=i+k) (.tmp rfl) (.tmp rfl) T104 rfl T354 rfl oz (by first |omega |(simp;omega)) rfl) ?_;refine gs (dM (.tmp rfl) rfl (cz (i:=i+k) oz) rfl (.tmp rfl) rfl rfl T354 rfl rfl) ?_;refine ga (dq oz) ?_;exact ik J2 (o.set (i+k) (s%4294967296)) (s/2^32) (k+1) ⟨by simp[ho2],by omega,gw hw2 oz,by omega,by rw[show i+(k+1)=(i+k)+1 from rfl,show s/2^32=s/4294967296 from rfl,Yj,h6,dB];simp only[abq];grind⟩ (hw:=Wk.of bb (.cons rfl (BlkSub.of (by rw[ab0];rfl)) .nil))
  have hkn:k=b.length:=by have:b.length<=k:=(by simpa[aa]using z);omega
  subst hkn;have h5:=lC (x:=c) (show i+b.length<o.length by omega);rw[aa8]at hv2;refine gl ?_;refine ga (jQ (by unfold bc;omega) (by unfold bc;omega)) ?_;refine gv ((dN c).trans (by rw[Yz hc])) ?_;refine gs (cg (n:=i+b.length) (.tmp rfl) (.tmp rfl) T104 rfl T354 rfl oz (by first |omega |(simp;omega)) rfl) ?_;refine gs (dM (.tmp rfl) rfl (cz (i:=i+b.length) oz) rfl (.tmp rfl) rfl rfl T354 rfl rfl) ?_;refine ga (dq oz) ?_;exact gk J1 (o.set (i+b.length) c) (i+1) ⟨by simp[ho2],by omega,gw hw2 hc,by rw[show i+1+b.length=i+b.length+1 by omega,h5,dB];simp only[abq]at *;grind⟩ (hw:=Wk.of bb (.cons rfl (BlkSub.of (by rw[ab0];rfl)) .nil))
 have hin:i=a.length:=by have:a.length<=i:=(by simpa[aa]using z);omega
 subst hin;rw[aa8,fq oz]at hv;refine gW ((Wk.freeze (k:=15) rfl).trans<|Wk.of (sl:=[pP 5 (ws out)]) (hp:=[]) (.cons rfl (Sub.of (b7 (by simp[ho]))) .nil) .nil) ?_;refine gc (qX out hw oz) ?_;refine ah ?_;rw[hv]
theorem AX(a:Wh)(ha:a.ok):FP 267 [a.av] (i64 a.z.sign):=by
 obtain⟨e1,e2,e3⟩:=H6 ha;refine aj func267 ?_;refine gc (kM a ha) ?_;refine gl ?_;refine gC (fun z=>?_) (fun z=>?_)
 ·have h0 : a.m.length = 0 := by simpa [aa] using z
  refine ah ?_;rw[e1 h0];rfl
 have h0:a.m.length≠0:=by simpa[aa]using z
 have hval:a.valid=true:=by
  unfold Wh.m at h0;split at h0
  ·assumption
  ·exact acc rfl h0
 refine gc (jv a ha) ?_;refine gC (fun z=>?_) (fun z=>?_)
 ·have h1 : a.neg = true := by unfold Wh.n at z; rw [hval] at z; simpa using z
  refine ah ?_;rw[e2 h0 h1];rfl
 have h1:a.neg=false:=by unfold Wh.n at z;rw[hval]at z;simpa using z
 refine ah ?_;rw[e3 h0 h1];rfl
theorem Gm(a:Wh)(ha:a.ok)(la:a.mag.length<aK):FP 268 [a.av] (zA (-a.z)):=by
 refine aj func268 ?_;refine gc (jv a ha) ?_;refine gc (kM a ha) ?_;refine gc (kE _ a.m (Wh.ws ha) (Ym (Wh.small ha la))) ?_;refine gD ?_;refine ah ?_;rw[Wh.z_eq,<- GM];rfl
theorem Wd(a b:Wh)(ha:a.ok)(hb:b.ok)(la:a.mag.length+b.mag.length<=aK):FP 286 [a.av,b.av] (zA (a.z*b.z)):=by
 have h1:=Wh.m_le (w:=a);have h2:=Wh.m_le (w:=b);have h3:(ofNat (val a.m*val b.m)).length<=a.m.length+b.m.length:=fy (by rw[abq];exact YR (cr _ (Wh.ws ha)) (cr _ (Wh.ws hb)));refine aj func286 ?_;refine gc (jv a ha) ?_;refine gc (jv b hb) ?_;refine gc (kM a ha) ?_;refine gc (kM b hb) ?_;refine gc (Q4 a.m b.m (Wh.ws ha) (Wh.ws hb) oz) ?_;refine gc (kE _ _ (dG _) oz) ?_;refine gD ?_;refine ah ?_;rw[cA,G4];rfl
theorem Hf(a b:Wh)(ha:a.ok)(hb:b.ok)(la:a.mag.length<aK)(lb:b.mag.length<aK):FP 285 [a.av,b.av] (zA (a.z+b.z)):=by
 have h1:=Wh.m_le (w:=a);have h2:=Wh.m_le (w:=b);have hla:val a.m<4294967296^(max a.m.length b.m.length):=aba (cr _ (Wh.ws ha)) (YK oz oz);have hlb:val b.m<4294967296^(max a.m.length b.m.length):=aba (cr _ (Wh.ws hb)) (YK oz oz);have h3:(ofNat (val a.m+val b.m)).length<=max a.m.length b.m.length+1:=fy (by rw[Yj];omega);have h4:(ofNat (val a.m-val b.m)).length<=max a.m.length b.m.length:=fy oz;have h5:(ofNat (val b.m-val a.m)).length<=max a.m.length b.m.length:=fy oz;refine aj func285 ?_;refine gc (kM a ha) ?_;refine gc (kM b hb) ?_;refine gD ?_;refine gc (jv a ha) ?_;refine gc (jv b hb) ?_;refine gD ?_;refine gC (fun z=>?_) (fun z=>?_)
 ·have h0 : a.n = b.n := by simpa using z
  refine gc (jv a ha) ?_;refine gc (CU a.m b.m (Wh.ws ha) (Wh.ws hb) oz oz) ?_;refine gc (kE _ _ (dG _) oz) ?_;refine ah ?_;rw[cA,HI h0];rfl
 have h0:a.n≠b.n:=by simpa using z
 refine gc (Bp a.m b.m (Wh.ws ha) (Wh.ws hb)) ?_;refine gC (fun t25=>?_) (fun t25=>?_)
 ·have h6:val b.m<=val a.m:=by
   rcases aay (val a.m) (val b.m)with h |h
   ·rw[ab6 h]at t25;cases t25
   ·exact h
  refine gc (jv a ha) ?_;refine gc (yK a.m b.m (Wh.ws ha) (Wh.ws hb) oz oz) ?_;refine gc (kE _ _ (dG _) oz) ?_;refine ah ?_;rw[cA,AE h0 h6];rfl
 have h6:val a.m<val b.m:=by
  rcases aay (val a.m) (val b.m)with h |h
  ·exact h
  ·rw[ab5 oz]at t25;split at t25 <;> cases t25
 refine gc (jv b hb) ?_;refine gc (yK b.m a.m (Wh.ws hb) (Wh.ws ha) oz oz) ?_;refine gc (kE _ _ (dG _) oz) ?_;refine ah ?_;rw[cA,IX h0 oz];rfl
theorem EC(n:Int)(h:-9223372036854775808<=n/\n<=9223372036854775807):FP 141 [i64 n] (zA n):=by
 obtain⟨N,hN⟩:∃N,N=n.natAbs:=⟨_,rfl⟩
 have hNB:N<18446744073709551616:=by omega
 refine aj func141 ?_;refine gv (show IntKind.u64.wrap n=((n%18446744073709551616:Int)) by simp only[IntKind.wrap,IntKind.signed,IntKind.bits,ZZ,if_false,ZX];omega) ?_;refine gC (fun z=>?_) (fun z=>?_) (st2:=(77777,0))
 ·have hn : n < 0 := by simpa [aa] using z
  refine gs (yA (.tmp rfl) rfl) ?_ (4,0);refine gW (Wk.of (sl:=[pP 0 (i64 n),pP 2 (.ptr 2 0),pP 3 (u64 N)]) (hp:=[pP 2 (.box [.v (.bool false),nS])]) (.k (.k (.cons rfl (Sub.int (by simp only[IntKind.wrap,IntKind.signed,IntKind.bits,ZZ,if_false,ZX];omega)) .nil))) (.k .nil)) ?_;refine gv (dN _) ?_;refine gs (ff (.tmp rfl) (.const _) oz (ig _ 32 oz) rfl) ?_;refine gv ((dN _).trans (by rw[Yz (show N/2^32<4294967296 by omega)])) ?_;refine gc (kE (aa .lss n 0) [N%4294967296,N/2^32] (wG hNB) (by unfold aK;simp)) ?_;refine ah ?_;rw[vz hNB,show sgn (aa .lss n 0) N=n by simp only[sgn,aa,ab7];split <;> omega];rfl
 have hn:¬n<0:=by simpa[aa]using z
 refine gW (Wk.of (sl:=[pP 0 (i64 n),pP 2 (.ptr 2 0),pP 3 (u64 N)]) (hp:=[pP 2 (.box [.v (.bool false),nS])]) (.k (.k (.cons rfl (Sub.int oz) .nil))) (.k .nil)) ?_;refine gv (dN _) ?_;refine gs (ff (.tmp rfl) (.const _) oz (ig _ 32 oz) rfl) ?_;refine gv ((dN _).trans (by rw[Yz (show N/2^32<4294967296 by omega)])) ?_;refine gc (kE (aa .lss n 0) [N%4294967296,N/2^32] (wG hNB) (by unfold aK;simp)) ?_;refine ah ?_;rw[vz hNB,show sgn (aa .lss n 0) N=n by simp only[sgn,aa,ab7];split <;> omega];rfl
theorem RH(a b:Wh)(ha:a.ok)(hb:b.ok)(la:a.mag.length<aK)(lb:b.mag.length<aK):FP 398 [a.av,b.av] (zA (a.z-b.z)):=by
 have h1:=(Wh.lz hb).neg;have h2:=DJ h1;refine aj func398 ?_;refine gc (Gm b hb lb) ?_;refine gc (Hf a (ofInt (-b.z)) ha (EV h1 hb.2) la oz) ?_;refine gD ?_;refine ah ?_;rw[dX,<- Int.sub_eq_add_neg];rfl
theorem Tm(a b:Wh)(ha:a.ok)(hb:b.ok)(la:a.mag.length<aK)(lb:b.mag.length<aK):FP 306 [a.av,b.av] (i64 (gQ a.z b.z)):=by
 have h1:=(Wh.lz ha).sub (Wh.lz hb);have h2:=DJ h1;refine aj func306 ?_;refine gc (RH a b ha hb la lb) ?_;refine gc (AX (ofInt (a.z-b.z)) (EV h1 (by unfold bc;unfold aK at la lb;omega))) ?_;refine ah ?_;rw[dX,PA]
theorem p6{A:List Nat}{n:Nat}:AV.lst 1 (((A.map u32).drop 0).take n)=ws (A.take n):=by
 rw[ab1,<- map_take];rfl
theorem Kz(A:List Nat):(Blk.row 1 (A.map u32)).sc=true:=by
 simp only[Blk.sc,List.all_map];rw[aa3];intro x _;rfl
theorem ot{A:List Nat}{n i:Nat}(h:i<n):ak (A.take n) i=ak A i:=by
 simp[ak,h]
theorem EW{A:List Nat}{n i:Nat}(h:n<=i):ak (A.take n) i=0:=qg (by simp;omega)
theorem Mh{x:Nat}(h:0<x):bg x=bg (x/2)+1:=by
 rcases aay x 2 with h1 |h1
 ·have : x = 1 := by omega
  subst this;decide
 ·have:=sk (x:=x) (k:=1) oz;rw[show x/2^1=x/2 from rfl]at this;omega
theorem Wa{a:List Nat}{n:Nat}(ha:Ws a)(na:Nz a)(hl:a.length=n+1):bg (val a)=32*n+bg (ak a n):=by
 have ht:ak a n≠0:=by
  refine na _ ?_;rw[Zd,hl];exact jK oz
 have hv:val a=val (a.take n)+4294967296^n*ak a n:=by rw[<- dB,fq oz]
 have hlt:=oW ha n;have hp:(4294967296:Nat)^n=2^(32*n):=by rw[Yk]
 rw[hp]at hv hlt
 have h1:val a/2^(32*n)=ak a n:=by
  rw[hv,Yd _ _ (YP oz),YI hlt,Yf]
 have h2:2^(32*n)<=val a:=by
  have:=aaz (2^(32*n)) (show 1<=ak a n by omega);omega
 rw[sk h2,h1]
theorem GW{o A:List Nat}{n v:Nat}(ho:Ws o)(hl:o.length=A.length)(hn:n<=A.length)(hd:o.drop n=A.drop n)(hv:val (o.take n)=v):o=wr A 0 (bp n v):=by
 have h1:bK o 0 n=bp n v:=wP (ni ho _ _) (pI oz) (by rw[bK,ab1,hv]);rw[<- h1];exact yF (by simp) (by rw[Yf];exact hd) oz
theorem Bb(k:Nat)(A:List Nat)(n i:Nat)(hA:Ws A)(hn:n<=A.length) :
  Con prog 428 [.ms k 1 0 n,i64 i] [(k,some (.row 1 (A.map u32)))] (u64 (ak (A.take n) i)) [(k,some (.row 1 (A.map u32)))]:=by
 refine Con.borrow (args:=[ws (A.take n),i64 i]) k 1 (A.map u32) rfl rfl rfl ?_ rfl (fun k' x h=>by cases h) (l7 (A.take n) i (gj hA n));intro j x' hj
 match j,hj with
 |0,hj=>cases hj;exact .inr ⟨0,n,rfl,by simpa using hn,by rw[p6];rfl⟩
 |1,hj=>cases hj;exact .inl rfl
theorem UY(k1 k2:Nat)(hk:k1≠k2)(A D:List Nat)(n p:Nat)(hA:Ws A)(hD:Ws D)(hn:n<=A.length)(hp:p<=D.length) :
  Con prog 385 [.ms k1 1 0 n,.ms k2 1 0 p] [(k1,some (.row 1 (A.map u32))),(k2,some (.row 1 (D.map u32)))]
   (i64 (if val (A.take n)<val (D.take p)then -1 else if val (D.take p)<val (A.take n)then 1 else 0)) [(k1,some (.row 1 (A.map u32))),(k2,some (.row 1 (D.map u32)))]:=by
 have h1:Con prog 385 [ws (A.take n),.ms k2 1 0 p] [(k2,some (.row 1 (D.map u32)))]
   (i64 (if val (A.take n)<val (D.take p)then -1 else if val (D.take p)<val (A.take n)then 1 else 0)) [(k2,some (.row 1 (D.map u32)))]:=by
  refine Con.borrow (args:=[ws (A.take n),ws (D.take p)]) k2 1 (D.map u32) rfl rfl rfl ?_ rfl (fun k' x h=>by cases h) (Bp (A.take n) (D.take p) (gj hA n) (gj hD p));intro j x' hj
  match j,hj with
  |0,hj=>cases hj;exact .inl rfl
  |1,hj=>cases hj;exact .inr ⟨0,p,rfl,by simpa using hp,by rw[p6];rfl⟩
 refine Con.borrow (args:=[ws (A.take n),.ms k2 1 0 p]) k1 1 (A.map u32) ?_ ?_ rfl ?_ rfl ?_ h1
 ·rw[aY,ab5 hk];rfl
 ·rw[aY,ab5 hk];rfl
 ·intro j x' hj
  match j,hj with
  |0,hj=>cases hj;exact .inr ⟨0,n,rfl,by simpa using hn,by rw[p6];rfl⟩
  |1,hj=>cases hj;exact .inl rfl
 ·intro k' x h;obtain⟨_,h⟩:=fV h;cases h;exact Kz D
theorem ME(k:Nat)(A b:List Nat)(n:Nat)(hA:Ws A)(hb:Ws b)(hn:n<=A.length) :
  Con prog 385 [.ms k 1 0 n,ws b] [(k,some (.row 1 (A.map u32)))]
   (i64 (if val (A.take n)<val b then -1 else if val b<val (A.take n)then 1 else 0)) [(k,some (.row 1 (A.map u32)))]:=by
 refine Con.borrow (args:=[ws (A.take n),ws b]) k 1 (A.map u32) rfl rfl rfl ?_ rfl (fun k' x h=>by cases h) (Bp (A.take n) b (gj hA n) hb);intro j x' hj
 match j,hj with
 |0,hj=>cases hj;exact .inr ⟨0,n,rfl,by simpa using hn,by rw[p6];rfl⟩
 |1,hj=>cases hj;exact .inl rfl
theorem Ll(a:List Nat)(ha:Ws a)(na:Nz a)(la:a.length<=aK):FP 427 [ws a] (i64 (bg (val a))):=by
 unfold aK at la;refine aj func427 ?_;refine gl ?_;refine gC (fun z=>?_) (fun z=>?_)
 ·have h0 : a=[] := ZA.1 (by simpa[aa]using z);refine ah ?_;subst h0;rfl
 have h0:a.length≠0:=by simpa[aa]using z
 obtain⟨n,hn⟩:∃n,a.length=n+1:=⟨a.length-1,by omega⟩
 have hB:=Wa ha na hn;have ht:=cf ha n;refine gl ?_;refine ga (show _=(n:Int) by rw[dP oz];omega) ?_;refine ga (show _=((32*n:Nat):Int) by rw[Cq oz];omega) ?_;refine gl ?_;refine ga (show _=(n:Int) by rw[dP oz];omega) ?_;refine gi (ib (n:=n) oz (by first |omega |(simp;omega))) ?_;refine hO [] [] (fun(x c:Nat)=>[pP 3 (i64 c),pP 4 (u32 x)]) (fun _ _=>[]) (fun x c=>x<4294967296/\c<=281474976710656/\c+bg x=bg (val a)) (fun x _=>x) (ak a n) (32*n) ⟨ht,by omega,hB.symm⟩ ?_;rintro x c ⟨hx,hc,hv⟩ K1 J1;refine gC (fun z=>?_) (fun z=>?_)
 ·have hx0 : 0 < x := by simpa [aa] using z
  have h2:=Mh hx0
  have h3:bg (val a)<=32*n+32:=by
   have:=(zP (x:=ak a n)  (by
    refine na _ ?_;rw[Zd,hn];exact jK oz) ht).1
   omega
  refine ga (show _=((c+1:Nat):Int) by rw[dq oz];omega) ?_;refine gs (ff (.tmp rfl) (.const _) oz (qj x 1 oz) rfl) ?_;exact gk J1 (x/2^1) (c+1) ⟨by omega,by omega,by rw[show x/2^1=x/2 from rfl];omega⟩
 have hx0:x=0:=by have:x<=0:=(by simpa[aa]using z);omega
 subst hx0;refine ah ?_;rw[<- hv];rfl
theorem z6(A:List Nat)(n:Nat)(hA:Ws A)(hn:n<=A.length)(la:A.length<=aK) :
  Con prog 426 [.ms 1000 1 0 n] [pP 1000 (.row 1 (A.map u32))] (.ms 1000 1 0 (ofNat (val (A.take n))).length) [pP 1000 (.row 1 (A.map u32))]:=by
 unfold aK at la;refine gF func426 (fun k z h=>bO h) ?_;refine aW [] [1000] (fun(j:Nat)=>[pP 0 (.ms 1000 1 0 j)]) (fun _=>[]) (fun j=>j<=n/\val (A.take j)=val (A.take n)) (fun j=>j) n ⟨aau _,rfl⟩ ?_;rintro j ⟨hj,hv⟩ K1 J1;refine oD (fun h=>(j7 (by simp[aa]at h;omega) (by unfold bc;omega))) ?_;refine gs (fa rfl rfl rfl (fun h=>cg (n:=j-1) (.opt rfl (o1 h)) (.opt rfl (o1 h)) T104 rfl T354 rfl oz (by simp[aa]at h;omega) rfl)) ?_;refine gs (fa rfl rfl rfl (fun h=>eK (.opt rfl (o1 h)) rfl (cz (i:=j-1) (by simp[aa]at h;omega)) T354 rfl rfl rfl)) ?_;refine gC (fun t14=>?_) (fun t14=>?_)
 ·have t14 : 0 < j /\ ak A (j - 1) = 0 := by simpa [aa] using t14
  refine ga (j7 oz (by unfold bc;omega)) ?_;refine gs (vW (.tmp rfl) (.none _) (.some _ (.tmp rfl) oz) T104 rfl T354 rfl oz oz rfl) ?_;exact aR J1 (j-1) ⟨by omega,by have h:=@dB A (j-1);rw[show j-1+1=j by omega,t14.2]at h;simp at h;omega⟩ (hw:=Wk.of (.cons rfl (Sub.of (by congr 1)) .nil) (.k .nil))
 have t14:0<j->ak A (j-1)≠0:=by simpa[aa]using t14
 have hn1 := Ga (m := A.take n) (n := j) (gj hA n) (by simp; omega) (by rw [Y9, Yu hj]; exact hv) (by
  rcases X8 j with h |h
  ·exact .inl h
  ·exact .inr (by rw[ot oz];exact t14 h))
 subst hn1;refine gR ?_;exact aC.own2 rfl rfl rfl
theorem vh(A:List Nat)(n:Nat)(hA:Ws A)(hn:n<=A.length)(la:A.length<=aK) :
  Con prog 424 [.ms 1000 1 0 n] [pP 1000 (.row 1 (A.map u32))] (.ms 1000 1 0 (ofNat (val (A.take n)/2)).length) [pP 1000 (.row 1 ((wr A 0 (bp n (val (A.take n)/2))).map u32))]:=by
 have la':=la;unfold aK at la;refine gF func424 (fun k z h=>bO h) ?_;refine hO [5] [] (fun(o:List Nat)(i:Nat)=>[pP 0 (.ms 1000 1 0 n),pP 6 (i64 i)]) (fun o _=>[pP 1000 (.row 1 (o.map u32))]) (fun o i=>o.length=A.length/\i<=n/\Ws o/\o.drop i=A.drop i/\val (o.take i)=val (A.take n)/2^1%4294967296^i) (fun _ i=>n-i) A 0 ⟨rfl,by omega,hA,rfl,by simp[val,Nat.mod_one]⟩ ?_;rintro o i ⟨ho,hi,hw,hd,hv⟩ K1 J1;refine gC (fun u=>?_) (fun u=>?_)
 ·have hin : i < n := by simpa [aa] using u
  have e1:ak (o.take n) i=ak (A.take n) i:=by rw[ot hin,ot hin];exact qF hd
  have hd2:o.drop (i+1)=A.drop (i+1):=by
   have h1:(o.drop i).drop 1=(A.drop i).drop 1:=by rw[hd]
   rwa [drop_drop,drop_drop]at h1
  have e2:ak (o.take n) (i+1)=ak (A.take n) (i+1):=by
   rcases aay (i+1) n with h |h
   ·rw[ot h,ot h];exact qF hd2
   ·rw[EW h,EW h]
  have b1:=cf (gj hA n) i;have b2:=cf (gj hA n) (i+1);have h3:=KC (n:=1) (gj hA n) (show i<(A.take n).length by simp;omega) (show i<o.length by omega) oz hv;refine gt (aE (Bb 1000 o n i hw oz) (bC rfl rfl) aG rfl rfl) ?_;refine gs (ff (.tmp rfl) (.const _) oz ((ig _ 1 oz).trans (by rw[e1])) rfl) ?_;refine ga (jQ (y:=1) (by unfold bc;omega) (by unfold bc;omega)) ?_;refine gt (aE (Bb 1000 o n (i+1) hw oz) (bC rfl rfl) aG rfl rfl) ?_;refine gs (ia (.tmp rfl) (.const _) oz ((qK (n:=31) oz oz).trans (by rw[e2])) rfl) ?_;refine gs (jL (.tmp rfl) (.tmp rfl) rfl ((ui oz oz).trans (by rw[zg oz])) rfl) ?_;refine gv ((dN _).trans (show _=(((ak (A.take n) i+ak (A.take n) (i+1)*2^32)/2^1%4294967296:Nat):Int) by congr 1;omega)) ?_;refine gs (cg (n:=i) (.tmp rfl) (.tmp rfl) T104 rfl T354 rfl oz (by first |omega |(simp;omega)) rfl) ?_;refine gs (dM (.tmp rfl) rfl (cz (i:=i) oz) rfl (.tmp rfl) rfl rfl T354 rfl rfl) ?_;refine ga (dq oz) ?_;exact gk J1 (o.set i ((ak (A.take n) i+ak (A.take n) (i+1)*2^32)/2^1%4294967296)) (i+1) ⟨by simp[ho],by omega,gw hw oz,tN hd,h3⟩ (hw:=Wk.of bb (.cons rfl (BlkSub.of (by rw[ab0];rfl)) .nil))
 have hin:i=n:=by have:n<=i:=(by simpa[aa]using u);omega
 subst hin;have hlt:=oW hA i;have hv':val (o.take i)=val (A.take i)/2:=by rw[hv,Yz oz]
 have h9:=GW hw ho hn hd hv';refine gt (aE (z6 o i hw oz oz) (cG rfl) aG rfl rfl) ?_;refine gR ?_;exact aC.own2 rfl (by rw[<- h9]) (by rw[hv'];rfl)
theorem Jy(A b:List Nat)(n:Nat)(hA:Ws A)(hb:Ws b)(hn:n<=A.length)(la:A.length<=aK)(hle:val b<=val (A.take n)) :
  Con prog 425 [.ms 1000 1 0 n,ws b] [pP 1000 (.row 1 (A.map u32))] (.tup []) [pP 1000 (.row 1 ((wr A 0 (bp n (val (A.take n)-val b))).map u32))]:=by
 unfold aK at la;refine gF func425 (fun k z h=>bO h) ?_;refine i9 [1,8] [] (fun(o:List Nat)(c i:Nat)=>[pP 0 (.ms 1000 1 0 n),pP 4 (u64 c),pP 9 (i64 i)]) (fun o _ _=>[pP 1000 (.row 1 (o.map u32))]) (fun o c i=>o.length=A.length/\i<=n/\Ws o/\c<=1/\o.drop i=A.drop i/\val (o.take i)+val (b.take i)=val (A.take i)+c*4294967296^i) (fun _ _ i=>n-i) A 0 0 ⟨rfl,by omega,hA,by omega,rfl,by simp[val]⟩ ?_;rintro o c i ⟨ho,hi,hw,hc,hd,hv⟩ K1 J1;refine gC (fun y=>?_) (fun y=>?_)
 ·have hin : i < n := by simpa [aa] using y
  have e1:ak (o.take n) i=ak A i:=by rw[ot hin];exact qF hd
  have h1:=cf hA i;have h2:=cf hb i;obtain⟨s,hs⟩:∃s,s=4294967296+ak A i-ak b i-c:=⟨_,rfl⟩
  have h3:=Fy h1 h2 hc hv;rw[<- hs]at h3;refine gt (aE (Bb 1000 o n i hw oz) (bC rfl rfl) aG rfl rfl) ?_;refine ga ((ju (x:=4294967296) oz).trans (by rw[e1])) ?_;refine gc (l7 b i hb) ?_;refine ga ((kL oz oz).trans (by rw[ab6 oz])) ?_;refine ga ((kL oz oz).trans (show _=(s:Int) by rw[ab6 oz];congr 1;omega)) ?_;refine gv (dN _) ?_;refine gs (ff (.tmp rfl) (.const _) oz (ig _ 32 oz) rfl) ?_;refine ga ((kL (x:=1) oz oz).trans (by rw[ab6 oz])) ?_;refine gs (cg (n:=i) (.tmp rfl) (.tmp rfl) T104 rfl T354 rfl oz (by first |omega |(simp;omega)) rfl) ?_;refine gs (dM (.tmp rfl) rfl (cz (i:=i) oz) rfl (.tmp rfl) rfl rfl T354 rfl rfl) ?_;refine ga (dq oz) ?_;exact ik J1 (o.set i (s%4294967296)) (1-s/2^32) (i+1) ⟨by simp[ho],by omega,gw hw oz,by omega,tN hd,by rw[lC oz,dB,dB,Yj];exact h3⟩ (hw:=Wk.of bb (.cons rfl (BlkSub.of (by rw[ab0];rfl)) .nil))
 have hin:i=n:=by have:n<=i:=(by simpa[aa]using y);omega
 subst hin;have hl:(A.take i).length=i:=by simp;omega
 have h4:=EL (a:=A.take i) (b:=b) (out:=o.take i) (gj hA i) (gj hw i) (by simp;omega) hle (by rw[hl,aa7 (show(A.take i).length<=i by omega)];exact hv);have h9:=GW hw ho hn hd h4;refine gR ?_;exact aC.own2 rfl (by rw[<- h9]) rfl
theorem DG{x:Nat}(h:x<=9223372036854775807):IntKind.i64.wrap ((x:Int).tdiv 32)=((x/32:Nat):Int):=by
 rw[show(32:Int)=((32:Nat):Int)from rfl,<- Int.ofNat_tdiv];exact i64_in oz
theorem Gf{x:Nat}:(x:Int).tmod 32=((x%32:Nat):Int):=(Int.ofNat_tmod _ _).symm
theorem s6(i:Nat):(4294967296:Nat)^i=2^(32*i):=by rw[Yk]
theorem Rg{a:List Nat}(ha:Ws a){k:Nat}(hk:k/32<a.length):ak a (k/32)/2^(k%32)%2=val a/2^k%2:=by
 have h1:val a/2^k=(val a/4294967296^(k/32))/2^(k%32):=by
  rw[s6,Yi,<- abq];congr 2;omega
 rw[h1,xP ha _ oz,un];generalize val (a.drop (k/32+1))=R
 have h2:4294967296*R=2^(k%32)*(2*(2^(31-k%32)*R)):=by
  have:(4294967296:Nat)=2^(k%32)*(2*2^(31-k%32)):=by
   rw[<- Nat.pow_succ',<- abq,show k%32+(31-k%32).succ=32 by omega]
  conv=>lhs;rw[this]
  grind
 rw[h2,Yd _ _ (YP oz),YE]
theorem TM{w c:Nat}(hc:c<=1):w*2^1%4294967296 ||| c=w*2^1%4294967296+c:=by
 have h:w*2^1%4294967296=(w%2147483648)*2^1:=by omega
 rw[h];exact uH oz
theorem Lx{o c P rt w bit:Nat}(hw:w<4294967296)(h:o+c*P=2*rt+bit) :
  (o+P*(w*2^1%4294967296+c))+(w/2^31)*(P*4294967296)=2*(rt+P*w)+bit:=by
 have h0:w*2^1%4294967296+(w/2^31)*4294967296=2*w:=by omega
 generalize w*2^1%4294967296=r at *;generalize w/2^31=q at *;grind
theorem WM{q:List Nat}(hq:Ws q){k Y:Nat}(hk:k/32<q.length)(h:val q=2^(k+1)*Y) :
  ak q (k/32) ||| 2^(k%32)=ak q (k/32)+2^(k%32)/\ak q (k/32)+2^(k%32)<4294967296:=by
 have h1:=xP hq (k/32) oz;rw[un,h,s6,show k+1=32*(k/32)+(k%32+1) by omega,abq,Yw,Nat.mul_div_cancel_left _ (YP oz)]at h1;have hw:=cf hq (k/32);generalize ak q (k/32)=w at *;generalize val (q.drop (k/32+1))=R at *
 have hB:(4294967296:Nat)=2^(k%32+1)*2^(31-k%32):=by
  rw[<- abq,show k%32+1+(31-k%32)=32 by omega]
 have h2:w%2^(k%32+1)=0:=by
  have h3:(w+4294967296*R)%2^(k%32+1)=0:=by rw[<- h1];exact Nat.mul_mod_right _ _
  rw[hB,Yw,YE]at h3;exact h3
 have h4:w=2^(k%32+1)*(w/2^(k%32+1)):=by
  have:=Yc w (2^(k%32+1));omega
 have h5:2^(k%32)<2^(k%32+1):=by rw[Yj];have:=YP (n:=k%32) (show 0<2 by omega);omega
 constructor
 ·rw[h4];exact(Nat.two_pow_add_eq_or_of_lt h5 _).symm
 ·have h6:w/2^(k%32+1)<2^(31-k%32):=by
   rw[YA (YP oz),Yn,<- hB];exact hw
  have h7:=aaz (2^(k%32+1)) (show w/2^(k%32+1)+1<=2^(31-k%32)from h6);rw[<- hB,Yt,<- h4]at h7;omega
theorem QN{q:List Nat}(hq:Ws q){k Y:Nat}(hk:k/32<q.length)(h:val q=2^(k+1)*Y) :
  val (q.set (k/32) (ak q (k/32)+2^(k%32)))=2^k*(2*Y+1):=by
 have h1:=Av (x:=ak q (k/32)+2^(k%32)) hk;rw[Yt]at h1;have h2:4294967296^(k/32)*2^(k%32)=2^k:=by rw[s6,<- abq];congr 1;omega
 rw[h2,h,Yj]at h1;grind
theorem S4{V Bv k:Nat}(hB:0<Bv) :
  (Bv<=2*(V/2^(k+1)%Bv)+V/2^k%2->V/2^k%Bv=2*(V/2^(k+1)%Bv)+V/2^k%2-Bv/\V/2^k/Bv=2*(V/2^(k+1)/Bv)+1) /\
  (2*(V/2^(k+1)%Bv)+V/2^k%2<Bv->V/2^k%Bv=2*(V/2^(k+1)%Bv)+V/2^k%2/\V/2^k/Bv=2*(V/2^(k+1)/Bv)):=by
 have h1:V/2^(k+1)=V/2^k/2:=by rw[Yj,Yi]
 rw[h1];generalize V/2^k=X;have h2:=Yc X 2;have h3:=Yc (X/2) Bv;have h4:=Ye (X/2) hB;have h5:=Ye X (show 0<2 by omega);generalize X/2%Bv=r at *;generalize X/2/Bv=q at *;generalize X%2=b at *;generalize X/2=Y at *;constructor
 ·intro h;have:=xy (a:=X) (w:=Bv) (q:=2*q+1) (r:=2*r+b-Bv) (by rw[Yt,Nat.mul_one,show Bv*(2*q)=2*(Bv*q) by grind];omega) oz;exact⟨this.2,this.1⟩
 ·intro h;have:=xy (a:=X) (w:=Bv) (q:=2*q) (r:=2*r+b) (by rw[show Bv*(2*q)=2*(Bv*q) by grind];omega) oz;exact⟨this.2,this.1⟩
theorem N9{A l:List Nat}(h:l.length=A.length):wr A 0 l=l:=by
 unfold wr;rw[abm oz];simp
theorem DC{V:Nat}:V/2^bg V=0:=YI wn
theorem GC{a:List Nat}(ha:Ws a){k:Nat}(h:k<bg (val a)):k/32<a.length:=by
 rcases aay (k/32) a.length with h1 |h1
 ·exact h1
 ·exfalso;have h2:=cr a ha;rw [s6] at h2;have h3:val a ≠ 0:=by intro h0; rw [h0] at h; simp [bg] at h
  have h4:=wY h3;have h5:2^(32*a.length)<=2^(bg (val a)-1):=pi oz;omega
theorem XY(a b:List Nat)(ha:Ws a)(hb:Ws b)(na:Nz a)(hb0:val b≠0)(la:a.length<aK)(lb:b.length<aK) :
  FP 368 [ws a,ws b] (.tup [ws (ofNat (val a/val b)),ws (ofNat (val a%val b))]):=by
 have la':=la;have lb':=lb;unfold aK at la lb;obtain⟨V,hV⟩:∃V,V=val a:=⟨_,rfl⟩
 obtain⟨Bv,hBv⟩:∃Bv,Bv=val b:=⟨_,rfl⟩
 have hBp:0<Bv:=by omega
 have hBl:2*Bv<=4294967296^(b.length+1):=by have:=cr b hb;rw[Yj];omega
 have hbl:bg V<=32*a.length:=by
  rcases X8 (bg V)with h |h
  ·omega
  ·have := GC ha (k := bg V-1) (by rw[<- hV];omega);omega
 rw[<- hV,<- hBv];refine aj func368 ?_;refine gl ?_;refine gs (iD (.tmp rfl) T104 rfl T354 rfl rfl oz (by dsimp only;omega) rfl) ?_;refine gl ?_;refine ga (jQ (y:=1) (by unfold bc;omega) (by unfold bc;omega)) ?_;refine gs (iD (.tmp rfl) T104 rfl T354 rfl rfl oz (by dsimp only;omega) rfl) ?_;refine gc (hV▸Ll a ha na oz) ?_;refine ga (dP oz) ?_;refine i9 [0,1] [] (fun(q r:List Nat)(i:Nat)=>[pP 6 (.ms 13 1 0 a.length),pP 7 (.ms 17 1 0 (b.length+1)),pP 8 (i64 ((i:Int)-1))]) (fun q r _=>[pP 13 (.row 1 (q.map u32)),pP 17 (.row 1 (r.map u32))]) (fun q r i=>q.length=a.length/\r.length=b.length+1/\Ws q/\Ws r/\i<=bg V/\val r=V/2^i%Bv/\val q=2^i*(V/2^i/Bv)) (fun _ _ i=>i) (Y6 a.length 0) (Y6 (b.length+1) 0) (bg V) ⟨by simp,by simp,lD _,lD _,aau _,by rw[vk,DC,Nat.zero_mod],by rw[vk,DC,Nat.zero_div,Nat.mul_zero]⟩ ?_ (h2:=(.cons rfl (BlkSub.of (by rw[abw];rfl)) (.cons rfl (BlkSub.of (by rw[abw];rfl)) .nil)))
 rintro q r i ⟨hql,hrl,wq,wr',hi,hr,hq⟩ K1 J1;refine gC (fun z=>?_) (fun z=>?_) (st2:=(15,0))
 ·have hi0 : 1 <= i := by have := z; simp [aa] at this; omega
  obtain⟨k,rfl⟩:∃k,i=k+1:=⟨i-1,by omega⟩
  rw[show((k+1:Nat):Int)-1=(k:Int) by omega];have hka:=GC ha (k:=k) (by rw[<- hV];omega);have hbit:=Rg ha hka;have hwB:=cf ha (k/32);rw[<- hV]at hbit;obtain⟨bit,hbt⟩:∃bit,bit=V/2^k%2:=⟨_,rfl⟩
  have hb1:bit<=1:=by omega
  have hrlt:=Ye (V/2^(k+1)) hBp;have hdw:ak a (k/32)/2^(k%32)<=ak a (k/32):=Yx _ _;refine gs (fv (.tmp rfl) (.const _) oz (DG oz) rfl) ?_;refine gi (ib (n:=k/32) oz (by first |omega |(simp;omega))) ?_;refine gs (vJ (.tmp rfl) (.const _) oz Gf rfl) ?_;refine gs (ff (.tmp rfl) (.tmp rfl) oz (qj _ (k%32) oz) rfl) ?_;refine gs (jL (.tmp rfl) (.const _) rfl ((HG (y:=1) oz oz).trans (show _=(bit:Int) by rw[Nat.and_one_is_mod,hbit,hbt])) rfl) ?_;refine i9 [0,1,8,35] [13] (fun(o:List Nat)(c j:Nat)=>[pP 6 (.ms 13 1 0 a.length),pP 7 (.ms 17 1 0 (b.length+1)),pP 9 (u32 c),pP 36 (i64 j)]) (fun o _ _=>[pP 17 (.row 1 (o.map u32))]) (fun o c j=>o.length=b.length+1/\Ws o/\j<=b.length+1/\c<=1/\o.drop j=r.drop j/\val (o.take j)+c*4294967296^j=2*val (r.take j)+bit) (fun _ _ j=>b.length+1-j) r bit 0 ⟨hrl,wr',by omega,hb1,rfl,by simp[val]⟩ ?_
  rintro o c j ⟨hol,wo,hj,hc,hd,hv⟩ K2 J2;refine gC (fun z=>?_) (fun z=>?_)
  ·have hjn : j < b.length + 1 := by have := z; simp [aa] at this; omega
   have e1:ak o j=ak r j:=qF hd;have h1:=cf wr' j;have h3:=Lx (w:=ak r j) h1 hv;refine gs (cg (n:=j) (.tmp rfl) (.tmp rfl) T104 rfl T354 rfl oz (by first |omega |(simp;omega)) rfl) ?_;refine gs (eK (.tmp rfl) rfl (by rw[cz (show j<o.length by omega),e1]) T354 rfl rfl rfl) ?_;refine gs (ia (.tmp rfl) (.const _) oz (FG (n:=1) oz) rfl) ?_;refine gs (jL (.tmp rfl) (.tmp rfl) rfl ((BR oz oz).trans (by rw[TM hc])) rfl) ?_;refine gs (cg (n:=j) (.tmp rfl) (.tmp rfl) T104 rfl T354 rfl oz (by first |omega |(simp;omega)) rfl) ?_;refine gs (eK (.tmp rfl) rfl (by rw[cz (show j<o.length by omega),e1]) T354 rfl rfl rfl) ?_;refine gs (ff (.tmp rfl) (.const _) oz (qj _ 31 oz) rfl) ?_;refine gs (cg (n:=j) (.tmp rfl) (.tmp rfl) T104 rfl T354 rfl oz (by first |omega |(simp;omega)) rfl) ?_;refine gs (dM (.tmp rfl) rfl (cz (i:=j) oz) rfl (.tmp rfl) rfl rfl T354 rfl rfl) ?_;refine gD ?_;refine ga (dq oz) ?_;exact ik J2 (o.set j (ak r j*2^1%4294967296+c)) (ak r j/2^31) (j+1) ⟨by simp[hol],gw wo oz,by omega,by omega,tN hd,by rw[lC oz,dB];rw[show 4294967296^(j+1)=4294967296^j*4294967296 from Yj _ _];exact h3⟩ (hw:=Wk.of bb (.cons rfl (BlkSub.of (by rw[ab0];rfl)) (.k .nil)))
  have hjn:j=b.length+1:=by have:b.length+1<=j:=(by have:=z;simp[aa]at this;omega);omega
  subst hjn;rw[fq (l:=r) oz,fq (l:=o) oz,hr]at hv
  have hc0:c=0:=by
   cases c with
   |zero=>rfl
   |succ c=>rw[YT]at hv;omega
  subst hc0;rw[Nat.zero_mul,Ys]at hv;have hot:o.take (b.length+1)=o:=aa7 oz;obtain⟨d1,d2⟩:=S4 (V:=V) (k:=k) hBp;rw[<- hbt]at d1 d2;have hcmp:=ME 17 o b (b.length+1) wo hb oz;rw[hot,<- hBv,hv]at hcmp;have hqk:k/32<q.length:=by omega
  obtain⟨w1,w2⟩:=WM wq hqk hq;have w3:=QN wq hqk hq;refine gt (aE hcmp (bC rfl rfl) aG rfl rfl) ?_;refine gC (fun t58=>?_) (fun t58=>?_)
  ·have hge:Bv<=2*(V/2^(k+1)%Bv)+bit:=by
    rcases aay (2*(V/2^(k+1)%Bv)+bit) Bv with h |h
    ·rw[ab6 h]at t58;cases t58
    ·exact h
   obtain⟨d3,d4⟩:=d1 hge;have htk:=Jy o b (b.length+1) wo hb oz (by unfold aK;omega) (by rw[hot,<- hBv,hv];exact hge);rw[hot,<- hBv,hv,<- d3,N9 (by rw[fA,hol])]at htk;have hx2:V/2^k%Bv<4294967296^(b.length+1):=by have:=Ye (V/2^k) hBp;omega
   refine gt (aE (Con.rk 17 rfl rfl htk) (bC rfl rfl) aG rfl rfl) ?_;refine gs (fv (.tmp rfl) (.const _) oz (DG oz) rfl) ?_;refine gs (cg (n:=k/32) (.tmp rfl) (.tmp rfl) T104 rfl T354 rfl oz oz rfl) ?_;refine gs (eK (.tmp rfl) rfl (cz (i:=k/32) hqk) T354 rfl rfl rfl) ?_;refine gs (vJ (.tmp rfl) (.const _) oz Gf rfl) ?_;refine gs (ia (.const _) (.tmp rfl) oz ((FG (x:=1) (n:=k%32) oz).trans (show _=((2^(k%32):Nat):Int) by rw[Nat.one_mul,Yz (abk (Nat.le_add_left _ _) w2)])) rfl) ?_;refine gs (jL (.tmp rfl) (.tmp rfl) rfl ((BR (cf wq _) (abk (Nat.le_add_left _ _) w2)).trans (by rw[w1])) rfl) ?_;refine gs (cg (n:=k/32) (.tmp rfl) (.tmp rfl) T104 rfl T354 rfl oz oz rfl) ?_;refine gs (dM (.tmp rfl) rfl (cz (i:=k/32) hqk) rfl (.tmp rfl) rfl rfl T354 rfl rfl) ?_;refine gD ?_;refine ga (dP oz) ?_;exact ik J1 (q.set (k/32) (ak q (k/32)+2^(k%32))) (bp (b.length+1) (V/2^k%Bv)) k ⟨by simp[hql],fA _ _,gw wq w2,kt _ _,by omega,l9 _ _ hx2,by rw[w3,d4]⟩ (hw:=Wk.of bb (.cons rfl (BlkSub.of (by first |rfl |(rw[ab0];rfl))) (.k .nil)))
  have hge:2*(V/2^(k+1)%Bv)+bit<Bv:=by
   rcases aay (2*(V/2^(k+1)%Bv)+bit) Bv with h |h
   ·exact h
   ·rw[ab5 oz]at t58;split at t58 <;> cases t58
  obtain⟨d3,d4⟩:=d2 hge;refine ga (dP oz) ?_;exact ik J1 q o k ⟨hql,hol,wq,wo,by omega,by rw[hv,d3],by rw[hq,d4,Yj,Yw]⟩ (hw:=Wk.of bb (.cons rfl (BlkSub.of (by first |rfl |(rw[ab0];rfl))) (.k .nil)))
 have hi0:i=0:=by have:=z;simp[aa]at this;omega
 subst hi0;refine gW ((Wk.freeze (k:=13) rfl).trans<|(Wk.freeze (k:=17) rfl).trans<|Wk.of (sl:=[pP 6 (ws q),pP 7 (ws r)]) (hp:=[]) (.cons rfl (Sub.of (by rw[show AV.fz 13 1 (q.map u32) (.ms 13 1 0 a.length)=ws q from b7 (by simp[hql])];rfl)) (.cons rfl (Sub.of (b7 (by simp[hrl]))) .nil)) .nil) ?_;refine gc (qX q wq oz) ?_;refine gc (qX r wr' (by unfold aK;omega)) ?_;refine bt ?_;rw[hr,hq];simp[]
def iK(L:Nat)(A:List Nat)(n:Nat):Prop:=Ws A/\n<=A.length/\A.length<=L/\n=(ofNat (val (A.take n))).length
theorem VY(v:Nat):ofNat v=bp (ofNat v).length v:=by
 have h:=sj (ofNat v) (dG _)
 rwa [cA]at h
theorem j6{L:Nat}{A:List Nat}{n v:Nat}(h:iK L A n)(hv:v<=val (A.take n)) :
  iK L (wr A 0 (bp n v)) (ofNat v).length/\val ((wr A 0 (bp n v)).take (ofNat v).length)=v/\val ((wr A 0 (bp n v)).take n)=v:=by
 obtain⟨hw,hn,hl,hN⟩:=h;have hlt:=oW hw n;have hvl:v<4294967296^n:=by omega
 have hle:(ofNat v).length<=n:=fy hvl
 have ht:(wr A 0 (bp n v)).take n=bp n v:=by
  unfold wr;rw[List.take_zero,nil_append,Zt (by rw[fA];omega),aa7 (by rw[fA];omega)]
 have ht2:(wr A 0 (bp n v)).take (ofNat v).length=ofNat v:=by
  have h1:((wr A 0 (bp n v)).take n).take (ofNat v).length=(wr A 0 (bp n v)).take (ofNat v).length:=by rw[Y9,Yu hle]
  rw[<- h1,ht,Ar _ _ _ hle,<- VY]
 have hlen:(wr A 0 (bp n v)).length=A.length:=mG (by rw[fA];omega);refine⟨⟨qM hw (kt _ _),by omega,by omega,by rw[ht2,cA]⟩,by rw[ht2,cA],by rw[ht,l9 _ _ hvl]⟩
theorem iC{L:Nat}{A:List Nat}{n:Nat}(h:iK L A n)(hx:0<val (A.take n)):0<n/\val (A.take n)%2=ak A 0%2:=by
 have hn:0<n:=by
  rcases X8 n with h0 |h0
  ·subst h0;simp[val]at hx
  ·exact h0
 refine⟨hn,?_⟩;have:=un (A.take n) 0;rw[ab1,ot hn]at this;omega
theorem X0{L:Nat}{A:List Nat}{n:Nat}(h:iK L A n):A.take n=ofNat (val (A.take n)):=by
 obtain⟨hw,hn,hl,hN⟩:=h;have h1:=Dg (gj hw n);rw[<- hN,Y9,Nat.min_self]at h1;exact h1
theorem FI{L:Nat}{A:List Nat}{n:Nat}(h:iK L A n):n=0↔val (A.take n)=0:=by
 constructor
 ·intro h0;subst h0;rfl
 ·intro h0;have h1:=h.2.2.2;rw[h0]at h1;exact h1
theorem RN{x y:Nat}(hx:x%2=0)(hy:y%2=0):YM x y=2*YM (x/2) (y/2):=by
 rw[<- Nat.gcd_mul_left,Nat.mul_div_cancel' (Nat.dvd_of_mod_eq_zero hx),Nat.mul_div_cancel' (Nat.dvd_of_mod_eq_zero hy)]
theorem JL{x y:Nat}(hx:x%2=0)(hy:y%2=1):YM (x/2) y=YM x y:=by
 have h1:x=2*(x/2):=by omega
 have h2:Nat.Coprime 2 y:=by
  rw[Nat.Coprime,Nat.gcd_rec,hy];rfl
 conv=>rhs;rw[h1]
 exact(Nat.Coprime.gcd_mul_left_cancel _ h2).symm
theorem Km{x y:Nat}(h:y<=x):YM (x-y) y=YM x y:=Nat.gcd_sub_self_left h
theorem FS{t L g V:Nat}(hg:0<g)(h:2^t*g<=V)(hV:V<4294967296^L):t<32*L:=by
 rw[s6]at hV;have h1:=aaz (2^t) (show 1<=g from hg);rcases aay t (32*L)with h2 |h2
 ·exact h2
 ·have:=pi h2;omega
theorem Kp(A D:List Nat)(n p:Nat)(hA:Ws A)(hD:Ws D)(hn:n<=A.length)(hp:p<=D.length)(la:A.length<=aK)(hle:val (D.take p)<=val (A.take n)) :
  Con prog 425 [.ms 901 1 0 n,.ms 902 1 0 p] [pP 902 (.row 1 (D.map u32)),pP 901 (.row 1 (A.map u32))] (.tup [])
   [pP 902 (.row 1 (D.map u32)),pP 901 (.row 1 ((wr A 0 (bp n (val (A.take n)-val (D.take p)))).map u32))]:=by
 have h1:=Con.rk 901 rfl rfl (Jy A (D.take p) n hA (gj hD p) hn la hle);refine Con.borrow (args:=[.ms 901 1 0 n,ws (D.take p)]) 902 1 (D.map u32) rfl rfl rfl ?_ rfl ?_ h1
 ·intro j x' hj
  match j,hj with
  |0,hj=>cases hj;exact .inl rfl
  |1,hj=>cases hj;exact .inr ⟨0,p,rfl,by simpa using hp,by rw[p6];rfl⟩
 ·intro k' x h;obtain⟨_,h⟩:=fV h;cases h;exact Kz _
theorem x9{A:List Nat}(hA:Ws A){i:Nat}:pf .and .u32 (ak A i:Int) 1=((ak A i%2:Nat):Int) :=
 (HG (y:=1) (cf hA i) oz).trans (by rw[Nat.and_one_is_mod])
theorem Qo(a b:List Nat)(ha:Ws a)(hb:Ws b)(na:Nz a)(nb:Nz b)(la:a.length+b.length<aK):FP 367 [ws a,ws b] (ws (ofNat (YM (val a) (val b)))):=by
 have la':=la;unfold aK at la;have ea:=qS ha na;have eb:=qS hb nb;obtain⟨L,hL⟩:∃L,L=a.length+b.length:=⟨_,rfl⟩
 obtain⟨G,hG⟩:∃G,G=YM (val a) (val b):=⟨_,rfl⟩
 rw[<- hG];refine aj func367 ?_;refine gt (aE (CZ 901 rfl a ha (by unfold aK;omega)) (cG rfl) aG rfl rfl) ?_;refine gt (aE (CZ 902 rfl b hb (by unfold aK;omega)) (cG rfl) aG rfl rfl) ?_ (2,0);refine gW (Wk.of (sl:=[pP 0 (.ms 901 1 0 a.length),pP 1 (.ms 902 1 0 b.length)]) (hp:=[pP 901 (.row 1 (a.map u32)),pP 902 (.row 1 (b.map u32))]) (.cons rfl (Sub.of (by rw[ea])) (.cons rfl (Sub.of (by rw[eb])) .nil)) (.k (.k .nil))) ?_;refine gC (fun z=>?_) (fun z=>?_) (st1:=(3,0))
 ·have h0 : a=[] := ZA.1 (by simpa[aa]using z);refine gW ((Wk.freeze (k:=902) rfl).trans<|Wk.of (sl:=[pP 1 (ws b)]) (hp:=[]) (.cons rfl (Sub.of (b7 (by simp))) .nil) .nil) ?_;refine ah ?_;rw[hG,h0];simp[val,eb]
 have h0:a≠[]:=fun h=>by rw[h]at z;simp[aa]at z
 refine gC (fun z=>?_) (fun z=>?_) (st1:=(5,0))
 ·have h1 : b=[] := ZA.1 (by simpa[aa]using z);refine gW ((Wk.freeze (k:=901) rfl).trans<|Wk.of (sl:=[pP 0 (ws a)]) (hp:=[]) (.cons rfl (Sub.of (b7 (by simp))) .nil) .nil) ?_;refine ah ?_;rw[hG,h1];simp[val,ea]
 have h1:b≠[]:=fun h=>by rw[h]at z;simp[aa]at z
 have va:=oF na h0;have vb:=oF nb h1;have hGp:0<G:=by rw[hG];exact Nat.gcd_pos_of_pos_left _ va
 have hGa:G<=val a:=by rw[hG];exact Nat.gcd_le_left _ va
 have vla:=cr a ha;refine E1 [] [] (fun(A D:List Nat)(n p t:Nat)=>[pP 0 (.ms 901 1 0 n),pP 1 (.ms 902 1 0 p),pP 5 (i64 t)]) (fun A D _ _ _=>[pP 901 (.row 1 (A.map u32)),pP 902 (.row 1 (D.map u32))]) (fun A D n p t=>iK L A n/\iK L D p/\0<val (A.take n)/\0<val (D.take p)/\G=2^t*YM (val (A.take n)) (val (D.take p))) (fun A _ n _ _=>val (A.take n)) a b a.length b.length 0 ⟨⟨ha,aau _,by omega,by rw[aa8,ea]⟩,⟨hb,aau _,by omega,by rw[aa8,eb]⟩,by rw[aa8];exact va,by rw[aa8];exact vb,by rw[aa8,aa8,hG];simp⟩ ?_
 rintro A D n p t ⟨gA,gD,pA,pD,hg⟩ K1 J1;refine gs (cg (n:=0) (.tmp rfl) (.const _) T104 rfl T354 rfl oz (by have:=(iC gA pA).1;omega) rfl) ?_;refine gs (eK (.tmp rfl) rfl (cz (i:=0) (by have:=(iC gA pA).1;have:=gA.2.1;omega)) T354 rfl rfl rfl) ?_;refine gs (jL (.tmp rfl) (.const _) rfl (x9 gA.1) rfl) ?_;refine gs (fa rfl rfl rfl (fun h=>cg (n:=0) (.opt rfl (o1 h)) (.const _) T104 rfl T354 rfl oz (by have:=(iC gD pD).1;omega) rfl)) ?_;refine gs (fa rfl rfl rfl (fun h=>eK (.opt rfl (o1 h)) rfl (cz (i:=0) (by have:=(iC gD pD).1;have:=gD.2.1;omega)) T354 rfl rfl rfl)) ?_;refine gs (fa rfl rfl rfl (fun h=>jL (.opt rfl (o1 h)) (.const _) rfl (x9 gD.1) rfl)) ?_;refine gC (fun t29=>?_) (fun t29=>?_)
 ·have hev:ak A 0%2=0/\ak D 0%2=0:=by
   have:=t29;simp[aa]at this;omega
  have xA:val (A.take n)%2=0:=by rw[(iC gA pA).2];exact hev.1
  have xD:val (D.take p)%2=0:=by rw[(iC gD pD).2];exact hev.2
  obtain⟨k1,k2,k3⟩:=j6 gA (v:=val (A.take n)/2) oz;obtain⟨m1,m2,m3⟩:=j6 gD (v:=val (D.take p)/2) oz;have ht:t<32*a.length:=FS (Nat.gcd_pos_of_pos_left _ pA) (by rw[<- hg];exact hGa) vla;refine gt (aE (Con.rekeyR 901 rfl (vh A n gA.1 gA.2.1 (by have:=gA.2.2.1;unfold aK;omega))) (cG rfl) aG rfl rfl) ?_;refine gt (aE (Con.rekeyR 902 rfl (vh D p gD.1 gD.2.1 (by have:=gD.2.2.1;unfold aK;omega))) (cG rfl) aG rfl rfl) ?_;refine ga (show _=((t+1:Nat):Int) by rw[dq oz];omega) ?_;exact KB J1 (wr A 0 (bp n (val (A.take n)/2))) (wr D 0 (bp p (val (D.take p)/2))) ((ofNat (val (A.take n)/2)).length) ((ofNat (val (D.take p)/2)).length) (t+1) ⟨k1,m1,by rw[k2];omega,by rw[m2];omega,by rw[k2,m2,hg,RN xA xD,Yj];grind⟩ (by rw[k2];omega)
 have hod:val (A.take n)%2=1\/val (D.take p)%2=1:=by
  rw[(iC gA pA).2,(iC gD pD).2];have:=t29;simp[aa]at this;omega
 refine Se [5] [] (fun(A1 D1:List Nat)(n1 p1:Nat)=>[pP 0 (.ms 901 1 0 n1),pP 1 (.ms 902 1 0 p1)]) (fun A1 D1 _ _=>[pP 901 (.row 1 (A1.map u32)),pP 902 (.row 1 (D1.map u32))]) (fun A1 D1 n1 p1=>iK L A1 n1/\iK L D1 p1/\0<val (D1.take p1)/\(val (A1.take n1)%2=1\/val (D1.take p1)%2=1)/\G=2^t*YM (val (A1.take n1)) (val (D1.take p1))) (fun A1 D1 n1 p1=>val (A1.take n1)+val (D1.take p1)) A D n p ⟨gA,gD,pD,hod,hg⟩ ?_
 rintro A1 D1 n1 p1 ⟨gA1,gD1,pD1,hod1,hg1⟩ K2 J2;refine gC (fun t38=>?_) (fun t38=>?_) (st2:=(19,0))
 ·have pA1:0<val (A1.take n1):=by
   have h3:n1≠0:=by have:=t38;simp[aa]at this;omega
   exact Nat.pos_of_ne_zero (fun h=>h3 ((FI gA1).2 h))
  refine hO [5] [902] (fun(A2:List Nat)(n2:Nat)=>[pP 0 (.ms 901 1 0 n2),pP 1 (.ms 902 1 0 p1)]) (fun A2 _=>[pP 901 (.row 1 (A2.map u32))]) (fun A2 n2=>iK L A2 n2/\0<val (A2.take n2)/\val (A2.take n2)<=val (A1.take n1)/\(val (A2.take n2)%2=1\/val (D1.take p1)%2=1)/\YM (val (A2.take n2)) (val (D1.take p1))=YM (val (A1.take n1)) (val (D1.take p1))) (fun A2 n2=>val (A2.take n2)) A1 n1 ⟨gA1,pA1,aau _,hod1,rfl⟩ ?_
  rintro A2 n2 ⟨gA2,pA2,lA2,hod2,hg2⟩ K3 J3;refine gs (cg (n:=0) (.tmp rfl) (.const _) T104 rfl T354 rfl oz (by have:=(iC gA2 pA2).1;omega) rfl) ?_;refine gs (eK (.tmp rfl) rfl (cz (i:=0) (by have:=(iC gA2 pA2).1;have:=gA2.2.1;omega)) T354 rfl rfl rfl) ?_;refine gs (jL (.tmp rfl) (.const _) rfl (x9 gA2.1) rfl) ?_;refine gC (fun t43=>?_) (fun t43=>?_)
  ·have xA2:val (A2.take n2)%2=0:=by
    rw[(iC gA2 pA2).2];have:=t43;simp[aa]at this;omega
   obtain⟨k1,k2,k3⟩:=j6 gA2 (v:=val (A2.take n2)/2) oz;refine gt (aE (Con.rekeyR 901 rfl (vh A2 n2 gA2.1 gA2.2.1 (by have:=gA2.2.2.1;unfold aK;omega))) (cG rfl) aG rfl rfl) ?_;exact gk J3 (wr A2 0 (bp n2 (val (A2.take n2)/2))) ((ofNat (val (A2.take n2)/2)).length) ⟨k1,by rw[k2];omega,by rw[k2];omega,.inr oz,by rw[k2,JL xA2 oz,hg2]⟩ (by rw[k2];omega)
  have xA2:val (A2.take n2)%2=1:=by
   rw[(iC gA2 pA2).2];have:=t43;simp[aa]at this;omega
  refine hO [5] [901] (fun(D2:List Nat)(p2:Nat)=>[pP 0 (.ms 901 1 0 n2),pP 1 (.ms 902 1 0 p2)]) (fun D2 _=>[pP 902 (.row 1 (D2.map u32))]) (fun D2 p2=>iK L D2 p2/\0<val (D2.take p2)/\val (D2.take p2)<=val (D1.take p1)/\YM (val (A2.take n2)) (val (D2.take p2))=YM (val (A2.take n2)) (val (D1.take p1))) (fun D2 p2=>val (D2.take p2)) D1 p1 ⟨gD1,pD1,aau _,rfl⟩ ?_;rintro D2 p2 ⟨gD2,pD2,lD2,hg3⟩ K4 J4;refine gs (cg (n:=0) (.tmp rfl) (.const _) T104 rfl T354 rfl oz (by have:=(iC gD2 pD2).1;omega) rfl) ?_;refine gs (eK (.tmp rfl) rfl (cz (i:=0) (by have:=(iC gD2 pD2).1;have:=gD2.2.1;omega)) T354 rfl rfl rfl) ?_;refine gs (jL (.tmp rfl) (.const _) rfl (x9 gD2.1) rfl) ?_;refine gC (fun t50=>?_) (fun t50=>?_)
  ·have xD2:val (D2.take p2)%2=0:=by
    rw[(iC gD2 pD2).2];have:=t50;simp[aa]at this;omega
   obtain⟨k1,k2,k3⟩:=j6 gD2 (v:=val (D2.take p2)/2) oz;refine gt (aE (Con.rekeyR 902 rfl (vh D2 p2 gD2.1 gD2.2.1 (by have:=gD2.2.2.1;unfold aK;omega))) (cG rfl) aG rfl rfl) ?_;exact gk J4 (wr D2 0 (bp p2 (val (D2.take p2)/2))) ((ofNat (val (D2.take p2)/2)).length) ⟨k1,by rw[k2];omega,by rw[k2];omega,by rw[k2,YL,JL xD2 xA2,YL,hg3]⟩ (by rw[k2];omega)
  have xD2:val (D2.take p2)%2=1:=by
   rw[(iC gD2 pD2).2];have:=t50;simp[aa]at this;omega
  refine gt (aE (UY 901 902 oz A2 D2 n2 p2 gA2.1 gD2.1 gA2.2.1 gD2.2.1) (bC rfl rfl) aG rfl rfl) ?_;refine gC (fun t56=>?_) (fun t56=>?_) (st1:=(17,0)) (st2:=(77777,0))
  ·have hlt:val (A2.take n2)<val (D2.take p2):=by
    rcases aay (val (A2.take n2)) (val (D2.take p2))with h |h
    ·exact h
    ·rw[ab5 oz]at t56;split at t56 <;> cases t56
   refine gW (Wk.o (sl:=[pP 0 (.ms 902 1 0 p2),pP 1 (.ms 901 1 0 n2),pP 5 (i64 t)]) (hp:=[pP 901 (.row 1 (A2.map u32)),pP 902 (.row 1 (D2.map u32))])) ?_ (17,0);refine gW (Wk.rk (k:=901) (d:=903) rfl rfl) ?_ (17,0);refine gW (Wk.rk (k:=902) (d:=901) rfl rfl) ?_ (17,0);refine gW (Wk.rk (k:=903) (d:=902) rfl rfl) ?_ (17,0);refine gW (Wk.of (sl:=[pP 0 (.ms 901 1 0 p2),pP 1 (.ms 902 1 0 n2),pP 5 (i64 t)]) (hp:=[pP 901 (.row 1 (D2.map u32)),pP 902 (.row 1 (A2.map u32))]) (.cons rfl (Sub.refl _) (.cons rfl (Sub.refl _) (.cons rfl (Sub.refl _) .nil))) (.k (.k .nil))) ?_ (17,0);obtain⟨A3,D3,n3,p3,gA3,gD3,xA3,xD3,hle3,hg4,hs3,e1,e2,e3,e4⟩:∃A3 D3 n3 p3,iK L A3 n3/\iK L D3 p3/\val (A3.take n3)%2=1/\val (D3.take p3)%2=1/\val (D3.take p3)<=val (A3.take n3)/\YM (val (A3.take n3)) (val (D3.take p3))=YM (val (A2.take n2)) (val (D2.take p2))/\val (A3.take n3)+val (D3.take p3)=val (A2.take n2)+val (D2.take p2)/\A3=D2/\n3=p2/\D3=A2/\p3=n2:=⟨D2,A2,p2,n2,gD2,gA2,xD2,xA2,by omega,YL _ _,Yh _ _,rfl,rfl,rfl,rfl⟩
   rw[<- e1,<- e2,<- e3,<- e4];refine go ?_;refine gt (aE (Kp A3 D3 n3 p3 gA3.1 gD3.1 gA3.2.1 gD3.2.1 (by have:=gA3.2.2.1;unfold aK;omega) hle3) (bC rfl rfl) aG rfl rfl) ?_;refine gt (aE (Con.rekeyR 901 rfl (z6 (wr A3 0 (bp n3 (val (A3.take n3)-val (D3.take p3)))) n3 (qM gA3.1 (kt _ _)) (by rw[mG (by rw[fA];have:=gA3.2.1;omega)];exact gA3.2.1) (by rw[mG (by rw[fA];have:=gA3.2.1;omega)];have:=gA3.2.2.1;unfold aK;omega))) (cG rfl) aG rfl rfl) ?_;exact Hi J2 (wr A3 0 (bp n3 (val (A3.take n3)-val (D3.take p3)))) D3 ((ofNat (val (A3.take n3)-val (D3.take p3))).length) p3 ⟨(j6 gA3 oz).1,gD3,by omega,.inr xD3,by rw[(j6 gA3 (v:=val (A3.take n3)-val (D3.take p3)) oz).2.1,Km hle3,hg4,hg3,hg2,hg1]⟩ (by rw[(j6 gA3 (v:=val (A3.take n3)-val (D3.take p3)) oz).2.1];omega) (hw:=Wk.of (.cons rfl (Sub.of (by rw[(j6 gA3 (v:=val (A3.take n3)-val (D3.take p3)) oz).2.2])) (.k (.k .nil))) (.k (.k .nil)))
  have hlt:val (D2.take p2)<=val (A2.take n2):=by
   rcases aay (val (A2.take n2)) (val (D2.take p2))with h |h
   ·rw[ab6 h]at t56;cases t56
   ·exact h
  refine gW (Wk.o (sl:=[pP 0 (.ms 901 1 0 n2),pP 1 (.ms 902 1 0 p2),pP 5 (i64 t)]) (hp:=[pP 901 (.row 1 (A2.map u32)),pP 902 (.row 1 (D2.map u32))])) ?_ (77777,0);obtain⟨A3,D3,n3,p3,gA3,gD3,xA3,xD3,hle3,hg4,hs3,e1,e2,e3,e4⟩:∃A3 D3 n3 p3,iK L A3 n3/\iK L D3 p3/\val (A3.take n3)%2=1/\val (D3.take p3)%2=1/\val (D3.take p3)<=val (A3.take n3)/\YM (val (A3.take n3)) (val (D3.take p3))=YM (val (A2.take n2)) (val (D2.take p2))/\val (A3.take n3)+val (D3.take p3)=val (A2.take n2)+val (D2.take p2)/\A3=A2/\n3=n2/\D3=D2/\p3=p2:=⟨A2,D2,n2,p2,gA2,gD2,xA2,xD2,hlt,rfl,rfl,rfl,rfl,rfl,rfl⟩
  rw[<- e1,<- e2,<- e3,<- e4];obtain⟨k1,k2,k3⟩:=j6 gA3 (v:=val (A3.take n3)-val (D3.take p3)) oz;refine go ?_;refine gt (aE (Kp A3 D3 n3 p3 gA3.1 gD3.1 gA3.2.1 gD3.2.1 (by have:=gA3.2.2.1;unfold aK;omega) hle3) (bC rfl rfl) aG rfl rfl) ?_;refine gt (aE (Con.rekeyR 901 rfl (z6 (wr A3 0 (bp n3 (val (A3.take n3)-val (D3.take p3)))) n3 (qM gA3.1 (kt _ _)) (by rw[mG (by rw[fA];have:=gA3.2.1;omega)];exact gA3.2.1) (by rw[mG (by rw[fA];have:=gA3.2.1;omega)];have:=gA3.2.2.1;unfold aK;omega))) (cG rfl) aG rfl rfl) ?_;exact Hi J2 (wr A3 0 (bp n3 (val (A3.take n3)-val (D3.take p3)))) D3 ((ofNat (val (A3.take n3)-val (D3.take p3))).length) p3 ⟨(j6 gA3 oz).1,gD3,by omega,.inr xD3,by rw[(j6 gA3 (v:=val (A3.take n3)-val (D3.take p3)) oz).2.1,Km hle3,hg4,hg3,hg2,hg1]⟩ (by rw[(j6 gA3 (v:=val (A3.take n3)-val (D3.take p3)) oz).2.1];omega) (hw:=Wk.of (.cons rfl (Sub.of (by rw[(j6 gA3 (v:=val (A3.take n3)-val (D3.take p3)) oz).2.2])) (.k (.k .nil))) (.k (.k .nil)))
 have zA1:val (A1.take n1)=0:=by
  have h3:n1=0:=by have:=t38;simp[aa]at this;omega
  exact(FI gA1).1 h3
 rw[zA1,Nat.gcd_zero_left]at hg1;refine gW ((Wk.freeze (k:=902) rfl).trans<|Wk.of (sl:=[pP 1 (ws (ofNat (val (D1.take p1)))),pP 5 (i64 t)]) (hp:=[]) (.cons rfl (Sub.of (by rw[xO (by rw[aar];have:=gD1.2.1;omega),p6,<- X0 gD1])) (.k .nil)) .nil) ?_;refine aW [64] [] (fun(i:Nat)=>[pP 1 (ws (ofNat (2^i*val (D1.take p1)))),pP 65 (i64 i)]) (fun _=>[]) (fun i=>i<=t) (fun i=>t-i) 0 (aa0 _) ?_ (h1:=(.cons rfl (Sub.of (by rw[Nat.pow_zero,Nat.one_mul])) (.k .nil)));rintro i hit K5 J5;refine gC (fun z=>?_) (fun z=>?_)
 ·have hin : i < t := by simpa [aa] using z
  have h3:2^i*val (D1.take p1)<=G:=by rw[hg1];exact abh _ (pi oz)
  have h4:(ofNat (2^i*val (D1.take p1))).length<=a.length:=fy oz;have ht:t<32*a.length:=FS pD1 (by rw[<- hg1];exact hGa) vla;refine gc (CU _ _ (dG _) (dG _) (by unfold aK;omega) (by unfold aK;omega)) ?_;refine ga (dq oz) ?_;exact aR J5 (i+1) hin (hw:=Wk.of (.cons rfl (Sub.of (by rw[cA,Yj];congr 2;grind)) (.k (.k .nil))) .nil)
 have hin:i=t:=by have:t<=i:=(by simpa[aa]using z);omega
 subst hin;refine ah ?_;rw[hg1]
theorem FQ(a b:Wh)(ha:a.ok)(hb:b.ok)(la:a.mag.length+b.mag.length<aK):FP 269 [a.av,b.av] (zA (ZH a.z b.z)):=by
 have h1:=Wh.m_le (w:=a);have h2:=Wh.m_le (w:=b);have h3:ZH a.z b.z=YM (val a.m) (val b.m):=by rw[ZH,Wh.abs,Wh.abs]
 have h4:(ofNat (YM (val a.m) (val b.m))).length<=a.m.length+b.m.length:=by
  rcases X8 (val a.m)with h |h
  ·rw[h,Nat.gcd_zero_left,Wh.ofNat_m hb];omega
  ·exact abe (fy (abk (Nat.gcd_le_left _ h) (cr _ (Wh.ws ha)))) oz
 refine aj func269 ?_;refine gc (kM a ha) ?_;refine gc (kM b hb) ?_;refine gc (Qo a.m b.m (Wh.ws ha) (Wh.ws hb) a.nz b.nz oz) ?_;refine gc (kE false _ (dG _) oz) ?_;refine gD ?_;refine ah ?_;rw[cA,h3];rfl
theorem VK(a b:Wh)(ha:a.ok)(hb:b.ok)(la:a.mag.length+1<aK)(lb:b.mag.length<aK)(h0:b.z≠0):FP 270 [a.av,b.av] (.tup [zA (a.z/b.z),zA (a.z%b.z),i64 0]):=by
 have hm1:=Wh.m_le (w:=a);have hm2:=Wh.m_le (w:=b);have hb1:val b.m≠0:=by have:=Wh.abs (w:=b);omega
 have hl1:(ofNat (val a.m/val b.m)).length<=a.m.length:=fy (abk (Yx _ _) (cr _ (Wh.ws ha)));have hmod:=Ye (val a.m) (show 0<val b.m by omega);have hl2:(ofNat (val a.m%val b.m)).length<=b.m.length:=fy (Nat.lt_trans hmod (cr _ (Wh.ws hb)));have hl3:(ofNat (val a.m/val b.m+1)).length<=a.m.length+1:=fy (by have h7:=abk (Yx (val a.m) (val b.m)) (cr _ (Wh.ws ha));rw[Yj];generalize val a.m/val b.m=m at *;omega);have hl4:(ofNat (val b.m-val a.m%val b.m)).length<=b.m.length:=fy (by have:=cr _ (Wh.ws hb);omega);have hv1:val [1]=1:=rfl;refine aj func270 ?_;refine gc (AX b hb) ?_;refine gC (fun z=>?_) (fun z=>?_) (st1:=(2,0));exact acc (ZL.1 (by simpa[aa]using z)) h0;refine gc (kM a ha) ?_;refine gc (kM b hb) ?_;refine gc (XY a.m b.m (Wh.ws ha) (Wh.ws hb) a.nz hb1 oz oz) ?_;refine gD ?_;refine gc (jv a ha) ?_;refine cJ ?_;refine gC (fun z=>?_) (fun z=>?_)
 ·have h1:a.n = true /\ 0 < val a.m % val b.m:=xu.1 z;obtain ⟨e1,e2⟩:=FH hb1 h1.1 h1.2;refine gc (CU (ofNat (val a.m / val b.m)) [1] (dG _) (uz oz) oz (by unfold aK; simp)) ?_;refine gc (kM b hb) ?_;refine gc (yK b.m (ofNat (val a.m % val b.m)) (Wh.ws hb) (dG _) oz (by rw [cA]; omega)) ?_;refine gD ?_ (6,0);refine gW (Wk.of (sl:=[pP 2 (.ptr 2 0),pP 3 (.ptr 3 0),pP 4 (.ptr 4 0),pP 5 (.ptr 5 0),pP 7 (ws (ofNat (val a.m / val b.m + 1))),pP 8 (ws (ofNat (val b.m - val a.m % val b.m)))]) (hp:=[pP 2 (.box [bl a.neg,ws a.mag]),pP 3 (.box [bl b.neg,ws b.mag]),pP 4 (.box [.v (.bool false),nS]),pP 5 (.box [.v (.bool false),nS])]) (.k (.k (.k (.k (.cons rfl (Sub.of (by rw [cA,hv1])) (.cons rfl (Sub.of (by rw [cA])) .nil)))))) (.k (.k (.k (.k .nil))))) ?_
  refine gc (jv a ha) ?_;refine gc (jv b hb) ?_;refine gc (by apply kE _ _ (dG _) oz) ?_;refine gc (by apply kE _ _ (dG _) oz) ?_;refine gD ?_;refine gR ?_;exact s7 (by rw[cA,cA,e1,show sgn false _=_ from e2];rfl)
 have h1:¬(a.n=true/\0<val a.m%val b.m):=fun h=>ZY.1 z (xu.2 h)
 obtain⟨e1,e2⟩:=EM hb1 h1;refine gc (jv a ha) ?_;refine gc (jv b hb) ?_;refine gc (by apply kE _ _ (dG _) oz) ?_;refine gc (by apply kE _ _ (dG _) oz) ?_;refine gD ?_;refine gR ?_;exact s7 (by rw[cA,cA,e1,show sgn false _=_ from e2];rfl)
theorem uR{x:Int}(hx:Zs x):FP 299 [zA x] (i64 x.sign):=by
 have h:=Af (ofInt x) hx.ok;rw[dX]at h;exact h
theorem wQ{x:Int}(hx:Zs x):FP 175 [zA x] (zA (-x)):=by
 have h:=Un (ofInt x) hx.ok (by have:=hx.len;unfold aK;omega);rw[dX]at h;exact h
theorem Ed{x y:Int}(hx:Zs x)(hy:Zs y):FP 308 [zA x,zA y] (i64 (gQ x y)):=by
 have h:=TS (ofInt x) (ofInt y) hx.ok hy.ok;rw[dX,dX]at h;exact h
theorem OP{x y:Int}(hx:Zs x)(hy:Zs y):FP 297 [zA x,zA y] (zA (x+y)):=by
 have h:=SQ (ofInt x) (ofInt y) hx.ok hy.ok (by have:=hx.len;unfold aK;omega) (by have:=hy.len;unfold aK;omega);rw[dX,dX]at h;exact h
theorem mQ{x y:Int}(hx:Zs x)(hy:Zs y):FP 298 [zA x,zA y] (zA (x*y)):=by
 have h:=TA (ofInt x) (ofInt y) hx.ok hy.ok (by have:=hx.len;have:=hy.len;unfold aK;omega);rw[dX,dX]at h;exact h
theorem OS{x y:Int}(hx:Zs x)(hy:Zs y):FP 300 [zA x,zA y] (zA (ZH x y)):=by
 have h:=JT (ofInt x) (ofInt y) hx.ok hy.ok (by have:=hx.len;unfold aK;omega) (by have:=hy.len;unfold aK;omega);rw[dX,dX]at h;exact h
theorem Ft{x y:Int}(hx:Zs x)(hy:Zs y)(h0:y≠0):FP 301 [zA x,zA y] (.tup [zA (x/y),zA (x%y),.v .nilIface]):=by
 have h:=Rq (ofInt x) (ofInt y) hx.ok hy.ok (by have:=hx.len;unfold aK;omega) (by have:=hy.len;unfold aK;omega) (by rw[dX];exact h0);rw[dX,dX]at h;exact h
theorem yr{x:Int}(hx:Zs x):FP 267 [zA x] (i64 x.sign):=by
 have h:=AX (ofInt x) hx.ok;rw[dX]at h;exact h
theorem z5{x:Int}(hx:Zs x):FP 268 [zA x] (zA (-x)):=by
 have h:=Gm (ofInt x) hx.ok (by have:=hx.len;unfold aK;omega);rw[dX]at h;exact h
theorem OM{x y:Int}(hx:Zs x)(hy:Zs y):FP 306 [zA x,zA y] (i64 (gQ x y)):=by
 have h:=Tm (ofInt x) (ofInt y) hx.ok hy.ok (by have:=hx.len;unfold aK;omega) (by have:=hy.len;unfold aK;omega);rw[dX,dX]at h;exact h
theorem PJ{x y:Int}(hx:Zs x)(hy:Zs y):FP 285 [zA x,zA y] (zA (x+y)):=by
 have h:=Hf (ofInt x) (ofInt y) hx.ok hy.ok (by have:=hx.len;unfold aK;omega) (by have:=hy.len;unfold aK;omega);rw[dX,dX]at h;exact h
theorem uV{x y:Int}(hx:Zs x)(hy:Zs y):FP 286 [zA x,zA y] (zA (x*y)):=by
 have h:=Wd (ofInt x) (ofInt y) hx.ok hy.ok (by have:=hx.len;have:=hy.len;unfold aK;omega);rw[dX,dX]at h;exact h
theorem OY{x y:Int}(hx:Zs x)(hy:Zs y):FP 269 [zA x,zA y] (zA (ZH x y)):=by
 have h:=FQ (ofInt x) (ofInt y) hx.ok hy.ok (by have:=hx.len;have:=hy.len;unfold aK;omega);rw[dX,dX]at h;exact h
theorem Fp{x y:Int}(hx:Zs x)(hy:Zs y)(h0:y≠0):FP 270 [zA x,zA y] (.tup [zA (x/y),zA (x%y),i64 0]):=by
 have h:=VK (ofInt x) (ofInt y) hx.ok hy.ok (by have:=hx.len;unfold aK;omega) (by have:=hy.len;unfold aK;omega) (by rw[dX];exact h0);rw[dX,dX]at h;exact h
def jq(e:Nat):acg:=match e with |0=>.nilIface |e+1=>.iface 41 (.int .i64 ((e+1:Nat):Int))
def bF(e:Nat):AV:=.v (jq e)
theorem Oy(e:Nat):jq e=.nilIface\/∃T u,jq e=.iface T u:=by cases e;exact .inl rfl;exact .inr ⟨_,_,rfl⟩
theorem zB(e:Nat):d5 (jq e)=decide (e=0):=by cases e <;> simp[jq,d5]
theorem Px{e:Nat}(h:d5 (jq e)=true):e=0:=by rw[zB]at h;exact ab8 h
theorem I9{e:Nat}(h:d5 (jq e)=false):e≠0:=by rw[zB]at h;exact ab9 h
theorem dH{e:Nat}(h:(!d5 (jq e))=true):e≠0:=I9 (by cases h':d5 (jq e) <;> simp_all)
theorem dD{e:Nat}(h:(!d5 (jq e))=false):e=0:=Px (by cases h':d5 (jq e) <;> simp_all)
theorem AQ:FP 228 [] (zA 1):=by
 refine aj func228 ?_;refine gc (Hx 1 oz) ?_;refine ah ?_
 first |rfl |(simp;done)
theorem ua(r:Rt)(h:r.ok):FP 178 [r.av] (bl r.valid):=by
 have hn:=h.n0;have hd:=h.d0;refine aj func178 ?_;refine gl ?_;refine cJ ?_;refine gC (fun t14=>?_) (fun t14=>?_)
 ·have h0 : r.num = [] /\ r.den = [] := by simpa [aa] using t14
  refine ah ?_;unfold Rt.valid;rw[ab6 h0];rfl
 have h0:¬(r.num=[]/\r.den=[]):=by
  have:=t14;simp[aa]at this;exact fun h=>this h.1 h.2
 refine gD ?_;refine gl ?_;refine cJ ?_;refine b8 (fun _=>(ya r.n0 hn)) ?_;refine b8 (fun _=>(ya r.d0 hd)) ?_;refine gC (fun z=>?_) (fun z=>?_)
 ·have h1:r.valid=false:=A8 h0 z;refine ah ?_;rw[h1];rfl
 have h1:=GK h0 z;refine gc (JT r.n0 r.d0 hn hd h.n0l h.d0l) ?_;refine gc (by apply AQ) ?_;refine gc (Ed (Rt.gcd_zs h) xn) ?_;refine ah ?_;rw[h1];rfl
theorem lI(r:Rt)(h:r.ok):FP 173 [r.av] (.tup [zA r.q.num,zA r.q.den]):=by
 have hl1:r.num.length<=137438953472:=h.2.2.1;have hl2:r.den.length<=137438953472:=h.2.2.2;refine aj func173 ?_;refine gc (ua r h) ?_;refine cJ ?_;refine gC (fun t12=>?_) (fun t12=>?_)
 ·have h0:¬(r.valid=true/\r.num≠[]):=by
   have:=t12;intro h';simp[aa,h'.1,h'.2]at this
  refine gc AQ ?_;refine gR ?_;exact dS (by rw[Rt.zero h0];exact Sub.tup (.cons I3 (.cons (.refl _) .nil)))
 have h0:r.valid=true/\r.num≠[]:=by
  have:=t12;cases hv:r.valid
  ·rw[hv]at this;cases this
  ·rw[hv]at this;exact⟨rfl,by simpa[aa]using this⟩
 obtain⟨e1,e2,e3,e4,e5,e6⟩:=Rt.parts h h0.1 h0.2;refine gs (jI T104 rfl T354 rfl rfl rfl) ?_;refine gs (cK (.tmp rfl) rfl rfl (.tmp rfl) T104 rfl T354 rfl rfl (by simp only[aar];omega) rfl rfl) ?_;refine gD ?_ (4,0);refine gW ((Wk.freeze (k:=20) rfl).trans<|Wk.of (sl:=[pP 1 (.ptr 1 0),pP 2 (.ptr 2 0),pP 3 (.ptr 3 0)]) (hp:=[pP 1 (.box [bl r.neg,ws r.num,ws r.den]),pP 2 (.box [bl r.neg,ws r.num]),pP 3 (.box [bl false,nS])]) bb (.k (.cons rfl (BlkSub.bL (.cons (.refl _) (.cons (.of (b7 (by simp))) .nil)) rfl) (.k .nil)))) ?_;refine gs (jI T104 rfl T354 rfl rfl rfl) ?_;refine gs (cK (.tmp rfl) rfl rfl (.tmp rfl) T104 rfl T354 rfl rfl (by simp only[aar];omega) rfl rfl) ?_;refine gD ?_ (77777,0);refine gW ((Wk.freeze (k:=26) rfl).trans<|Wk.of (sl:=[pP 2 (.ptr 2 0),pP 3 (.ptr 3 0)]) (hp:=[pP 2 (.box [bl r.neg,ws r.num]),pP 3 (.box [bl false,ws r.den])]) bb (.k (.cons rfl (BlkSub.bL (.cons (.refl _) (.cons (.of (b7 (by simp))) .nil)) rfl) .nil))) ?_;refine bt ?_;rw[e1,e2];exact Fb e3 e4 e5
theorem uW{n d:Int}(hn:Zs n)(hd:Zs d)(h0:d≠0):FP 174 [zA n,zA d] (qA (ZP n d)):=by
 refine aj func174 ?_;refine gc (uR hn) ?_;refine gC (fun z=>?_) (fun z=>?_)
 ·have e0 : n=0 := ZL.1 (by simpa[aa]using z);refine gR ?_;exact lc (by rw[e0,Rat.zero_divInt];exact kf)
 have e0:n≠0:=fun h=>by rw[h]at z;cases z
 refine gc (uR hd) ?_;refine AN [2,3,4] [4] (fun(n1 d1:Int)=>[]) (fun n1 d1=>[pP 2 (.box (zA n1).cells),pP 3 (.box (zA d1).cells)]) (fun n1 d1=>0<d1/\n1≠0/\Zs n1/\Zs d1/\ZP n1 d1=ZP n d) ?_ ?_
 ·intro K1 J1;refine gC (fun t13=>?_) (fun t13=>?_)
  ·have e1 : d<0 := ZG.1 (by have := ZN d;have h9 : d.sign<0 := (by simpa[aa]using t13);omega);refine gc (wQ hn) ?_;refine gc (wQ hd) ?_;refine gD ?_;exact rG J1 (-n) (-d) ⟨by omega,by omega,hn.neg,hd.neg,JW n d⟩
  have e1:0<d:=by
   have h9:0<=d.sign:=by simpa[aa]using t13
   have:=ZE.1 h9;omega
  exact rG J1 n d ⟨e1,e0,hn,hd,rfl⟩
 rintro n1 d1 ⟨f1,f2,f3,f4,f5⟩;refine gc (OS f3 f4) ?_;refine gc (uR f3) ?_;refine z9 [2,3,4,5] [3,4,5] (fun(n2:Int)=>[pP 6 (bl (decide (n1<0)))]) (fun n2=>[pP 2 (.box (zA n2).cells)]) (fun n2=>n2=(n1.natAbs:Int)) ?_ ?_
 ·intro K2 J2;refine gC (fun t24=>?_) (fun t24=>?_)
  ·have e2 : n1<0 := ZG.1 (by have := ZN n1;have h9 : n1.sign<0 := (by simpa[aa]using t24);omega);refine gc (wQ f3) ?_;exact rV J2 (-n1) oz (hw:=Wk.of (.cons rfl (Sub.of (by rw[show aa .lss n1.sign 0=true from t24,aca e2];rfl)) (.k (.k (.k (.k .nil))))) (.k (.k (.k (.k .nil)))))
  have e2:0<n1:=by
   have h9:0<=n1.sign:=by simpa[aa]using t24
   have:=ZE.1 h9;omega
  exact rV J2 n1 oz (hw:=Wk.of (.cons rfl (Sub.of (by rw[show aa .lss n1.sign 0=false from t24,acb oz];rfl)) (.k (.k (.k (.k .nil))))) (.k (.k (.k (.k .nil)))))
 rintro n2 g1;have g2:Zs (ZH n1 d1:Int):=f3.of_le (by rw[abo];exact Nat.le_of_dvd oz (Int.gcd_dvd_natAbs_left _ _));have g3:(ZH n1 d1:Int)≠0:=by have:=Int.gcd_pos_of_ne_zero_left d1 f2;omega
 have g4:Zs n2:=f3.of_le oz;refine gc (Ft g4 g2 g3) ?_;refine gc (Ft f4 g2 g3) ?_;refine ah ?_;rw[<- f5,<- LS f1 f2,<- g1];rfl
theorem Wq{n d:Int}(hn:Zs n)(hd:Zs d):FP 421 [zA n,zA d] (.tup [qA (ZP n d),bF (if d=0 then 8 else 0)]):=by
 refine aj func421 ?_;refine gc (uR hd) ?_;refine gC (fun z=>?_) (fun z=>?_)
 ·have h0 : d=0 := ZL.1 (by simpa[aa]using z);refine gR ?_;exact dS (by rw[ab6 h0,h0,Rat.divInt_zero];exact Sub.tup (.cons kf (.cons (.refl _) .nil)))
 have h0:d≠0:=fun h=>by rw[h]at z;cases z
 refine gc (uW hn hd h0) ?_;refine bt ?_;rw[ab5 h0];rfl
theorem kH(n:Int)(h:-9223372036854775808<=n/\n<=9223372036854775807):FP 116 [i64 n] (qA n):=by
 have hz:Zs n:=⟨2,by omega,by unfold Lz;simp only[Nat.reducePow];omega⟩
 refine aj func116 ?_;refine gc (Hx n h) ?_;refine gc AQ ?_;refine gc (uW hz xn oz) ?_;refine ah ?_;exact acd qA (ZU (n:Rat))
theorem Dm(a:Rt)(ha:a.ok):FP 79 [a.av] (qA (-a.q)):=by
 have za:=ha.qs;refine aj func79 ?_;refine gc (lI a ha) ?_;refine gc (wQ za.num) ?_;refine gc (uW za.num.neg za.den (by have:=a.q.den_nz;omega)) ?_;refine gD ?_;refine ah ?_;rw[Kv];rfl
theorem xE(a:Rt)(ha:a.ok):FP 179 [a.av] (i64 (bV a.q)):=by
 refine aj func179 ?_;refine gc (lI a ha) ?_;refine gc (uR ha.qs.num) ?_;refine ah ?_;rw[E4]
theorem HU(a b:Rt)(ha:a.ok)(hb:b.ok):FP 391 [a.av,b.av] (i64 (bV (a.q-b.q))):=by
 have za:=ha.qs;have zb:=hb.qs;have m1:=za.mul zb;have m2:=zb.mul za;refine aj func391 ?_;refine gc (lI a ha) ?_;refine gc (lI b hb) ?_;refine gc (mQ za.num zb.den) ?_;refine gc (mQ zb.num za.den) ?_;refine gc (Ed m1.1 m2.1) ?_;refine gD ?_;refine ah ?_;rw[TF]
theorem oJ(a b:Rt)(ha:a.ok)(hb:b.ok):FP 172 [a.av,b.av] (qA (a.q+b.q)):=by
 have za:=ha.qs;have zb:=hb.qs;have m1:=za.mul zb;have m2:=zb.mul za;refine aj func172 ?_;refine gc (lI a ha) ?_;refine gc (lI b hb) ?_;refine gc (mQ za.num zb.den) ?_;refine gc (mQ zb.num za.den) ?_;refine gc (OP m1.1 m2.1) ?_;refine gc (mQ za.den zb.den) ?_;refine gc (uW (za.cross zb) m1.2.2.1 (ZC (by have:=a.q.den_nz;omega) (by have:=b.q.den_nz;omega))) ?_;refine gD ?_;refine ah ?_;rw[Ak];rfl
theorem OG(a b:Rt)(ha:a.ok)(hb:b.ok):FP 330 [a.av,b.av] (qA (a.q-b.q)):=by
 refine aj func330 ?_;refine gc (Dm b hb) ?_;refine gc (oJ a (rt (-b.q)) ha hb.qs.neg.ok) ?_;refine gD ?_;refine ah ?_;rw[cc,<- ZR];rfl
theorem FL(a b:Rt)(ha:a.ok)(hb:b.ok):FP 337 [a.av,b.av] (qA (a.q*b.q)):=by
 have za:=ha.qs;have zb:=hb.qs;have m1:=za.mul zb;refine aj func337 ?_;refine gc (lI a ha) ?_;refine gc (lI b hb) ?_;refine gc (mQ za.num zb.num) ?_;refine gc (mQ za.den zb.den) ?_;refine gc (uW m1.2.1 m1.2.2.1 (ZC (by have:=a.q.den_nz;omega) (by have:=b.q.den_nz;omega))) ?_;refine gD ?_;refine ah ?_;rw[Bx];rfl
theorem IU(a b:Rt)(ha:a.ok)(hb:b.ok):FP 361 [a.av,b.av] (.tup [qA (a.q/b.q),bF (if b.q=0 then 8 else 0)]):=by
 have za:=ha.qs;have zb:=hb.qs;have m1:=za.mul zb;refine aj func361 ?_;refine gc (lI a ha) ?_;refine gc (lI b hb) ?_;refine gc (mQ za.num zb.den) ?_;refine gc (mQ za.den zb.num) ?_;refine gc (Wq m1.1 m1.2.2.2) ?_;refine gD ?_;refine bt ?_
 have e1:((a.q.den:Int)*b.q.num=0)=(b.q=0):=by
  apply propext;rw[<- Rat.num_eq_zero,Int.mul_eq_zero];exact⟨fun h=>h.resolve_left (by have:=a.q.den_nz;omega),.inr⟩
 simp only[Fg,e1];rfl
structure Pq where
  c:List Rat
  s:List Rat
  x:List Rat
  y:List Rat
def Pq.av(p:Pq):AV:=.agg [nA p.c,nA p.s,nA p.x,nA p.y]
structure Pq.ok(n e:Nat)(p:Pq):Prop where
  c:Nm n e p.c
  s:Nm n e p.s
  x:Nm n e p.x
  y:Nm n e p.y
def Ir(p:Pse):Pq:=⟨sh 0 (dW p.turn.half p.turn.t.q:Rat),sh 0 (dR p.turn.half p.turn.t.q:Rat),sh 0 (p.at_.x.q:Rat),sh 0 (p.at_.y.q:Rat)⟩
def DN(ps:List Pse):Nat:=if ps.all Pse.ok=true then 0 else 2
def ofL(ps:List Pse):List Pq:=if ps.all Pse.ok=true then ps.map Ir else[]
theorem tM{half:Bool}{t:Rat}{e:Nat}(h:Qb e t):Qb (4*e+6) (dW half t):=by
 unfold dW;split
 ·exact Qb.one.neg.mono oz
 ·exact((Qb.one.sub (h.mul h)).div (Qb.one.add (h.mul h))).mono oz
theorem tY{half:Bool}{t:Rat}{e:Nat}(h:Qb e t):Qb (4*e+6) (dR half t):=by
 unfold dR;split
 ·exact Qb.zero.mono oz
 ·exact((h.add h).div (Qb.one.add (h.mul h))).mono oz
theorem Tv{n e:Nat}{q:Rat}(hn:n<=5)(h:Qb e q):Nm n (e+e) (sh 0 (q:Rat)):=by
 have h1:Nl n (sh 0 (q:Rat)):=by
  have:Nl 0 (sh 0 (q:Rat)):=eT 0 _;rcases this with h |⟨j,hj,h⟩
  ·exact .inl h
  ·exact .inr ⟨j,by omega,h⟩
 refine⟨hn,h1,?_⟩
 have hm:∀p∈sh 0 (q:Rat),Qb e p:=by
  intro p hp
  have:p=q:=by
   unfold sh at hp;split at hp
   ·cases hp
   ·exact Za.1 hp
  rw[this];exact h
 obtain⟨D,N,h3,h4,h5⟩:=Il hm
 have h6:(sh 0 (q:Rat)).length<=1:=by
  rcases(eT 0 (q:Rat))with h |⟨j,hj,h⟩
  ·rw[h];simp
  ·have : j = 0 := by omega
   subst this;rw[h];simp
 have h7:e*(sh 0 (q:Rat)).length<=e*1:=aaz _ h6;exact⟨D,N,h3,abe h4 (cm oz),abe h5 (cm oz)⟩
def Lv(ts:LL)(b:Pl)(w:Pq):Bool :=
  it ts (ae ts.length (lq b.c)) (ae ts.length w.c)&&it ts (ae ts.length (lq b.s)) (ae ts.length w.s)&&it ts (ae ts.length (lq b.x)) (ae ts.length w.x)&&it ts (ae ts.length (lq b.y)) (ae ts.length w.y)
def mE(a:As)(ps:List Pse):Nat :=
  if bM a.rs≠0 then bM a.rs else if DN ps≠0 then DN ps else if a.bs.length≠ps.length then 10 else e8 (a.bs.map (fun b=>bB a.rs b.l))
def mB(a:As)(ps:List Pse):Bool:=decide (mE a ps=0)&&(a.bs.zip ps).all (fun z=>Lv (llq a.rs) z.1 (Ir z.2))
theorem GG{α:Type}{l:List α}{f:α->Nat}{i:Nat}{x:α}(hx:l[i]?=some x)(hb:∀y∈l.take i,f y=0)(hn:f x≠0):e8 (l.map f)=f x:=by
 have e:l=l.take i++l.drop i:=(Zc i l).symm;have hi:=(Y1.1 hx).1
 have e2:l.drop i=x::l.drop (i+1):=by
  rw[Y5 hi,(Y1.1 hx).2]
 rw[e,abf,u7 _ _ (od (fun v hv=>by
  obtain⟨y,hy,rfl⟩:=Y8.1 hv;exact hb y hy)),e2]
 show(if f x≠0 then f x else _)=_;rw[ab6 hn]
theorem Cm{rs:List (List Rt)}{b:Pl}{E:Nat}(h:bB rs b.l=0)(hb:∀x∈b.l,NR x E)(h5:rs.length<=5) :
  b.av=Pq.av ⟨lq b.c,lq b.s,lq b.x,lq b.y⟩/\Pq.ok rs.length E ⟨lq b.c,lq b.s,lq b.x,lq b.y⟩:=by
 have h1:=(mn h).2
 have g:∀x∈b.l,nR x=nA (lq x)/\Nm rs.length E (lq x):=fun x hx=>by
  obtain⟨e1,e2⟩:=(hb x hx).num (h1 x hx);exact⟨e1,h5,e2,(hb x hx).cb⟩
 have c:=g b.c (by simp[Pl.l]);have s:=g b.s (by simp[Pl.l]);have x:=g b.x (by simp[Pl.l]);have y:=g b.y (by simp[Pl.l]);exact⟨by unfold Pl.av Pq.av;rw[c.1,s.1,x.1,y.1],c.2,s.2,x.2,y.2⟩
instance:Inhabited Tn:=⟨⟨⟨false,[],[]⟩,false⟩⟩
def cQ(n:Nat)(ok:Nat->Bool):Option Nat:=(List.range n).find? (fun i=>!ok i)
theorem gP{n i:Nat}{ok:Nat->Bool}(hi:i<n)(h:∀j,j<i->ok j=true)(he:ok i=false):cQ n ok=some i:=by
 unfold cQ;rw[Zx];exact⟨by rw[he];rfl,by simpa using hi,fun j hj=>by rw[h j hj];rfl⟩
theorem f6{n:Nat}{ok:Nat->Bool}(h:∀j,j<n->ok j=true):cQ n ok=none:=by
 unfold cQ;rw[Zk];exact fun j hj=>by rw[h j hj];rfl
theorem MR{n:Nat}{ok:Nat->Bool}(h:cQ n ok=none):∀j,j<n->ok j=true:=by
 unfold cQ at h;rw[Zk]at h;intro j hj;have:=h j hj;simpa using this
def jB:Option Nat->Int
  |none=>-1
  |some i=>i
theorem yY{o:Option Nat}(h:aa .geq (jB o) 0=true):∃i,o=some i:=by
 cases o with
 |none=>cases h
 |some i=>exact⟨i,rfl⟩
theorem Ce{o:Option Nat}(h:aa .geq (jB o) 0=false):o=none:=by
 cases o with
 |none=>rfl
 |some i =>
  have h1:¬((i:Int)>=0):=ab9 h;omega
abbrev fX(ts:LL)(x:List Rt):T ts.length:=ae ts.length (lq x)
def ph(ts:LL)(b:Pl)(m:Mk):T ts.length×T ts.length:=(sD ts (fX ts b.c) (fX ts b.s) (fX ts b.x) m.x.q m.y.q,sL ts (fX ts b.c) (fX ts b.s) (fX ts b.y) m.x.q m.y.q)
def uN(l:Li)(a:As)(body pt:Int):T (llq a.rs).length×T (llq a.rs).length:=ph (llq a.rs) (a.bs.getD body.toNat default) ((cO l body).getD pt.toNat default)
def CT(p:Nat×Nat):AV:=.agg [i64 p.1,i64 p.2]
theorem dg{l:Li}(h:aN l=0):iH l=0/\fg l=0/\ic l=0/\l.bo.length<=8/\l.bo.length≠0:=by
 unfold aN at h;split at h
 ·cases h
 ·split at h
  ·cases h
  ·split at h
   ·cases h
   ·split at h
    ·rename_i h1;exact acc h h1
    ·rename_i g1 _ h1;split at h
     ·rename_i h2;exact acc h h2
     ·rename_i h2;exact⟨aao.1 h1,aao.1 h2,h,by omega,by omega⟩
theorem DZ{l:Li}(h:aN l=0){i:Nat}{j:Jt}(hj:l.jo[i]?=some j):eM l j=0:=by
 have h1:=(dg h).2.1;unfold fg at h1;split at h1
 ·cases h1
 ·have h2:=se h1 i (Y1.1 hj).1;unfold gB at h2;rw[aq hj]at h2;split at h2
  ·cases h2
  ·split at h2
   ·cases h2
   ·exact h2
theorem cF{l:Li}(h:aN l=0){i:Nat}{j:Jt}(hj:l.jo[i]?=some j) :
  bA j.a l.bo.length=true/\bA j.b l.bo.length=true/\bA j.point (cO l j.a).length=true/\bA j.on (cO l j.b).length=true/\(j.kind≠0->bA j.to (cO l j.b).length=true):=by
 have h1:=DZ h hj;unfold eM at h1;split at h1
 ·cases h1
 ·split at h1
  ·cases h1
  ·rename_i h2;split at h1
   ·cases h1
   ·split at h1
    ·cases h1
    ·rename_i h3;have a1:bA j.a l.bo.length = true:=by cases h:bA j.a l.bo.length <;> simp_all
     have a2:bA j.b l.bo.length=true:=by cases h:bA j.b l.bo.length <;> simp_all
     have a3:bA j.point (cO l j.a).length=true:=by cases h:bA j.point (cO l j.a).length <;> simp_all
     have a4:bA j.on (cO l j.b).length=true:=by cases h:bA j.on (cO l j.b).length <;> simp_all
     refine⟨a1,a2,a3,a4,fun hk=>?_⟩;rw[ab5 hk]at h1;split at h1
     ·cases h1
     ·rename_i h4;cases h:bA j.to (cO l j.b).length <;> simp_all
theorem lM{l:Li}(h:aN l=0){i:Nat}{d:Dr}(hd:l.dv[i]?=some d):bA d.body l.bo.length=true:=by
 have h1:=(dg h).2.2.1;unfold ic at h1;split at h1
 ·cases h1
 ·have h2:=se h1 i (Y1.1 hd).1;unfold d9 at h2;rw[aq hd]at h2;split at h2
  ·cases h2
  ·split at h2
   ·cases h2
   ·split at h2
    ·cases h2
    ·rename_i h3;cases h:bA d.body l.bo.length <;> simp_all
theorem Qp{l:Li}(h:aN l=0){n k:Nat}{b:Bd}{m:Mk}(hb:l.bo[n]?=some b)(hm:b.pts[k]?=some m):m.x.valid=true/\m.y.valid=true:=by
 have h2:=se (dg h).1 n (Y1.1 hb).1;unfold eO at h2;rw[aq hb]at h2;split at h2
 ·cases h2
 ·split at h2
  ·cases h2
  ·split at h2
   ·cases h2
   ·have h3:=se h2 k (Y1.1 hm).1;unfold eH at h3;rw[aq hm]at h3;split at h3
    ·cases h3
    ·split at h3
     ·cases h3
     ·split at h3
      ·assumption
      ·cases h3
theorem uG{ts:LL}{r e f:Nat}(tw:Tw ts r){b:Pl}{m:Mk}(hb:Pq.ok ts.length e ⟨lq b.c,lq b.s,lq b.x,lq b.y⟩)(hx:Qb f m.x.q)(hy:Qb f m.y.q) :
  Nm ts.length (3*e+2*f+2*kB r ts.length+10) (sh ts.length (ph ts b m).1)/\Nm ts.length (3*e+2*f+2*kB r ts.length+10) (sh ts.length (ph ts b m).2):=by
 have nx:=Nm.ofQ tw.five (Cb.one hx);have ny:=Nm.ofQ tw.five (Cb.one hy);have h1:=(vY tw hb.c hb.s nx ny).add hb.x;rw[yX]at h1;have h2:=(xQ tw hb.c hb.s nx ny).add hb.y;rw[AY]at h2;exact⟨h1.mono oz,h2.mono oz⟩
def kA(l:Li)(xs:List Tn):Nat:=if aN l≠0 then aN l else if xs.length≠l.dv.length then 10 else e8 (xs.map Tn.err)
theorem GA{l:Li}{xs:List Tn}(h:aN l=0)(h1:xs.length≠l.dv.length):kA l xs=10:=by unfold kA;rw[ab5 (by rw[h];simp),ab6 h1]
theorem Jb{l:Li}{xs:List Tn}(h:aN l=0)(h1:xs.length=l.dv.length){i:Nat}{x:Tn}(hx:xs[i]?=some x)(hb:∀y∈xs.take i,y.err=0)(hn:x.err≠0):kA l xs=x.err:=by
 unfold kA;rw[ab5 (by rw[h];simp),ab5 (by rw[h1];simp),GG hx hb hn]
theorem In{l:Li}{xs:List Tn}(h:aN l=0)(h1:xs.length=l.dv.length)(hb:∀y∈xs,y.err=0):kA l xs=0:=by
 unfold kA;rw[ab5 (by rw[h];simp),ab5 (by rw[h1];simp)]
 exact od (fun e he=>by obtain⟨x,hx,rfl⟩:=Y8.1 he;exact hb x hx)
theorem UC{e n m:Nat}(h:cond (!(d5 (jq e))) true (aa .neq (n:Int) (m:Int))=true):e≠0\/n≠m:=by
 cases h1:d5 (jq e)
 ·exact .inl (I9 h1)
 ·rw[h1]at h;have:=nW h;exact .inr oz
structure Gr where
  kind:Int
  bo:List Int
  jo:List Int
  driver:Int
instance:Inhabited Gr:=⟨⟨0,[],[],0⟩⟩
def Gr.av(g:Gr):AV:=.agg [i64 g.kind,.lst 1 (g.bo.map i64),.lst 1 (g.jo.map i64),i64 g.driver]
def kn(k:List Bool)(i:Int):Bool:=k.getD i.toNat false
def cV(n:Nat)(b:Int):List Bool:=(Y6 n false).set b.toNat true
def mi(l:Li)(b:Int):Bool:=l.dv.any (fun d=>decide (d.body=b))
def freeB(l:Li)(kw:List Bool)(b:Int):Bool:=!kn kw b&&!mi l b
def ma(kind body:Int)(oth:List Bool)(j:Jt):Bool:=decide (j.kind=kind)&&(decide (j.a=body)&&kn oth j.b||decide (j.b=body)&&kn oth j.a)
def jointI(l:Li)(kind body:Int)(oth:List Bool):Int:=jB (cQ l.jo.length (fun i=>!ma kind body oth (l.jo.getD i default)))
def drHit(l:Li)(kw:List Bool)(i:Nat):Bool:=!kn kw (l.dv.getD i default).body&&decide (0<=jointI l 0 (l.dv.getD i default).body kw)
def driverG(l:Li)(kw:List Bool):Option Gr :=
  (cQ l.dv.length (fun i=>!drHit l kw i)).map fun i=>⟨0,[(l.dv.getD i default).body],[jointI l 0 (l.dv.getD i default).body kw],i⟩
def prHit(l:Li)(kw:List Bool)(i k:Nat):Bool :=
  (freeB l kw i&&freeB l kw k)&&(decide (0<=jointI l 0 i kw)&&decide (0<=jointI l 0 k kw)&&decide (0<=jointI l 0 i (cV l.bo.length k)))
def prAt(l:Li)(kw:List Bool)(i:Nat):Option Nat:=(cQ (l.bo.length-(i+1)) (fun k=>!prHit l kw i (i+1+k))).map (·+(i+1))
def prG(l:Li)(kw:List Bool)(i k:Nat):Gr:=⟨1,[i,k],[jointI l 0 i kw,jointI l 0 k kw,jointI l 0 i (cV l.bo.length k)],0⟩
def pairG(l:Li)(kw:List Bool):Option Gr :=
  (cQ l.bo.length (fun i=>(prAt l kw i).isNone)).map fun i=>match prAt l kw i with
    |some k=>prG l kw i k
    |none=>default
def sgHit(l:Li)(kw:List Bool)(i:Nat):Bool:=freeB l kw i&&(decide (0<=jointI l 0 i kw)&&decide (0<=jointI l 1 i kw))
def sgG(l:Li)(kw:List Bool)(i:Nat):Gr :=
  ⟨if(l.jo.getD (jointI l 1 i kw).toNat default).a=i then 2 else 3,[i],[jointI l 0 i kw,jointI l 1 i kw],0⟩
def singleG(l:Li)(kw:List Bool):Option Gr:=(cQ l.bo.length (fun i=>!sgHit l kw i)).map (sgG l kw)
def nextG(l:Li)(kw:List Bool):Option Gr:=(driverG l kw).or ((pairG l kw).or (singleG l kw))
def bJ(kw:List Bool)(bs:List Int):List Bool:=bs.foldl (fun k b=>k.set b.toNat true) kw
def findFrom(l:Li):Nat->List Bool->List Gr->List Bool×List Gr
  |0,kw,out=>(kw,out)
  |n+1,kw,out=>match nextG l kw with
    |none=>(kw,out)
    |some g=>findFrom l n (bJ kw g.bo) (out++[g])
def findG(l:Li):List Gr:=(findFrom l l.bo.length (cV l.bo.length 0) []).2
def bZ(l:Li):List Bool:=(findG l).foldl (fun k g=>bJ k g.bo) (cV l.bo.length 0)
def ee(l:Li):List Bool:=(findG l).foldl (fun k g=>bJ k g.jo) (Y6 l.jo.length false)
def eY(k:List Bool):List Int:=((List.range k.length).filter (fun i=>!k.getD i false)).map (fun i:Nat=>((i:Nat):Int))
def splitE(l:Li):Nat:=if(eY (bZ l)).length+(eY (ee l)).length=0 then 0 else 7
def splitG(l:Li):List Gr:=if splitE l=0 then findG l else[]
theorem KD{kind body:Int}{oth:List Bool}{j:Jt}{va vb:Bool}(ea:kn oth j.a=va)(eb:kn oth j.b=vb) :
  cond (aa .eql j.kind kind) (cond (cond (aa .eql j.a body) vb false) true (cond (aa .eql j.b body) va false)) false=ma kind body oth j:=by
 unfold ma;rw[oT,oT,oT,ea,eb,jk,jk,jk,jb]
theorem ir(n:Nat)(b:Int):(cV n b).length=n:=by unfold cV;simp
theorem jA:∀(bs:List Int)(k:List Bool),(bJ k bs).length=k.length
 |[],k=>rfl
 |b::bs,k=>by
  show(bJ (k.set b.toNat true) bs).length=_;rw[jA bs];simp
theorem fD{n i:Nat}{ok:Nat->Bool}(h:cQ n ok=some i):i<n/\ok i=false:=by
 unfold cQ at h;rw[Zx]at h;exact⟨by simpa using h.2.1,by simpa using h.1⟩
theorem nP{l:Li}{kind body:Int}{oth:List Bool}:-1<=jointI l kind body oth/\jointI l kind body oth<l.jo.length:=by
 unfold jointI;cases h:cQ l.jo.length (fun i=>!ma kind body oth (l.jo.getD i default))with
 |none=>exact⟨by decide,by show(-1:Int)<_;omega⟩
 |some i=>have:=(fD h).1;exact⟨by show(-1:Int)<=(i:Int);omega,by show(i:Int)<_;omega⟩
structure GrOk(l:Li)(g:Gr):Prop where
  b:∀x∈g.bo,0<=x/\x<l.bo.length
  j:∀x∈g.jo,0<=x/\x<l.jo.length
  lb:g.bo.length<=2
  lj:g.jo.length<=3
theorem U4{l:Li}(hl:aN l=0){kw:List Bool}{g:Gr}(h:driverG l kw=some g):GrOk l g:=by
 unfold driverG at h;rw[aas]at h;obtain⟨i,hi,rfl⟩:=h;obtain⟨h1,h2⟩:=fD hi;obtain⟨d,hd⟩:=ay h1;have h3:=df (lM hl hd);unfold drHit at h2;simp only[Z0,aaw,ab7]at h2;rw[aq hd]at h2 ⊢;have h4:=nP (l:=l) (kind:=0) (body:=d.body) (oth:=kw);refine⟨fun x hx=>?_,fun x hx=>?_,by simp,by simp⟩
 ·rw[Za.1 hx];exact h3
 ·rw[Za.1 hx];exact⟨h2.2,h4.2⟩
theorem NY{l:Li}{kw:List Bool}{g:Gr}(h:pairG l kw=some g):GrOk l g:=by
 unfold pairG at h;rw[aas]at h;obtain⟨i,hi,h⟩:=h;obtain⟨h1,h2⟩:=fD hi;split at h
 ·rename_i k hk;subst h;unfold prAt at hk;rw [aas] at hk;obtain ⟨k',hk',rfl⟩:=hk;obtain ⟨h3,h4⟩:=fD hk';rw [show i + 1 + k' = k' + (i + 1) by omega] at h4;unfold prHit at h4;simp only [Z0,aaw,ab7] at h4;obtain ⟨_,⟨j1,j2⟩,j3⟩:=h4;refine ⟨fun x hx=>?_,fun x hx=>?_,by simp [prG],by simp [prG]⟩
  ·simp only[prG,abd,abb,or_false]at hx;rcases hx with rfl |rfl <;> constructor <;> omega
  ·simp only[prG,abd,abb,or_false]at hx;rcases hx with rfl |rfl |rfl
   ·exact⟨j1,nP.2⟩
   ·exact⟨j2,nP.2⟩
   ·exact⟨j3,nP.2⟩
 ·rename_i hk;rw[hk]at h2;cases h2
theorem Ma{l:Li}{kw:List Bool}{g:Gr}(h:singleG l kw=some g):GrOk l g:=by
 unfold singleG at h;rw[aas]at h;obtain⟨i,hi,rfl⟩:=h;obtain⟨h1,h2⟩:=fD hi;unfold sgHit at h2;simp only[Z0,aaw,ab7]at h2;obtain⟨_,j1,j2⟩:=h2;refine⟨fun x hx=>?_,fun x hx=>?_,by simp[sgG],by simp[sgG]⟩
 ·simp only[sgG,abd,abb,or_false]at hx;subst hx;constructor <;> omega
 ·simp only[sgG,abd,abb,or_false]at hx;rcases hx with rfl |rfl
  ·exact⟨j1,nP.2⟩
  ·exact⟨j2,nP.2⟩
theorem xz{l:Li}(hl:aN l=0){kw:List Bool}{g:Gr}(h:nextG l kw=some g):GrOk l g:=by
 unfold nextG at h;cases h1:driverG l kw with
 |some g'=>rw[h1]at h;cases h;exact U4 hl h1
 |none =>
  rw[h1]at h;cases h2:pairG l kw with
  |some g'=>rw[h2]at h;cases h;exact NY h2
  |none=>rw[h2]at h;exact Ma h
theorem Ee{l:Li}(hl:aN l=0):∀(n:Nat)(kw:List Bool)(out:List Gr),(∀g∈out,GrOk l g)->(∀g∈(findFrom l n kw out).2,GrOk l g)/\(findFrom l n kw out).2.length<=out.length+n
 |0,kw,out,h=>⟨h,by simp[findFrom]⟩
 |n+1,kw,out,h=>by
  unfold findFrom;cases hg:nextG l kw with
  |none=>exact⟨h,by simp⟩
  |some g =>
   have h1:=Ee hl n (bJ kw g.bo) (out++[g]) (fun x hx=>by
    rcases aa2.1 hx with hx |hx
    ·exact h x hx
    ·rw[Za.1 hx];exact xz hl hg)
   refine⟨h1.1,?_⟩;have:=h1.2;rw[abi]at this;show(findFrom l n (bJ kw g.bo) (out++[g])).2.length<=_;simp only[aa4,abg]at this;omega
theorem r5{l:Li}(hl:aN l=0):(∀g∈findG l,GrOk l g)/\(findG l).length<=8:=by
 have h:=Ee hl l.bo.length (cV l.bo.length 0) [] (fun g hg=>by cases hg);have h8:=(dg hl).2.2.2.1;exact⟨h.1,by have:=h.2;simp only[abg]at this;unfold findG;omega⟩
def kD(j:Jt)(b:Int):Int:=if b=j.a then j.b else if b=j.b then j.a else -1
def xx(kind body:Int)(p:Int->Bool)(j:Jt):Bool:=decide (j.kind=kind)&&(decide (0<=kD j body)&&p (kD j body))
def gJ(l:Li)(kind body:Int)(p:Int->Bool):Int:=jB (cQ l.jo.length (fun i=>!xx kind body p (l.jo.getD i default)))
theorem Nd{b:Bool}{z:Int}(h:cond b (aa .geq z 0) false=true):0<=z:=by
 cases b
 ·cases h
 ·exact ab8 h
theorem Lk{a k z:Int}{q:Bool}:cond (cond (aa .eql a k) (aa .geq z 0) false) q false=(decide (a=k)&&(decide (0<=z)&&q)):=by
 rw[oT,show aa .geq z 0=decide (0<=z)from rfl,jk,jk,Bool.and_assoc]
theorem US{l:Li}(hli:aN l=0){i:Nat}{j:Jt}(hj:l.jo[i]?=some j)(b:Int):kD j b<l.bo.length:=by
 obtain⟨i1,i2,_⟩:=cF hli hj;have b1:=df i1;have b2:=df i2;unfold kD;split
 ·omega
 ·split <;> omega
theorem KX{n:Nat}{ok ok':Nat->Bool}(h:∀i,i<n->ok i=ok' i):cQ n ok=cQ n ok':=by
 unfold cQ
 have:∀l:List Nat,(∀i∈l,i<n)->l.find? (fun i=>!ok i)=l.find? (fun i=>!ok' i):=by
  intro l
  induction l with
  |nil=>intro _;rfl
  |cons a l ih =>
   intro hl;simp only[List.find?_cons,h a (hl a (by simp)),ih (fun i hi=>hl i (by simp[hi]))]
 exact this _ (fun i hi=>Y3.1 hi)
theorem yR{l:Li}(hli:aN l=0){kind body:Int}{p:Int->Bool}{oth:List Bool}(h:∀o:Int,0<=o->o<l.bo.length->p o=kn oth o):gJ l kind body p=jointI l kind body oth:=by
 unfold gJ jointI;rw[KX];intro i hi;obtain⟨j,hj⟩:=ay hi;rw[aq hj];obtain⟨i1,i2,_⟩:=cF hli hj;have b1:=df i1;have b2:=df i2;congr 1;unfold xx ma;congr 1;unfold kD
 by_cases h1:body=j.a
 ·subst h1;rw[ab6 rfl,h _ b2.1 b2.2]
  by_cases h2:j.b=j.a
  ·simp[h2,b1.1]
  ·simp[h2,b2.1]
 ·rw[ab5 h1]
  by_cases h2:body=j.b
  ·subst h2;rw[ab6 rfl,h _ b1.1 b1.2];have h3:¬j.a=j.b:=fun e=>h1 e.symm
   simp[h3,b1.1]
  ·rw[ab5 h2];have h3:¬j.a=body:=fun e=>h1 e.symm
   have h4:¬j.b=body:=fun e=>h2 e.symm
   simp[h3,h4]
theorem Df{k:List Bool}{i:Nat}{b:Int}(h0:0<=b)(hi:i<k.length):kn (k.set i true) b=(decide (b=i)||kn k b):=by
 unfold kn;rw[aaq,List.getElem?_set,aaq]
 by_cases h:b=i
 ·rw[aca h,Bool.true_or,ab6 oz];rw[ab6 oz];rfl
 ·rw[acb h,Bool.false_or,ab5 oz]
theorem zG:∀{bs:List Int}{k:List Bool}{b:Int},0<=b->(∀x∈bs,0<=x/\x<k.length)->kn (bJ k bs) b=(bs.any (fun x=>decide (x=b))||kn k b)
 |[],k,b,h0,h=>by simp[bJ]
 |x::bs,k,b,h0,h=>by
  show kn (bJ (k.set x.toNat true) bs) b=_;obtain⟨hx0,hx1⟩:=h x (by simp);rw[zG h0 (fun y hy=>by rw[ab4];exact h y (by simp[hy])),Df h0 oz,List.any_cons];have e:decide (b=(x.toNat:Int))=decide (x=b):=decide_eq_decide.2 oz;rw[e];cases decide (x=b) <;> simp
theorem xB(n:Nat)(b:Int):kn (Y6 n false) b=false:=by
 unfold kn;rw[aaq,abl];split <;> rfl
def cq(l:Li):List Bool:=bJ (Y6 l.bo.length false) (l.dv.map Dr.body)
theorem td(l:Li):(cq l).length=l.bo.length:=by unfold cq;rw[jA,abp]
theorem Ms{l:Li}(hli:aN l=0){b:Int}(h0:0<=b):kn (cq l) b=mi l b:=by
 unfold cq mi;rw[zG h0,xB,Bool.or_false,List.any_map]
 ·rfl
 ·intro x hx;obtain⟨d,hd,rfl⟩:=Y8.1 hx;obtain⟨i,hi⟩:=List.mem_iff_getElem?.1 hd;have:=df (lM hli hi);rw[abp];omega
theorem pv{n:Nat}{b o:Int}(h0:0<=o)(hb0:0<=b)(hb:b<n):kn (cV n b) o=decide (o=b):=by
 unfold cV;rw[Df h0 (by rw[abp];omega),xB,Bool.or_false];exact decide_eq_decide.2 oz
def dV(k:List Bool):Nat:=k.countP (fun x=>!x)
theorem K8{k:List Bool}{i:Nat}(h:k[i]?=some false):dV (k.set i true)+1=dV k:=by
 unfold dV;have hi:=(Y1.1 h).1;have he:=(Y1.1 h).2;rw[List.countP_set hi,he];have:0<k.countP (fun x=>!x):=List.countP_pos_iff.2 ⟨false,aap h,rfl⟩;simp;omega
theorem SB(k:List Bool)(i:Nat):dV (k.set i true)<=dV k:=by
 by_cases hi:i<k.length
 ·unfold dV;rw[List.countP_set hi];simp
 ·rw[List.set_eq_of_length_le oz];exact aau _
theorem Jz:∀(bs:List Int)(k:List Bool),dV (bJ k bs)<=dV k
 |[],k=>aau _
 |x::bs,k=>abe (Jz bs (k.set x.toNat true)) (SB k _)
theorem SY{x:Int}{bs:List Int}{k:List Bool}(h:k[x.toNat]?=some false):dV (bJ k (x::bs))<dV k:=by
 have h1:=Jz bs (k.set x.toNat true);have h2:=K8 h;show dV (bJ (k.set x.toNat true) bs)<_;omega
theorem B2{k:List Bool}{b:Int}(h:kn k b=false)(h1:b.toNat<k.length):k[b.toNat]?=some false:=by
 unfold kn at h;rw[aaq,aat h1]at h;rw[aat h1];simpa using h
theorem Lo{l:Li}(hl:aN l=0){kw:List Bool}(hk:kw.length=l.bo.length){g:Gr}(h:nextG l kw=some g):∃x bs,g.bo=x::bs/\kw[x.toNat]?=some false:=by
 unfold nextG at h;cases h1:driverG l kw with
 |some g' =>
  rw[h1]at h;cases h
  unfold driverG at h1;rw[aas]at h1;obtain⟨i,hi,rfl⟩:=h1;obtain⟨h2,h3⟩:=fD hi;obtain⟨d,hd⟩:=ay h2;have h4:=df (lM hl hd);rw[aq hd]at *;unfold drHit at h3;rw[aq hd]at h3;simp only[Z0,aaw,Z2,ab7]at h3;exact⟨_,_,rfl,B2 h3.1 oz⟩
 |none =>
  rw[h1]at h;cases h2:pairG l kw with
  |some g' =>
   rw[h2]at h;cases h
   unfold pairG at h2;rw[aas]at h2;obtain⟨i,hi,h2⟩:=h2;obtain⟨h3,h4⟩:=fD hi;split at h2
   ·rename_i k hk';subst h2;unfold prAt at hk';rw[aas]at hk';obtain⟨k',hk',rfl⟩:=hk';obtain⟨h5,h6⟩:=fD hk';unfold prHit freeB at h6;simp only[Z0,aaw,Z2,ab7]at h6;exact⟨_,_,rfl,B2 h6.1.1.1 oz⟩
   ·rename_i hk';rw[hk']at h4;cases h4
  |none =>
   rw[h2]at h;have h:singleG l kw=some g:=h;unfold singleG at h;rw[aas]at h;obtain⟨i,hi,rfl⟩:=h;obtain⟨h3,h4⟩:=fD hi;unfold sgHit freeB at h4;simp only[Z0,aaw,Z2,ab7]at h4;exact⟨_,_,rfl,B2 h4.1.1 oz⟩
theorem tq{l:Li}(hl:aN l=0){kw:List Bool}(hk:kw.length=l.bo.length){g:Gr}(h:nextG l kw=some g):dV (bJ kw g.bo)<dV kw:=by
 obtain⟨x,bs,e,h1⟩:=Lo hl hk h;rw[e];exact SY h1
theorem yp{l:Li}(hl:aN l=0):∀(n m:Nat)(kw:List Bool)(out:List Gr),kw.length=l.bo.length->dV kw<=n->dV kw<=m->findFrom l n kw out=findFrom l m kw out
 |0,0,kw,out,hk,h1,h2=>rfl
 |0,m+1,kw,out,hk,h1,h2=>by
  unfold findFrom;cases hg:nextG l kw with
  |none=>rfl
  |some g=>have:=tq hl hk hg;omega
 |n+1,0,kw,out,hk,h1,h2=>by
  unfold findFrom;cases hg:nextG l kw with
  |none=>rfl
  |some g=>have:=tq hl hk hg;omega
 |n+1,m+1,kw,out,hk,h1,h2=>by
  unfold findFrom;cases hg:nextG l kw with
  |none=>rfl
  |some g =>
   have:=tq hl hk hg;exact yp hl n m _ _ (by rw[jA];exact hk) oz oz
theorem Ch{l:Li}:∀(n:Nat)(kw:List Bool)(out:List Gr),∃gs,findFrom l n kw out=(gs.foldl (fun k g=>bJ k g.bo) kw,out++gs)
 |0,kw,out=>⟨[],by simp[findFrom]⟩
 |n+1,kw,out=>by
  unfold findFrom;cases hg:nextG l kw with
  |none=>exact⟨[],by simp⟩
  |some g =>
   obtain⟨gs,e⟩:=Ch n (bJ kw g.bo) (out++[g]);exact⟨g::gs,by show findFrom l n _ _=_;rw[e];simp⟩
theorem E0(l:Li):findFrom l l.bo.length (cV l.bo.length 0) []=(bZ l,findG l):=by
 obtain⟨gs,e⟩:=Ch (l:=l) l.bo.length (cV l.bo.length 0) [];unfold bZ findG;rw[e];simp
theorem vG{k:List Bool}:(eY k).length=0↔k.contains false=false:=by
 unfold eY;rw[aar,ZA,List.filter_eq_nil_iff];constructor
 ·intro h;rw[<- Bool.not_eq_true,Zh];intro hm;obtain⟨i,hi⟩:=List.mem_iff_getElem?.1 hm;have hlt:=(Y1.1 hi).1;have:=h i (Y3.2 hlt);rw[aaq,hi]at this;simp at this
 ·intro h i hi;rw[<- Bool.not_eq_true,Zh]at h;intro hc;have hlt:=Y3.1 hi;rw[aaq,aat hlt]at hc;simp at hc;exact h (hc▸Zi hlt)
theorem rF:Sub (.agg [.v (.int .i64 0),.v (.slice none 0 0),.v (.slice none 0 0),.v (.int .i64 0)]) (Gr.av default):=.agg (.cons (.refl _) (.cons (.nil _ _ _) (.cons (.nil _ _ _) (.cons (.refl _) .nil)))) rfl
theorem Ht{z:Int}(h:aa .geq z 0=true):0<=z:=ab8 h
theorem Gp{z:Int}(h:aa .geq z 0=false):¬0<=z:=ab9 h
theorem vr{a b c:Int}:cond (cond (aa .geq a 0) (aa .geq b 0) false) (aa .geq c 0) false=(decide (0<=a)&&decide (0<=b)&&decide (0<=c)):=by
 have e:∀z:Int,aa .geq z 0=decide (0<=z):=fun z=>rfl
 rw[e,e,e,jk,jk]
theorem Ge{a b:Int}:cond (aa .lss a 0) true (aa .lss b 0)=!(decide (0<=a)&&decide (0<=b)):=by
 have e:∀z:Int,aa .lss z 0=!decide (0<=z):=fun z=>by rw[<- decide_not];exact decide_eq_decide.2 oz
 rw[e,e,jb,Bool.not_and]
theorem IR{a b:Int}(h:cond (aa .lss a 0) true (aa .lss b 0)=true):(decide (0<=a)&&decide (0<=b))=false:=by rw[Ge]at h;exact dl h
theorem HS{a b:Int}(h:cond (aa .lss a 0) true (aa .lss b 0)=false):0<=a/\0<=b:=by
 rw[Ge]at h;have:=du h;simpa using this
structure TieO(l:Li)(kind:Int)(bs:List Int)(z b:Int)(j:Jt):Prop where
  hz:0<=z
  hj:l.jo[z.toNat]?=some j
  kd:j.kind=kind
  tie:(j.a=b/\j.b∉bs)\/(j.b=b/\j.a∉bs)
inductive DyK(l:Li):Gr->Prop where
  |drv {b z d:Int} {j:Jt} {x:Dr} (t:TieO l 0 [b] z b j) (d0:0<=d) (hd:l.dv[d.toNat]?=some x) (hb:x.body=b):DyK l ⟨0,[b],[z],d⟩
  |rrr {i k z0 z1 z2:Int} {j0 j1 j2:Jt} (ne:i≠k) (t0:TieO l 0 [i,k] z0 i j0) (t1:TieO l 0 [i,k] z1 k j1) (h0:0<=z2) (h2:l.jo[z2.toNat]?=some j2) (kd:j2.kind=0)
      (tie:(j2.a=i/\j2.b=k)\/(j2.b=i/\j2.a=k)):DyK l ⟨1,[i,k],[z0,z1,z2],0⟩
  |pr {i z0 z1:Int} {j0 j1:Jt} (t0:TieO l 0 [i] z0 i j0) (t1:TieO l 1 [i] z1 i j1) (ha:j1.a=i):DyK l ⟨2,[i],[z0,z1],0⟩
  |rp {i z0 z1:Int} {j0 j1:Jt} (t0:TieO l 0 [i] z0 i j0) (t1:TieO l 1 [i] z1 i j1) (ha:j1.a≠i):DyK l ⟨3,[i],[z0,z1],0⟩
theorem xg{l:Li}{kind b:Int}{oth:List Bool}(h:0<=jointI l kind b oth) :
  ∃(i:Nat)(j:Jt),jointI l kind b oth=(i:Int)/\l.jo[i]?=some j/\j.kind=kind/\((j.a=b/\kn oth j.b=true)\/(j.b=b/\kn oth j.a=true)):=by
 unfold jointI at h ⊢;cases hf:cQ l.jo.length (fun i=>!ma kind b oth (l.jo.getD i default))with
 |none=>rw[hf]at h;exact acc h (by decide)
 |some i =>
  obtain⟨h1,h2⟩:=fD hf;obtain⟨j,hj⟩:=ay h1;rw[aq hj]at h2;unfold ma at h2;simp only[Z0,aaw,abz,ab7]at h2;exact⟨i,j,rfl,hj,h2.1,h2.2⟩
theorem tJ{l:Li}{kind b:Int}{kw:List Bool}{bs:List Int}(hb:∀x∈bs,kn kw x=false)(h:0<=jointI l kind b kw):∃j,TieO l kind bs (jointI l kind b kw) b j:=by
 obtain⟨i,j,e,hj,hk,ht⟩:=xg h;have hn:∀x,kn kw x=true->x∉bs:=fun x hx hm=>by rw[hb x hm]at hx;cases hx
 refine⟨j,h,by rw[e,abn];exact hj,hk,?_⟩;rcases ht with⟨h1,h2⟩ |⟨h1,h2⟩
 ·exact .inl ⟨h1,hn _ h2⟩
 ·exact .inr ⟨h1,hn _ h2⟩
theorem rO{l:Li}{kw:List Bool}{b:Int}(h:freeB l kw b=true):kn kw b=false:=by
 unfold freeB at h;simp only[aaw,Z2]at h;exact h.1
theorem xe{kw:List Bool}{b:Int}(h:kn kw b=false):∀x∈[b],kn kw x=false:=fun x hx=>by rw[Za.1 hx];exact h
theorem P7{l:Li}(hl:aN l=0){kw:List Bool}{g:Gr}(h:driverG l kw=some g):DyK l g:=by
 unfold driverG at h;rw[aas]at h;obtain⟨i,hi,rfl⟩:=h;obtain⟨h1,h2⟩:=fD hi;obtain⟨d,hd⟩:=ay h1;unfold drHit at h2;simp only[Z0,aaw,ab7,Z2]at h2;rw[aq hd]at h2 ⊢;obtain⟨j,hj⟩:=tJ (xe h2.1) h2.2;exact .drv hj oz (by rw[abn];exact hd) rfl
theorem OH{l:Li}(hl:aN l=0){kw:List Bool}{g:Gr}(h:pairG l kw=some g):DyK l g:=by
 unfold pairG at h;rw[aas]at h;obtain⟨i,hi,h⟩:=h;obtain⟨h1,h2⟩:=fD hi;split at h
 ·rename_i k hk;subst h;unfold prAt at hk;rw [aas] at hk;obtain ⟨k',hk',rfl⟩:=hk;obtain ⟨h3,h4⟩:=fD hk';rw [show i + 1 + k' = k' + (i + 1) by omega] at h4;unfold prHit at h4;simp only [Z0,aaw,ab7] at h4;obtain ⟨⟨f1,f2⟩,⟨j1,j2⟩,j3⟩:=h4
  have hb:∀x∈[(i:Int),((k'+(i+1):Nat):Int)],kn kw x=false:=fun x hx=>by
   simp only[abd,abb,or_false]at hx;rcases hx with rfl |rfl
   ·exact rO f1
   ·exact rO f2
  obtain⟨a0,t0⟩:=tJ hb j1;obtain⟨a1,t1⟩:=tJ hb j2;obtain⟨n,a2,e,hj,hkd,ht⟩:=xg j3;obtain⟨i1,i2,_⟩:=cF hl hj;have i1:=(df i1).1;have i2:=(df i2).1;refine .rrr oz t0 t1 j3 (by rw[e,abn];exact hj) hkd ?_;rcases ht with⟨e1,e2⟩ |⟨e1,e2⟩
  ·rw[pv i2 oz oz]at e2;exact .inl ⟨e1,ab8 e2⟩
  ·rw[pv i1 oz oz]at e2;exact .inr ⟨e1,ab8 e2⟩
 ·rename_i hk;rw[hk]at h2;cases h2
theorem Rb{l:Li}{kw:List Bool}{g:Gr}(h:singleG l kw=some g):DyK l g:=by
 unfold singleG at h;rw[aas]at h;obtain⟨i,hi,rfl⟩:=h;obtain⟨h1,h2⟩:=fD hi;unfold sgHit at h2;simp only[Z0,aaw,ab7]at h2;obtain⟨f1,j1,j2⟩:=h2;obtain⟨a0,t0⟩:=tJ (xe (rO f1)) j1;obtain⟨a1,t1⟩:=tJ (xe (rO f1)) j2;unfold sgG;rw[aq t1.hj]
 by_cases e:a1.a=i
 ·rw[ab6 e];exact .pr t0 t1 e
 ·rw[ab5 e];exact .rp t0 t1 e
theorem Ta{l:Li}(hl:aN l=0){kw:List Bool}{g:Gr}(h:nextG l kw=some g):DyK l g:=by
 unfold nextG at h;cases h1:driverG l kw with
 |some g'=>rw[h1]at h;cases h;exact P7 hl h1
 |none =>
  rw[h1]at h;cases h2:pairG l kw with
  |some g'=>rw[h2]at h;cases h;exact OH hl h2
  |none=>rw[h2]at h;exact Rb h
theorem EQ{l:Li}(hl:aN l=0):∀(n:Nat)(kw:List Bool)(out:List Gr),(∀g∈out,DyK l g)->∀g∈(findFrom l n kw out).2,DyK l g
 |0,kw,out,h=>h
 |n+1,kw,out,h=>by
  unfold findFrom;cases hg:nextG l kw with
  |none=>exact h
  |some g=>exact EQ hl n (bJ kw g.bo) (out++[g]) (fun x hx=>by
    rcases aa2.1 hx with hx |hx
    ·exact h x hx
    ·rw[Za.1 hx];exact Ta hl hg)
theorem mC{l:Li}(hl:aN l=0){g:Gr}(h:g∈splitG l):DyK l g/\GrOk l g:=by
 unfold splitG at h;split at h
 ·exact⟨EQ hl _ _ _ (fun g hg=>by cases hg) g h,(r5 hl).1 g h⟩
 ·cases h
open Lean.Grind
def E(r:(k:Nat)->T k)(n:Nat):Type:=T n
namespace T
theorem ofQ_zero:∀n,ofQ n 0=zero n
 |0=>rfl
 |n+1=>by simp only[ofQ,zero,ofQ_zero n]
theorem ofQ_add:∀n (p q:Rat),ofQ n (p+q)=add n (ofQ n p) (ofQ n q)
 |0,p,q=>rfl
 |n+1,p,q=>by simp only[ofQ,add,ofQ_add n,add_zero]
theorem ofQ_neg:∀n (p:Rat),ofQ n (-p)=neg n (ofQ n p)
 |0,p=>rfl
 |n+1,p=>by simp only[ofQ,neg,ofQ_neg n,neg_zero]
end T
structure Laws(r:(k:Nat)->T k)(n:Nat):Prop where
  assoc:∀x y z,T.mul r n (T.mul r n x y) z=T.mul r n x (T.mul r n y z)
  dist:∀x y z,T.mul r n x (T.add n y z)=T.add n (T.mul r n x y) (T.mul r n x z)
  one:∀x,T.mul r n (T.ofQ n 1) x=x
theorem T.neg_mul'{r:(k:Nat)->T k}{n:Nat}(h:Laws r n)(x y:T n):T.mul r n (T.neg n x) y=T.neg n (T.mul r n x y):=by
 have h1:T.add n (T.mul r n x y) (T.mul r n (T.neg n x) y)=T.zero n:=by
  rw[T.mul_comm r n x,T.mul_comm r n (T.neg n x),<- h.dist,T.add_neg,T.mul_zero]
 have h2:=acd (fun z=>T.add n (T.neg n (T.mul r n x y)) z) h1;simp only[T.add_zero]at h2;rw[<- T.add_assoc,T.add_comm n (T.neg n _),T.add_neg,T.zero_add]at h2;exact h2
theorem T.mul_addr{r:(k:Nat)->T k}{n:Nat}(h:Laws r n)(a b c:T n):T.mul r n (T.add n a b) c=T.add n (T.mul r n a c) (T.mul r n b c):=by
 rw[T.mul_comm r n _ c,h.dist,T.mul_comm r n c,T.mul_comm r n c]
instance (r:(k:Nat)->T k)(n:Nat):Add (E r n):=⟨T.add n⟩
instance (r:(k:Nat)->T k)(n:Nat):Mul (E r n):=⟨T.mul r n⟩
instance (r:(k:Nat)->T k)(n:Nat):Neg (E r n):=⟨T.neg n⟩
instance (r:(k:Nat)->T k)(n:Nat):_root_.Sub (E r n):=⟨fun x y=>T.add n x (T.neg n y)⟩
instance (r:(k:Nat)->T k)(n c:Nat):OfNat (E r n) c:=⟨T.ofQ n (c:Rat)⟩
instance (r:(k:Nat)->T k)(n:Nat):NatCast (E r n):=⟨fun c=>T.ofQ n (c:Rat)⟩
instance (r:(k:Nat)->T k)(n:Nat):IntCast (E r n):=⟨fun c=>T.ofQ n (c:Rat)⟩
instance (r:(k:Nat)->T k)(n:Nat):SMul Nat (E r n):=⟨fun c x=>T.mul r n (T.ofQ n (c:Rat)) x⟩
instance (r:(k:Nat)->T k)(n:Nat):SMul Int (E r n):=⟨fun c x=>T.mul r n (T.ofQ n (c:Rat)) x⟩
def E.pow{r:(k:Nat)->T k}{n:Nat}(x:E r n):Nat->E r n
  |0=>T.ofQ n 1
  |c+1=>T.mul r n (E.pow x c) x
instance (r:(k:Nat)->T k)(n:Nat):HPow (E r n) Nat (E r n):=⟨E.pow⟩
@[reducible] def Laws.ring {r:(k:Nat)->T k} {n:Nat} (h:Laws r n):CommRing (E r n) where
  add_zero a:=by
    show T.add n a (T.ofQ n ((0:Nat):Rat))=a;rw[show(((0:Nat):Rat))=0 from rfl,T.ofQ_zero];exact T.add_zero n a
  add_comm a b:=T.add_comm n a b
  add_assoc a b c:=T.add_assoc n a b c
  mul_assoc a b c:=h.assoc a b c
  mul_one a:=(T.mul_comm r n a _).trans (h.one a)
  one_mul a:=h.one a
  left_distrib a b c:=h.dist a b c
  right_distrib a b c:=T.mul_addr h a b c
  zero_mul a:=by
    show T.mul r n (T.ofQ n ((0:Nat):Rat)) a=T.ofQ n ((0:Nat):Rat);rw[show(((0:Nat):Rat))=0 from rfl,T.ofQ_zero];exact T.zero_mul r n a
  mul_zero a:=by
    show T.mul r n a (T.ofQ n ((0:Nat):Rat))=T.ofQ n ((0:Nat):Rat);rw[show(((0:Nat):Rat))=0 from rfl,T.ofQ_zero];exact T.mul_zero r n a
  pow_zero a:=rfl
  pow_succ a c:=rfl
  ofNat_succ c:=by
    show T.ofQ n ((c+1:Nat):Rat)=T.add n (T.ofQ n (c:Rat)) (T.ofQ n ((1:Nat):Rat));rw[<- T.ofQ_add];congr 1;exact Rat.natCast_add c 1
  ofNat_eq_natCast c:=rfl
  nsmul_eq_natCast_mul c a:=rfl
  neg_add_cancel a:=(T.add_comm n (T.neg n a) a).trans ((T.add_neg n a).trans (T.ofQ_zero n).symm)
  sub a b:=T.add n a (T.neg n b)
  sub_eq_add_neg a b:=rfl
  neg_zsmul i a:=(acd (fun z=>T.mul r n z a) (show T.ofQ n ((-i:Int):Rat)=T.neg n (T.ofQ n (i:Rat)) by rw[Rat.intCast_neg,T.ofQ_neg])).trans (T.neg_mul' h _ a)
  zsmul_natCast_eq_nsmul c a:=rfl
  intCast_ofNat c:=rfl
  intCast_neg i:=by
    show T.ofQ n ((-i:Int):Rat)=T.neg n (T.ofQ n (i:Rat));rw[Rat.intCast_neg,T.ofQ_neg]
  mul_comm a b:=T.mul_comm r n a b
section
variable{R:Type}[CommRing R](x y u v p q d:R)
theorem Ls:(x*u+y*v*d)*p+(x*v+y*u)*q*d=x*(u*p+v*q*d)+y*(u*q+v*p)*d:=by grind
theorem QI:(x*u+y*v*d)*q+(x*v+y*u)*p=x*(u*q+v*p)+y*(u*p+v*q*d):=by grind
theorem Vb:x*(u+p)+y*(v+q)*d=(x*u+y*v*d)+(x*p+y*q*d):=by grind
theorem Lm:x*(v+q)+y*(u+p)=(x*v+y*u)+(x*q+y*p):=by grind
end
theorem nU(r:(k:Nat)->T k):∀n,Laws r n
 |0=>⟨fun x y z=>Rat.mul_assoc x y z,fun x y z=>Rat.mul_add x y z,fun x=>Rat.one_mul x⟩
 |n+1=>by
  have I:=(nU r n).ring;have h1:=(nU r n).one;refine⟨?_,?_,?_⟩
  ·rintro⟨x,y⟩ ⟨u,v⟩ ⟨p,q⟩;exact Prod.ext (@Ls (E r n) (nU r n).ring x y u v p q (r n)) (@QI (E r n) (nU r n).ring x y u v p q (r n))
  ·rintro⟨x,y⟩ ⟨u,v⟩ ⟨p,q⟩;exact Prod.ext (@Vb (E r n) (nU r n).ring x y u v p q (r n)) (@Lm (E r n) (nU r n).ring x y u v p q)
  ·rintro⟨u,v⟩;refine Prod.ext ?_ ?_
   ·show T.add n (T.mul r n (T.ofQ n 1) u) (T.mul r n (T.mul r n (T.zero n) v) (r n))=u;rw[h1,T.zero_mul,T.zero_mul,T.add_zero]
   ·show T.add n (T.mul r n (T.ofQ n 1) v) (T.mul r n (T.zero n) u)=v;rw[h1,T.zero_mul,T.add_zero]
instance eRing(r:(k:Nat)->T k)(n:Nat):CommRing (E r n):=(nU r n).ring
structure Sg(R:Type)[CommRing R](s:R->Int):Prop where
  cs:∀x,s x=-1\/s x=0\/s x=1
  one:s 1=1
  neg:∀x,s (-x)=-s x
  mul:∀x y,s (x*y)=s x*s y
  add:∀x y,0<=s x->0<=s y->0<=s (x+y)
namespace Sg
variable{R:Type}[CommRing R]{s:R->Int}
theorem zero(h:Sg R s):s 0=0:=by
 have h1:=h.neg 0;rw[show -(0:R)=0 by grind]at h1;omega
theorem zadd(h:Sg R s){x y:R}(hx:s x=0):s (x+y)=s y:=by
 have h1:=h.cs y;have h2:=h.cs (x+y);have n1:=h.neg x;have n2:=h.neg y;have n3:=h.neg (x+y);have a1:=h.add x y;have a2:=h.add (-x) (-y);have a3:=h.add (-x) (x+y);have a4:=h.add x (-(x+y));rw[show -x+-y=-(x+y) by grind]at a2;rw[show -x+(x+y)=y by grind]at a3;rw[show x+-(x+y)=-y by grind]at a4;omega
theorem padd(h:Sg R s){x y:R}(hx:s x=1)(hy:0<=s y):s (x+y)=1:=by
 have h2:=h.cs (x+y);have a1:=h.add x y;have n2:=h.neg y;have n3:=h.neg (x+y);have a4:=h.add (-(x+y)) y;have e:-(x+y)+y=-x:=by grind
 have n1:=h.neg x;rw[e]at a4;rcases h2 with h2 |h2 |h2
 ·omega
 ·have:=h.zadd (x:=-(x+y)) (y:=y) oz;rw[e]at this;omega
 ·exact h2
theorem sq(h:Sg R s)(x:R):0<=s (x*x):=by
 rw[h.mul];rcases h.cs x with e |e |e <;> rw[e] <;> decide
theorem sub0(h:Sg R s){x y:R}(hx:s (x-y)=0):s x=s y:=by
 have:=h.zadd (y:=y) hx
 rwa [show x-y+y=x by grind]at this
theorem sqle(h:Sg R s){a b:R}(ha:0<=s a)(hb:0<=s (a*a-b*b)):0<=s (a+b):=by
 have c1:=h.cs (a+b);rcases c1 with c1 |c1 |c1
 ·exfalso;have n1:=h.neg (a+b);have p1:s (-(a+b)+a)=1:=h.padd oz ha;rw[show -(a+b)+a=-b by grind]at p1;have p2:s (-b+a)=1:=h.padd p1 ha;have m:=h.mul (-b+a) (a+b);rw[show(-b+a)*(a+b)=a*a-b*b by grind,p2,c1]at m;omega
 ·omega
 ·omega
theorem cancel(h:Sg R s){p x:R}(hp:s p=1)(hx:0<=s (p*x)):0<=s x:=by
 rw[h.mul,hp]at hx;omega
end Sg
def bU{r:(k:Nat)->T k}{n:Nat}(x y:E r n):E r (n+1):=((x,y):T n×T n)
def sg(r:(k:Nat)->T k)(n:Nat)(x:E r n):Int:=T.sgn r n x
def bS(r:(k:Nat)->T k)(n:Nat):E r n:=r n
variable{r:(k:Nat)->T k}{n:Nat}
theorem ku(z:E r (n+1)):∃x y:E r n,z=bU x y:=⟨z.1,z.2,rfl⟩
theorem oX(x y u v:E r n):bU x y+bU u v=bU (x+u) (y+v):=rfl
theorem tH(x y:E r n):-bU x y=bU (-x) (-y):=rfl
theorem kP(x y u v:E r n):bU x y*bU u v=bU (x*u+y*v*bS r n) (x*v+y*u):=rfl
theorem E.zero_def:(0:E r n)=T.zero n:=T.ofQ_zero n
theorem xX:(1:E r (n+1))=bU 1 0:=by
 show T.ofQ (n+1) ((1:Nat):Rat)=(T.ofQ n ((1:Nat):Rat),T.ofQ n ((0:Nat):Rat));rw[show(((0:Nat):Rat))=0 from rfl,T.ofQ_zero];rfl
def a5(x y:E r n):E r n:=x*x+-(y*y*bS r n)
theorem kW(x y:E r n):sg r (n+1) (bU x y)=T.sgn3 (sg r n x) (sg r n y) (sg r n (bS r n)) (sg r n (a5 x y)):=rfl
def PE(x y:E r n):Prop:=(0<=sg r n x/\0<=sg r n (a5 x y))\/(0<=sg r n y/\0 <= -sg r n (a5 x y))
theorem q5(h:Sg (E r n) (sg r n))(hd:sg r n (bS r n)=1)(x y:E r n):0<=sg r (n+1) (bU x y)↔PE x y:=by
 rw[kW,hd];unfold PE
 have f1:sg r n y=0->sg r n (a5 x y)=sg r n x*sg r n x:=by
  intro hy;have h1:sg r n (-(y*y*bS r n))=0:=by rw[h.neg,h.mul,h.mul,hy];simp
  have:=h.zadd (y:=x*x) h1;unfold a5;rw[show x*x+-(y*y*bS r n)=-(y*y*bS r n)+x*x by grind,this,h.mul]
 have f2:sg r n x=0->sg r n (a5 x y)=-(sg r n y*sg r n y):=by
  intro hx;have h1:sg r n (x*x)=0:=by rw[h.mul,hx];simp
  have:=h.zadd (y:=-(y*y*bS r n)) h1;unfold a5;rw[this,h.neg,h.mul,h.mul,hd];simp
 have c1:=h.cs x;have c2:=h.cs y;have c3:=h.cs (a5 x y)
 revert f1 f2 c1 c2 c3
 generalize sg r n x=a;generalize sg r n y=b;generalize sg r n (a5 x y)=c;intro f1 f2 c1 c2 c3;rcases c1 with rfl |rfl |rfl <;> rcases c2 with rfl |rfl |rfl <;> rcases c3 with rfl |rfl |rfl <;> first |decide |(exfalso;revert f1 f2;decide)
theorem Tr(h:Sg (E r n) (sg r n))(hd:sg r n (bS r n)=1){x y u v:E r n}(h1:PE x y)(h2:PE u v):PE (x*u+y*v*bS r n) (x*v+y*u):=by
 have nm:a5 (x*u+y*v*bS r n) (x*v+y*u)=a5 x y*a5 u v:=by unfold a5;grind
 have hn:=h.mul (a5 x y) (a5 u v);have d0:0<=sg r n (bS r n):=by omega
 unfold PE;rw[nm,hn];rcases h1 with⟨a1,a2⟩ |⟨a1,a2⟩ <;> rcases h2 with⟨b1,b2⟩ |⟨b1,b2⟩
 ·refine .inl ⟨h.sqle ?_ ?_,ZF a2 b2⟩
  ·rw[h.mul];exact ZF a1 b1
  ·have e : x * u * (x * u) - y * v * bS r n * (y * v * bS r n) = a5 x y * (u * u) + y * y * bS r n * a5 u v := by unfold a5; grind
   rw[e];refine h.add _ _ ?_ ?_
   ·rw[h.mul];exact ZF a2 (h.sq u)
   ·rw[h.mul,h.mul];exact ZF (ZF (h.sq y) d0) b2
 ·refine .inr ⟨h.sqle ?_ ?_,?_⟩
  ·rw[h.mul];exact ZF a1 b1
  ·have e : x * v * (x * v) - y * u * (y * u) = a5 x y * (v * v) + y * y * -a5 u v := by unfold a5; grind
   rw[e];refine h.add _ _ ?_ ?_
   ·rw[h.mul];exact ZF a2 (h.sq v)
   ·rw[h.mul,h.neg];exact ZF (h.sq y) b2
  ·rw[<- Int.mul_neg];exact ZF a2 b2
 ·refine .inr ⟨?_,?_⟩
  ·rw [show x * v + y * u = y * u + x * v by grind];refine h.sqle ?_ ?_
   ·rw[h.mul];exact ZF a1 b1
   ·have e : y * u * (y * u) - x * v * (x * v) = a5 u v * (y * y) + v * v * -a5 x y := by unfold a5; grind
    rw[e];refine h.add _ _ ?_ ?_
    ·rw[h.mul];exact ZF b2 (h.sq y)
    ·rw[h.mul,h.neg];exact ZF (h.sq v) a2
  ·rw[<- Int.neg_mul];exact ZF a2 b2
 ·refine .inl ⟨?_,?_⟩
  ·rw [show x * u + y * v * bS r n = y * v * bS r n + x * u by grind];refine h.sqle ?_ ?_
   ·rw[h.mul,h.mul];exact ZF (ZF a1 b1) d0
   ·have e : y * v * bS r n * (y * v * bS r n) - x * u * (x * u) = -a5 x y * (v * v * bS r n) + x * x * -a5 u v := by unfold a5; grind
    rw[e];refine h.add _ _ ?_ ?_
    ·rw[h.mul,h.neg,h.mul];exact ZF a2 (ZF (h.sq v) d0)
    ·rw[h.mul,h.neg];exact ZF (h.sq x) b2
  ·rw[<- Int.neg_mul_neg];exact ZF a2 b2
theorem Iw(h:Sg (E r n) (sg r n))(hd:sg r n (bS r n)=1){x y u v:E r n}(a1:0<=sg r n x)(a2:0<=sg r n (a5 x y))(b1:0<=sg r n v)(b2:0 <= -sg r n (a5 u v)):PE (x+u) (y+v):=by
  have cX:=h.cs (x+u);have cY:=h.cs (y+v);have cN:=h.cs (a5 (x+u) (y+v));unfold PE
  by_cases hX:0<=sg r n (x+u)
  · by_cases hN:0<=sg r n (a5 (x+u) (y+v))
    · exact .inl ⟨hX,hN⟩
    · by_cases hY:0<=sg r n (y+v)
      · exact .inr ⟨hY,by omega⟩
      · -- Y < 0: then N is at least 0
        exfalso;have hY':sg r n (-(y+v))=1:=by rw[h.neg];omega
        have ny:sg r n (-y)=1:=by
          have:=h.padd hY' b1
          rwa [show -(y+v)+v=-y by grind]at this
        have k1:0<=sg r n (x*v+y*u):=by
          refine h.sqle (by rw[h.mul];exact ZF a1 b1) ?_;have e:x*v*(x*v)-y*u*(y*u)=a5 x y*(v*v)+y*y*-a5 u v:=by unfold a5;grind
          rw[e];refine h.add _ _ ?_ ?_
          · rw[h.mul];exact ZF a2 (h.sq v)
          · rw[h.mul,h.neg];exact ZF (h.sq y) b2
        have k2:0<=sg r n (x*v+-(y*u)):=by
          refine h.sqle (by rw[h.mul];exact ZF a1 b1) ?_;have e:x*v*(x*v) - -(y*u)*-(y*u)=a5 x y*(v*v)+y*y*-a5 u v:=by unfold a5;grind
          rw[e];refine h.add _ _ ?_ ?_
          · rw[h.mul];exact ZF a2 (h.sq v)
          · rw[h.mul,h.neg];exact ZF (h.sq y) b2
        have k3:0<=sg r n (-y*(x+u)-x*-(y+v)):=by
          rw[show -y*(x+u)-x*-(y+v)=x*v+-(y*u) by grind];exact k2
        have k4:0<=sg r n (-y*(x+u)+x*-(y+v)):=by
          rw[show -y*(x+u)+x*-(y+v)=(-y*(x+u)-x*-(y+v))+(x*-(y+v)+x*-(y+v)) by grind];refine h.add _ _ k3 (h.add _ _ ?_ ?_) <;> (rw[h.mul,hY'];omega)
        have k5:0<=sg r n ((y*y)*a5 (x+u) (y+v)):=by
          have e:(y*y)*a5 (x+u) (y+v)=(-y*(x+u)-x*-(y+v))*(-y*(x+u)+x*-(y+v))+a5 x y*(-(y+v)*-(y+v)):=by unfold a5;grind
          rw[e];refine h.add _ _ (by rw[h.mul];exact ZF k3 k4) (by rw[h.mul];exact ZF a2 (h.sq _))
        have k6 := h.cancel (by rw [h.mul]; rw [h.neg] at ny; have : sg r n y = -1 := by omega
                                rw[this];rfl) k5
        exact hN k6
  · have hX' : sg r n (-(x + u)) = 1 := by rw [h.neg]; omega
    have nu:sg r n (-u)=1:=by
      have:=h.padd hX' a1
      rwa [show -(x+u)+x=-u by grind]at this
    have su:sg r n u=-1:=by rw[h.neg]at nu;omega
    have hv:sg r n v=1:=by
      rcases h.cs v with e |e |e
      · omega
      · exfalso
        have h1:sg r n (-(v*v*bS r n))=0:=by rw[h.neg,h.mul,h.mul,e];simp
        have:=h.zadd (y:=u*u) h1;rw[show -(v*v*bS r n)+u*u=a5 u v by unfold a5;grind,h.mul,su]at this;omega
      · exact e
    have k1:0<=sg r n (x*v+y*-u):=by
      refine h.sqle (by rw[h.mul];exact ZF a1 b1) ?_;have e:x*v*(x*v)-y*-u*(y*-u)=a5 x y*(v*v)+y*y*-a5 u v:=by unfold a5;grind
      rw[e];refine h.add _ _ ?_ ?_
      · rw[h.mul];exact ZF a2 (h.sq v)
      · rw[h.mul,h.neg];exact ZF (h.sq y) b2
    have k3:0<=sg r n (-u*(y+v)-v*-(x+u)):=by
      rw[show -u*(y+v)-v*-(x+u)=x*v+y*-u by grind];exact k1
    have k4:0<=sg r n (v*-(x+u)):=by rw[h.mul,hv,hX'];decide
    have kY:0<=sg r n (y+v):=by
      refine h.cancel nu ?_;rw[show -u*(y+v)=(-u*(y+v)-v*-(x+u))+v*-(x+u) by grind];exact h.add _ _ k3 k4
    refine .inr ⟨kY,?_⟩
    have k5:0<=sg r n ((v*v)*-a5 (x+u) (y+v)):=by
      have e:(v*v)*-a5 (x+u) (y+v)=(-u*(y+v)-v*-(x+u))*(-u*(y+v)+v*-(x+u))+-a5 u v*((y+v)*(y+v)):=by unfold a5;grind
      rw[e];have k6:0<=sg r n (-u*(y+v)+v*-(x+u)):=h.add _ _ (by rw[h.mul,nu];omega) k4;refine h.add _ _ (by rw[h.mul];exact ZF k3 k6) (by rw[h.mul,h.neg];exact ZF b2 (h.sq _))
    have k7:=h.cancel (by rw[h.mul,hv];rfl) k5
    rwa [h.neg]at k7
theorem Ul(h:Sg (E r n) (sg r n))(hd:sg r n (bS r n)=1){x y u v:E r n}(h1:PE x y)(h2:PE u v):PE (x+u) (y+v):=by
 have d0:0<=sg r n (bS r n):=by omega
 rcases h1 with⟨a1,a2⟩ |⟨a1,a2⟩ <;> rcases h2 with⟨b1,b2⟩ |⟨b1,b2⟩
 ·refine .inl ⟨h.add _ _ a1 b1,?_⟩
  have k:0<=sg r n (x*u+-(y*v*bS r n)):=by
   refine h.sqle (by rw[h.mul];exact ZF a1 b1) ?_;have e:x*u*(x*u) - -(y*v*bS r n)*-(y*v*bS r n)=a5 x y*(u*u)+y*y*bS r n*a5 u v:=by unfold a5;grind
   rw[e];refine h.add _ _ ?_ ?_
   ·rw[h.mul];exact ZF a2 (h.sq u)
   ·rw[h.mul,h.mul];exact ZF (ZF (h.sq y) d0) b2
  rw[show a5 (x+u) (y+v)=(a5 x y+a5 u v)+((x*u+-(y*v*bS r n))+(x*u+-(y*v*bS r n))) by unfold a5;grind];exact h.add _ _ (h.add _ _ a2 b2) (h.add _ _ k k)
 ·exact Iw h hd a1 a2 b1 b2
 ·rw[show x+u=u+x by grind,show y+v=v+y by grind];exact Iw h hd b1 b2 a1 a2
 ·refine .inr ⟨h.add _ _ a1 b1,?_⟩
  have k:0<=sg r n (y*v*bS r n+-(x*u)):=by
   refine h.sqle (by rw[h.mul,h.mul];exact ZF (ZF a1 b1) d0) ?_;have e:y*v*bS r n*(y*v*bS r n) - -(x*u)*-(x*u)=-a5 x y*(v*v*bS r n)+x*x*-a5 u v:=by unfold a5;grind
   rw[e];refine h.add _ _ ?_ ?_
   ·rw[h.mul,h.neg,h.mul];exact ZF a2 (ZF (h.sq v) d0)
   ·rw[h.mul,h.neg];exact ZF (h.sq x) b2
  have k2:0<=sg r n (-a5 (x+u) (y+v)):=by
   rw[show -a5 (x+u) (y+v)=(-a5 x y+-a5 u v)+((y*v*bS r n+-(x*u))+(y*v*bS r n+-(x*u))) by unfold a5;grind];exact h.add _ _ (h.add _ _ (by rw[h.neg];exact a2) (by rw[h.neg];exact b2)) (h.add _ _ k k)
  rwa [h.neg]at k2
theorem MF(a b c d:Int):T.sgn3 (-a) (-b) c d=-T.sgn3 a b c d:=by
 unfold T.sgn3;have e:(-a=-b \/ -b=0)↔(a=b\/b=0):=by omega
 simp only[e];split
 ·rfl
 ·split
  ·rfl
  ·by_cases h:a=0
   ·rw[ab6 oz,ab6 h]
   ·rw[ab5 oz,ab5 h,Int.neg_mul]
theorem VC(h:Sg (E r n) (sg r n))(hd:0<=sg r n (bS r n)):Sg (E r (n+1)) (sg r (n+1)):=by
 have hcs:∀z:E r (n+1),sg r (n+1) z=-1\/sg r (n+1) z=0\/sg r (n+1) z=1:=fun z=>T.sgn_cases r (n+1) z
 have hone:sg r (n+1) 1=1:=by
  rw[xX,kW,h.one,h.zero];unfold T.sgn3;split
  ·rfl
  ·simp
 have hneg:∀z:E r (n+1),sg r (n+1) (-z)=-sg r (n+1) z:=by
  intro z;obtain⟨x,y,rfl⟩:=ku z;rw[tH,kW,kW,h.neg,h.neg,show a5 (-x) (-y)=a5 x y by unfold a5;grind,MF]
 by_cases hd0:sg r n (bS r n)=0
 ·have e0:∀x y:E r n,sg r (n+1) (bU x y)=sg r n x:=by
   intro x y;rw[kW,hd0];unfold T.sgn3;rw[ab6 rfl]
  refine⟨hcs,hone,hneg,?_,?_⟩
  ·intro z w;obtain ⟨x,y,rfl⟩:=ku z;obtain ⟨u,v,rfl⟩:=ku w;rw [kP,e0,e0,e0];have h1:sg r n (y * v * bS r n) = 0:=by rw [h.mul,hd0]; simp
   have:=h.zadd (y:=x*u) h1;rw[show x*u+y*v*bS r n=y*v*bS r n+x*u by grind,this,h.mul]
  ·intro z w;obtain⟨x,y,rfl⟩:=ku z;obtain⟨u,v,rfl⟩:=ku w;rw[oX,e0,e0,e0];exact h.add x u
 ·have hd1 : sg r n (bS r n) = 1 := by rcases h.cs (bS r n) with e | e | e <;> omega
  have hadd:∀z w:E r (n+1),0<=sg r (n+1) z->0<=sg r (n+1) w->0<=sg r (n+1) (z+w):=by
   intro z w;obtain⟨x,y,rfl⟩:=ku z;obtain⟨u,v,rfl⟩:=ku w;rw[oX,q5 h hd1,q5 h hd1,q5 h hd1];exact Ul h hd1
  have hpm:∀z w:E r (n+1),0<=sg r (n+1) z->0<=sg r (n+1) w->0<=sg r (n+1) (z*w):=by
   intro z w;obtain⟨x,y,rfl⟩:=ku z;obtain⟨u,v,rfl⟩:=ku w;rw[kP,q5 h hd1,q5 h hd1,q5 h hd1];exact Tr h hd1
  have hzm:∀z w:E r (n+1),sg r (n+1) z=0->sg r (n+1) (w*z)=0:=by
   intro z w hz;have n1:=hneg z;have n2:=hneg w;have n3:=hneg (w*z);have m1:=hpm w z;have m2:=hpm w (-z);have m3:=hpm (-w) z;have m4:=hpm (-w) (-z);rw[show w*-z=-(w*z) by grind]at m2;rw[show -w*z=-(w*z) by grind]at m3;rw[show -w*-z=w*z by grind]at m4;rcases hcs w with e |e |e <;> omega
  have hsc:∀(a u v:E r n),sg r (n+1) (bU (a*u) (a*v))=sg r n a*sg r (n+1) (bU u v):=by
   intro a u v;rw[kW,kW,show a5 (a*u) (a*v)=a*a*a5 u v by unfold a5;grind,h.mul,h.mul,h.mul,h.mul,hd1]
   have f1:sg r n v=0->sg r n (a5 u v)=sg r n u*sg r n u:=by
    intro hy;have h1:sg r n (-(v*v*bS r n))=0:=by rw[h.neg,h.mul,h.mul,hy];simp
    have:=h.zadd (y:=u*u) h1;unfold a5;rw[show u*u+-(v*v*bS r n)=-(v*v*bS r n)+u*u by grind,this,h.mul]
   have c1:=h.cs u;have c2:=h.cs v;have c3:=h.cs (a5 u v);have c4:=h.cs a
   revert c1 c2 c3 c4
   generalize sg r n u=a1;generalize sg r n v=b1;generalize sg r n (a5 u v)=c1;generalize sg r n a=e1;intro c1 c2 c3 c4;rcases c1 with rfl |rfl |rfl <;> rcases c2 with rfl |rfl |rfl <;> rcases c3 with rfl |rfl |rfl <;> rcases c4 with rfl |rfl |rfl <;> decide
  have hpadd:∀z w:E r (n+1),sg r (n+1) z=1->0<=sg r (n+1) w->sg r (n+1) (z+w)=1:=by
   intro z w hz hw;have a1:=hadd z w oz hw;rcases hcs (z+w)with e |e |e
   ·omega
   ·exfalso;have n1:=hneg z;have n2:=hneg (z+w);have a2:=hadd (-(z+w)) w oz hw;rw[show -(z+w)+w=-z by grind]at a2;omega
   ·exact e
  have hpp:∀z w:E r (n+1),sg r (n+1) z=1->sg r (n+1) w=1->sg r (n+1) (z*w)=1:=by
   intro z w hz hw;obtain⟨x,y,rfl⟩:=ku z;obtain⟨u,v,rfl⟩:=ku w;have p0:=hpm _ _ (by omega:0<=sg r (n+1) (bU x y)) (by omega:0<=sg r (n+1) (bU u v));rcases hcs (bU x y*bU u v)with e |e |e
   ·omega
   ·exfalso
    by_cases hN:sg r n (a5 x y)=0
    ·have hxy:sg r n x=1/\sg r n y=1:=by
      rw[kW,hd1,hN]at hz
      have f1:sg r n y=0->sg r n (a5 x y)=sg r n x*sg r n x:=by
       intro hy;have h1:sg r n (-(y*y*bS r n))=0:=by rw[h.neg,h.mul,h.mul,hy];simp
       have:=h.zadd (y:=x*x) h1;unfold a5;rw[show x*x+-(y*y*bS r n)=-(y*y*bS r n)+x*x by grind,this,h.mul]
      have f2:sg r n x=0->sg r n (a5 x y)=-(sg r n y*sg r n y):=by
       intro hx;have h1:sg r n (x*x)=0:=by rw[h.mul,hx];simp
       have:=h.zadd (y:=-(y*y*bS r n)) h1;unfold a5;rw[this,h.neg,h.mul,h.mul,hd1];simp
      rw[hN]at f1 f2;have c1:=h.cs x;have c2:=h.cs y
      revert hz f1 f2 c1 c2
      generalize sg r n x=a;generalize sg r n y=b;intro hz f1 f2 c1 c2;rcases c1 with rfl |rfl |rfl <;> rcases c2 with rfl |rfl |rfl <;> revert hz f1 f2 <;> decide
     have k1:sg r (n+1) (bU (x*u) (x*v))=1:=by rw[hsc,hxy.1,hw];rfl
     have k2:0<=sg r (n+1) (bU 0 y):=by
      rw[kW,h.zero,hxy.2,hd1];unfold T.sgn3;simp
     have k3:=hpm _ _ k2 (by omega:0<=sg r (n+1) (bU u v));have k4:=hpadd _ _ k1 k3;rw[kP,oX]at k4;rw[kP]at e;rw[show x*u+(0*u+y*v*bS r n)=x*u+y*v*bS r n by grind,show x*v+(0*v+y*u)=x*v+y*u by grind]at k4;omega
    ·have k1:=hzm _ (bU x (-y)) e;rw[show bU x (-y)*(bU x y*bU u v)=bU (a5 x y*u) (a5 x y*v) by rw[kP,kP];unfold a5;congr 1 <;> grind,hsc,hw]at k1;omega
   ·exact e
  refine⟨hcs,hone,hneg,?_,hadd⟩;intro z w;rcases hcs w with e |e |e
  ·rcases hcs z with e' |e' |e'
   ·have := hpp (-z) (-w) (by rw[hneg];omega) (by rw[hneg];omega);rw[show -z*-w=z*w by grind]at this;rw[this,e,e'];rfl
   ·have:=hzm z w e';rw[show w*z=z*w by grind]at this;rw[this,e'];simp
   ·have := hpp z (-w) e' (by rw[hneg];omega);rw[show z*-w=-(z*w) by grind,hneg]at this;rw[e,e'];omega
  ·rw[hzm w z e,e];simp
  ·rcases hcs z with e' |e' |e'
   ·have := hpp (-z) w (by rw[hneg];omega) e;rw[show -z*w=-(z*w) by grind,hneg]at this;rw[e,e'];omega
   ·have:=hzm z w e';rw[show w*z=z*w by grind]at this;rw[this,e'];simp
   ·rw[hpp z w e' e,e,e'];rfl
theorem ol(q:Rat):bV q=-1/\q<0\/bV q=0/\q=0\/bV q=1/\0<q:=by
 unfold bV;split
 ·exact .inl ⟨rfl,by assumption⟩
 ·split
  ·exact .inr (.inr ⟨rfl,by assumption⟩)
  ·exact .inr (.inl ⟨rfl,by grind⟩)
theorem wV{q:Rat}(h:0<q):bV q=1:=by
 rcases ol q with⟨_,h'⟩ |⟨_,h'⟩ |⟨e,_⟩
 ·grind
 ·grind
 ·exact e
theorem Am{q:Rat}(h:q<0):bV q=-1:=by
 rcases ol q with⟨e,_⟩ |⟨_,h'⟩ |⟨_,h'⟩
 ·exact e
 ·grind
 ·grind
theorem Tp(q:Rat):bV (-q)=-bV q:=by
 rcases ol q with⟨e,h⟩ |⟨e,h⟩ |⟨e,h⟩
 ·rw[e,wV (by grind)];rfl
 ·rw[h];rfl
 ·rw[e,Am (by grind)]
theorem U7(p q:Rat):bV (p*q)=bV p*bV q:=by
 have h0:bV 0=0:=rfl;rcases ol p with⟨e,h⟩ |⟨e,h⟩ |⟨e,h⟩ <;> rcases ol q with⟨e',h'⟩ |⟨e',h'⟩ |⟨e',h'⟩
 ·have := ZQ (a := -p) (b := -q) (by grind) (by grind);rw[e,e',wV (by grind)];rfl
 ·rw[h',Rat.mul_zero,h0];simp
 ·have := ZQ (a := -p) (b := q) (by grind) h';rw[e,e',Am (by grind)];rfl
 ·rw[h,Rat.zero_mul,h0];simp
 ·rw[h,Rat.zero_mul,h0];simp
 ·rw[h,Rat.zero_mul,h0];simp
 ·have := ZQ (a := p) (b := -q) h (by grind);rw[e,e',Am (by grind)];rfl
 ·rw[h',Rat.mul_zero,h0];simp
 ·rw[e,e',wV (ZQ h h')];rfl
theorem XV(p q:Rat)(h1:0<=bV p)(h2:0<=bV q):0<=bV (p+q):=by
 rcases ol (p+q)with⟨e,h⟩ |⟨e,h⟩ |⟨e,h⟩
 ·exfalso;rcases ol p with⟨e1,g1⟩ |⟨e1,g1⟩ |⟨e1,g1⟩ <;> rcases ol q with⟨e2,g2⟩ |⟨e2,g2⟩ |⟨e2,g2⟩ <;> first |omega |grind
 ·omega
 ·omega
theorem RZ(r:(k:Nat)->T k):Sg (E r 0) (sg r 0) :=
 ⟨fun q=>T.sgnQ_cases q,rfl,fun q=>Tp q,fun p q=>U7 p q,fun p q=>XV p q⟩
def fw(r:(k:Nat)->T k)(n:Nat):Prop:=∀j,j<n->0<=T.sgn r j (r j)
theorem eF(r:(k:Nat)->T k):∀n,fw r n->Sg (E r n) (sg r n)
 |0,_=>RZ r
 |n+1,h=>VC (eF r n (fun j hj=>h j oz)) (h n oz)
end Go.Lw
namespace Go.Lw
def xA{r:(k:Nat)->T k}{n:Nat}(x:E r n):AV:=nA (sh n x)
abbrev Pn(r:(k:Nat)->T k)(n:Nat):Type:=E r n×E r n
def mo(r:(k:Nat)->T k)(n:Nat):LL:=(List.range n).map fun k=>enc k (r k)
def qE{r:(k:Nat)->T k}{n:Nat}(q:Rat):E r n:=T.ofQ n q
theorem BB:∀(n:Nat)(q:Rat),sh n (T.ofQ n q)=sh 0 (q:Rat)
 |0,q=>rfl
 |n+1,q=>by
  show(if T.isZ n (T.zero n)=true then sh n (T.ofQ n q)else _)=_;rw[ab6 ((T.isZ_iff n _).2 rfl),BB n q]
theorem EY:∀n:Nat,sh n (T.zero n)=[]
 |0=>rfl
 |n+1=>by
  show(if T.isZ n (T.zero n)=true then sh n (T.zero n)else _)=_;rw[ab6 ((T.isZ_iff n _).2 rfl),EY n]
theorem sw(r:(k:Nat)->T k)(n:Nat):(mo r n).length=n:=by simp[mo]
theorem Fo{r:(k:Nat)->T k}{n j:Nat}(h:j<n):(mo r n).getD j []=enc j (r j):=by
 unfold mo;rw[aaq,aav,List.getElem?_range h];rfl
theorem MS{r:(k:Nat)->T k}{n j:Nat}(h:j<n):au (mo r n) j=r j:=by
 unfold au;rw[Fo h,we]
theorem Hs{ts:LL}{R:Nat}(tw:Tw ts R):ts=mo (au ts) ts.length:=by
 apply List.ext_getElem?;intro j
 by_cases hj:j<ts.length
 ·have h1:=Fo (r:=au ts) hj;have h2:=tw.len j hj;rw[aaq]at h1;rw[aat (show j<(mo (au ts) ts.length).length by rw[sw];exact hj)]at h1 ⊢;rw[aan]at h1;rw[h1,aat hj];unfold au;rw[qJ _ _ h2,aaq,aat hj];rfl
 ·rw[aa5 oz,aa5 (by rw[sw];omega)]
class Cx(r:(k:Nat)->T k)(n:Nat)(u k:outParam Nat):Prop where
  ex:∃R,Tw (mo r n) R/\eB R n<=k
  k1:1<=k
  u3:3<=u
class Zu(u k:Nat){r:(k:Nat)->T k}{n:Nat}(x:E r n)(w v:outParam Nat):Prop where
  nm:Nm n (w*u+v*k) (sh n x)
class Zp(u k:Nat){r:(k:Nat)->T k}{n:Nat}(p:Pn r n)(w v:outParam Nat):Prop where
  x:Nm n (w*u+v*k) (sh n p.1)
  y:Nm n (w*u+v*k) (sh n p.2)
class Qz(u:Nat)(q:Rat)(w:outParam Nat):Prop where
  cb:Cb (w*u) [q]
section
variable{r:(k:Nat)->T k}{n u k:Nat}
theorem Cx.five(c:Cx r n u k):n<=5:=by obtain⟨R,tw,_⟩:=c.ex;have:=tw.five;rwa [sw]at this
theorem Cx.three(c:Cx r n u k):n<=3:=by obtain⟨R,tw,_⟩:=c.ex;have:=tw.three;rwa [sw]at this
theorem x8(w v w' v' u k:Nat):(w*u+v*k)+(w'*u+v'*k)=(w+w')*u+(v+v')*k:=by
 rw[YH,YH];omega
theorem Nm.eq{n e f:Nat}{l:List Rat}(h:Nm n e l)(hf:e=f):Nm n f l:=hf▸h
theorem Nm.addT{e f:Nat}{x y:T n}(hx:Nm n e (sh n x))(hy:Nm n f (sh n y)):Nm n (e+f+1) (sh n (T.add n x y)):=by
 have h:=hx.add hy
 rwa [bh,bh]at h
theorem Nm.subT{e f:Nat}{x y:T n}(hx:Nm n e (sh n x))(hy:Nm n f (sh n y)):Nm n (e+f+1) (sh n (T.add n x (T.neg n y))):=by
 have h:=hx.sub hy
 rwa [bh,bh]at h
theorem Nm.negT{e:Nat}{x:T n}(hx:Nm n e (sh n x)):Nm n e (sh n (T.neg n x)):=by
 have h:=hx.neg
 rwa [bh]at h
theorem Nm.mulT{R e f:Nat}(tw:Tw (mo r n) R){x y:T n}(hx:Nm n e (sh n x))(hy:Nm n f (sh n y)):Nm n (e+f+eB R n) (sh n (T.mul r n x y)):=by
 have h:=Nm.mul tw (sw r n).symm hx hy
 rwa [bh,bh,T.mul_congr n (fun j hj=>MS hj)]at h
instance Zu.add[c:Cx r n u k]{x y:E r n}{w v w' v':Nat}[hx:Zu u k x w v][hy:Zu u k y w' v']:Zu u k (x+y) (w+w') (v+v'+1) :=
  ⟨(Nm.addT hx.nm hy.nm).mono (by rw[x8,YH _ 1];have:=c.k1;omega)⟩
instance Zu.sub[c:Cx r n u k]{x y:E r n}{w v w' v':Nat}[hx:Zu u k x w v][hy:Zu u k y w' v']:Zu u k (x-y) (w+w') (v+v'+1) :=
  ⟨(Nm.subT hx.nm hy.nm).mono (by rw[x8,YH _ 1];have:=c.k1;omega)⟩
instance Zu.neg{x:E r n}{w v:Nat}[hx:Zu u k x w v]:Zu u k (-x) w v:=⟨Nm.negT hx.nm⟩
instance Zu.mul[c:Cx r n u k]{x y:E r n}{w v w' v':Nat}[hx:Zu u k x w v][hy:Zu u k y w' v']:Zu u k (x*y) (w+w') (v+v'+1):=by
  obtain⟨R,tw,hk⟩:=c.ex;exact⟨(Nm.mulT tw hx.nm hy.nm).mono (by rw[x8,YH _ 1];omega)⟩
instance Zu.qE[c:Cx r n u k]{q:Rat}{w:Nat}[h:Qz u q w]:Zu u k (qE q:E r n) w 0:=⟨by
  show Nm n _ (sh n (T.ofQ n q));rw[BB];exact(Nm.ofQ c.five h.cb).eq oz⟩
theorem Cb.int{e:Nat}{z:Int}(h:z.natAbs<=2^e):Cb e [(z:Rat)] :=
 ⟨1,z.natAbs,⟨by omega,fun q hq=>⟨z,by rw[Za.1 hq];exact Rat.mul_one _,aau _⟩⟩,Nat.one_le_two_pow,h⟩
theorem Qz.int[c:Cx r n u k]{z:Int}(h:z.natAbs<=8):Qz u (z:Rat) 1:=⟨Cb.int (abe h (show 2^3<=_ from cm (by have:=c.u3;omega)))⟩
instance Zu.c0[c:Cx r n u k]:Zu u k (0:E r n) 0 0:=⟨by
  show Nm n _ (sh n (T.ofQ n ((0:Nat):Rat)));rw[show(((0:Nat):Rat))=0 from rfl,T.ofQ_zero,EY];exact⟨c.five,.inl rfl,Cb.nil.mono (aa0 _)⟩⟩
instance Zu.c1[c:Cx r n u k]:Zu u k (1:E r n) 1 0:=by
  haveI:Qz u ((1:Nat):Rat) 1:=Qz.int (c:=c) (z:=1) (by decide);exact(ace:Zu u k (Go.Lw.qE ((1:Nat):Rat):E r n) 1 0)
instance Zu.c2[c:Cx r n u k]:Zu u k (2:E r n) 1 0:=by
  haveI:Qz u ((2:Nat):Rat) 1:=Qz.int (c:=c) (z:=2) (by decide);exact(ace:Zu u k (Go.Lw.qE ((2:Nat):Rat):E r n) 1 0)
instance Zu.c4[c:Cx r n u k]:Zu u k (4:E r n) 1 0:=by
  haveI:Qz u ((4:Nat):Rat) 1:=Qz.int (c:=c) (z:=4) (by decide);exact(ace:Zu u k (Go.Lw.qE ((4:Nat):Rat):E r n) 1 0)
instance Zu.px{p:Pn r n}{w v:Nat}[h:Zp u k p w v]:Zu u k p.1 w v:=⟨h.x⟩
instance Zu.py{p:Pn r n}{w v:Nat}[h:Zp u k p w v]:Zu u k p.2 w v:=⟨h.y⟩
theorem yI{w v w' v' u k:Nat}(h:w<=w')(h':v<=v'):w*u+v*k<=w'*u+v'*k:=Nat.add_le_add (abh _ h) (abh _ h')
instance Zp.mk'{x y:E r n}{w v w' v':Nat}[hx:Zu u k x w v][hy:Zu u k y w' v']:Zp u k ((x,y):Pn r n) (max w w') (max v v') :=
  ⟨hx.nm.mono (yI (Nat.le_max_left ..) (Nat.le_max_left ..)),hy.nm.mono (yI (Nat.le_max_right ..) (Nat.le_max_right ..))⟩
def Oe(p q:Pn r n):Pn r n:=(p.1+q.1,p.2+q.2)
def Sx(p q:Pn r n):Pn r n:=(p.1-q.1,p.2-q.2)
def UF(c:E r n)(p:Pn r n):Pn r n:=(c*p.1,c*p.2)
def PY(p q:Pn r n):E r n:=p.1*q.1+p.2*q.2
def Si(p q:Pn r n):E r n:=p.1*q.2-p.2*q.1
def UG(c s:E r n)(p:Pn r n):Pn r n:=(c*p.1-s*p.2,s*p.1+c*p.2)
def pQ(x y:Rat):Pn r n:=(qE x,qE y)
def Ty(p:Pn r n):Pn r n:=(-p.2,p.1)
instance Zp.add[c:Cx r n u k]{p q:Pn r n}{w v w' v':Nat}[hp:Zp u k p w v][hq:Zp u k q w' v']:Zp u k (Oe p q) (w+w') (v+v'+1) :=
  ⟨(ace:Zu u k (p.1+q.1) (w+w') (v+v'+1)).nm,(ace:Zu u k (p.2+q.2) (w+w') (v+v'+1)).nm⟩
instance Zp.sub[c:Cx r n u k]{p q:Pn r n}{w v w' v':Nat}[hp:Zp u k p w v][hq:Zp u k q w' v']:Zp u k (Sx p q) (w+w') (v+v'+1) :=
  ⟨(ace:Zu u k (p.1-q.1) (w+w') (v+v'+1)).nm,(ace:Zu u k (p.2-q.2) (w+w') (v+v'+1)).nm⟩
instance Zp.scale[c:Cx r n u k]{a:E r n}{q:Pn r n}{w v w' v':Nat}[hp:Zu u k a w v][hq:Zp u k q w' v']:Zp u k (UF a q) (w+w') (v+v'+1) :=
  ⟨(ace:Zu u k (a*q.1) (w+w') (v+v'+1)).nm,(ace:Zu u k (a*q.2) (w+w') (v+v'+1)).nm⟩
instance Zu.dot[c:Cx r n u k]{p q:Pn r n}{w v w' v':Nat}[hp:Zp u k p w v][hq:Zp u k q w' v']:Zu u k (PY p q) (w+w'+(w+w')) (v+v'+1+(v+v'+1)+1) :=
  (ace:Zu u k (p.1*q.1+p.2*q.2) _ _)
instance Zu.cross[c:Cx r n u k]{p q:Pn r n}{w v w' v':Nat}[hp:Zp u k p w v][hq:Zp u k q w' v']:Zu u k (Si p q) (w+w'+(w+w')) (v+v'+1+(v+v'+1)+1) :=
  (ace:Zu u k (p.1*q.2-p.2*q.1) _ _)
instance Zp.turn[c:Cx r n u k]{a b:E r n}{p:Pn r n}{w v w' v' w2 v2:Nat}[ha:Zu u k a w v][hb:Zu u k b w' v'][hp:Zp u k p w2 v2] :
    Zp u k (UG a b p) (w+w2+(w'+w2)) (v+v2+1+(v'+v2+1)+1) :=
  ⟨(ace:Zu u k (a*p.1-b*p.2) _ _).nm,by
    have h:=(ace:Zu u k (b*p.1+a*p.2) _ _).nm;exact h.eq (by rw[Yh (w'+w2),Yh (v'+v2+1)])⟩
instance Zp.ofQ[c:Cx r n u k]{x y:Rat}{w w':Nat}[hx:Qz u x w][hy:Qz u y w']:Zp u k (pQ x y:Pn r n) (max w w') (max 0 0) :=
  (ace:Zp u k ((qE x,qE y):Pn r n) _ _)
instance Zp.quart{p:Pn r n}{w v:Nat}[hp:Zp u k p w v]:Zp u k (Ty p) w v:=⟨(ace:Zu u k (-p.2) w v).nm,hp.x⟩
end
theorem rj(rs:List (List Rt)):(llq rs).length=rs.length:=by simp[llq]
abbrev Et(ts:LL):Type:=E (au ts) ts.length
def dE(ts:LL)(a:List Rat):Et ts:=ae ts.length a
def sX{ts:LL}(x:Et ts):List Rat:=sh ts.length x
def ao{ts:LL}(x:Et ts):Int:=T.sgn (au ts) ts.length x
class Ct(ts:LL)(u k:outParam Nat):Prop where
  ex:∃R,Tw ts R/\eB R ts.length<=k
  k1:1<=k
  u3:3<=u
  ub:u<=1000000
  kb:k<=1000000
instance Ct.cx{ts:LL}{u k:Nat}[c:Ct ts u k]:Cx (au ts) ts.length u k:=by
  obtain⟨R,tw,h⟩:=c.ex;exact⟨⟨R,Hs tw▸tw,h⟩,c.k1,c.u3⟩
class Zl(ts:LL)(u k:Nat)(a:List Rat)(x:outParam (Et ts))(w v:outParam Nat):Prop where
  eq:ae ts.length a=x
  nm:Nm ts.length (w*u+v*k) a
section
variable{ts:LL}{u k:Nat}
instance Zl.sX{x:Et ts}{w v:Nat}[h:Zu u k x w v]:Zl ts u k (sX x) x w v:=⟨bh _ _,h.nm⟩
instance Zl.q[c:Ct ts u k]{q:Rat}{w:Nat}[h:Qz u q w]:Zl ts u k (sh 0 (q:Rat)) (qE q:Et ts) w 0:=⟨fL _ q,by
  obtain⟨R,tw,_⟩:=c.ex;exact(Nm.ofQ tw.five h.cb).eq oz⟩
instance Zl.nil [c : Ct ts u k] : Zl ts u k [] (0 : Et ts) 0 0 := ⟨by rw [gp]; exact E.zero_def.symm, by
  obtain⟨R,tw,_⟩:=c.ex;exact⟨tw.five,.inl rfl,Cb.nil.mono (aa0 _)⟩⟩
theorem Zl.zu{a:List Rat}{x:Et ts}{w v:Nat}(h:Zl ts u k a x w v):Zu u k x w v:=⟨by
 have h1:=h.nm;have h2:=Cb.sh h1.cb h1.nl;rw[h.eq]at h2;exact⟨h1.five,eT _ _,h2⟩⟩
theorem Zl.at{a:List Rat}{e:Nat}(h:Nm ts.length e a)(he:e<=u):Zl ts u k a (dE ts a) 1 0:=⟨rfl,h.mono oz⟩
theorem IJ(c:Ct ts u k){w v m:Nat}(h:w+v<=m):w*u+v*k<=m*1000000:=by
 have h1:w*u<=w*1000000:=aaz _ c.ub;have h2:v*k<=v*1000000:=aaz _ c.kb;omega
theorem Zl.up(c:Ct ts u k){a:List Rat}{x:Et ts}{w v m:Nat}(h:Zl ts u k a x w v)(hm:w+v<=m):Nm ts.length (m*1000000) a:=h.nm.mono (IJ c hm)
theorem Ct.kk(c:Ct ts u k){R:Nat}(h:eB R ts.length<=k):kB R ts.length<=1000000:=abe h c.kb
def dotE(x y z t:Et ts):Et ts:=x*z+y*t
def crsE(x y z t:Et ts):Et ts:=x*t-y*z
instance Zu.dotE[c:Ct ts u k]{x y z t:Et ts}{w1 v1 w2 v2 w3 v3 w4 v4:Nat}[Zu u k x w1 v1][Zu u k y w2 v2][Zu u k z w3 v3][Zu u k t w4 v4]:Zu u k (dotE x y z t) (w1+w3+(w2+w4)) (v1+v3+1+(v2+v4+1)+1) :=
  (ace:Zu u k (x*z+y*t) _ _)
instance Zu.crsE[c:Ct ts u k]{x y z t:Et ts}{w1 v1 w2 v2 w3 v3 w4 v4:Nat}[Zu u k x w1 v1][Zu u k y w2 v2][Zu u k z w3 v3][Zu u k t w4 v4]:Zu u k (crsE x y z t) (w1+w4+(w2+w3)) (v1+v4+1+(v2+v3+1)+1) :=
  (ace:Zu u k (x*t-y*z) _ _)
end
def fe(xs:List Int):List Int:=xs.mergeSort (fun a b=>decide (a<=b))
theorem Co(xs:List Int):(fe xs).Perm xs:=List.mergeSort_perm _ _
theorem MO(xs:List Int):(fe xs).Pairwise (· <= ·):=by
 have h:=List.pairwise_mergeSort (le:=fun a b:Int=>decide (a<=b)) (fun a b c h1 h2=>by simp only[ab7]at *;omega) (fun a b=>by simp only[abz,ab7];omega) xs;exact h.imp (fun h=>ab8 h)
theorem Xr{xs ys:List Int}(hp:ys.Perm xs)(hs:ys.Pairwise (· <= ·)):ys=fe xs :=
 List.Perm.eq_of_pairwise (le:=fun a b:Int=>a<=b) (fun a b _ _ h1 h2=>by omega) hs (MO xs) (hp.trans (Co xs).symm)
theorem HK(xs:List Int):(fe xs).length=xs.length:=(Co xs).length_eq
theorem yQ{xs:List Int}{b:Int}:b∈fe xs↔b∈xs:=(Co xs).mem_iff
theorem Kn(e:Nat)(l:List Nat):e8 (e::l)=if e≠0 then e else e8 l:=rfl
theorem pK{α:Type}{f:α->Nat}{L:List α}(h:∀x∈L,f x=0):e8 (L.map f)=0:=by
 induction L with
 |nil=>rfl
 |cons x L ih =>
  rw[ab2,Kn,ab5 (by rw[h x (abr ..)];simp)];exact ih (fun y hy=>h y (abt _ hy))
def iQ(g:Gr)(j:Jt):Int:=if g.bo.contains j.a=true then(if g.bo.contains j.b=true then -1 else j.b)else j.a
def fS(l:Li)(g:Gr):List Int:=g.jo.map (fun j=>iQ g (l.jo.getD j.toNat default))
theorem ru(l:Li)(g:Gr):(fS l g).length=g.jo.length:=by unfold fS;rw[aar]
theorem Xu{l:Li}(hl:aN l=0){g:Gr}(hg:GrOk l g):∀b∈fS l g,b<l.bo.length:=by
 intro b hb;unfold fS at hb;obtain⟨z,hz,rfl⟩:=Y8.1 hb;obtain⟨z0,z1⟩:=hg.j z hz;obtain⟨j,hj⟩:=ay (l:=l.jo) (i:=z.toNat) oz;rw[aq hj];obtain⟨i1,i2,_⟩:=cF hl hj;have i1:=df i1;have i2:=df i2;unfold iQ;split
 ·split
  ·omega
  ·omega
 ·omega
def cT(l:Li)(g:Gr)(own:Bool):List Int:=fS l g++(if own=true then g.bo else[])
theorem vj{l:Li}(hl:aN l=0){g:Gr}(hg:GrOk l g){own:Bool}:∀b∈cT l g own,b<l.bo.length:=by
 intro b hb;rcases aa2.1 hb with hb |hb
 ·exact Xu hl hg b hb
 ·split at hb
  ·exact(hg.b b hb).2
  ·cases hb
theorem UJ{l:Li}{g:Gr}(hg:GrOk l g){own:Bool}:(cT l g own).length<=5:=by
 unfold cT;have h1:=hg.lb;have h2:=hg.lj;rw[abi,ru];split
 ·omega
 ·simp only[abg];omega
def gY(a:As)(b:Int):Nat:=if b<0 then 0 else bB a.rs (a.bs.getD b.toNat default).l
def iA(l:Li)(k:Int):Gr:=(splitG l).getD k.toNat default
def kg(l:Li)(k:Int)(a:As)(own:Bool):Nat :=
  if splitE l≠0 then splitE l else if k<0\/((splitG l).length:Int)<=k then 9 else if a.bs.length≠l.bo.length then 10 else if bM a.rs≠0 then bM a.rs
  else e8 ((fe (cT l (iA l k) own)).map (gY a))
def fP(l:Li)(k:Int)(a:As)(own:Bool):Nat:=if aN l≠0 then aN l else kg l k a own
section
variable{l:Li}{k:Int}{a:As}{own:Bool}
theorem rh(h:aN l=0):fP l k a own=kg l k a own:=by unfold fP;rw[ab5 oz]
theorem NN{e:Nat}(he:(if aN l=0 then splitE l else aN l)=e)(h:e≠0):fP l k a own=e:=by
 by_cases h1:aN l=0
 ·rw[ab6 h1]at he;rw[rh h1];unfold kg;rw[ab6 oz];exact he
 ·rw[ab5 h1]at he;unfold fP;rw[ab6 h1];exact he
theorem G3(h:(if aN l=0 then splitE l else aN l)=0):aN l=0/\splitE l=0:=by
 by_cases h1:aN l=0
 ·rw[ab6 h1]at h;exact⟨h1,h⟩
 ·rw[ab5 h1]at h;exact acc h h1
theorem NT(hs:splitE l=0)(hk:k<0\/((splitG l).length:Int)<=k):kg l k a own=9:=by unfold kg;rw[ab5 oz,ab6 hk]
theorem VR(hs:splitE l=0)(hk:¬(k<0\/((splitG l).length:Int)<=k))(hb:a.bs.length≠l.bo.length):kg l k a own=10:=by
 unfold kg;rw[ab5 oz,ab5 hk,ab6 hb]
theorem Th(hs:splitE l=0)(hk:¬(k<0\/((splitG l).length:Int)<=k))(hb:a.bs.length=l.bo.length)(hc:bM a.rs≠0):kg l k a own=bM a.rs:=by
 unfold kg;rw[ab5 oz,ab5 hk,ab5 oz,ab6 hc]
theorem JO(hs:splitE l=0)(hk:¬(k<0\/((splitG l).length:Int)<=k))(hb:a.bs.length=l.bo.length)(hc:bM a.rs=0):kg l k a own=e8 ((fe (cT l (iA l k) own)).map (gY a)):=by
 unfold kg;rw[ab5 oz,ab5 hk,ab5 oz,ab5 oz]
end
structure DyOk(E:Nat)(l:Li)(k:Int)(a:As)(own:Bool)(i:Nat)(g:Gr):Prop where
  li:aN l=0
  sp:splitE l=0
  hk:k=(i:Int)
  hg:(splitG l)[i]?=some g
  ok:GrOk l g
  dy:DyK l g
  ln:a.bs.length=l.bo.length
  chk:bM a.rs=0
  nd:∀b∈cT l g own,gY a b=0
  sm:∀b∈cT l g own,0<=b->∀p,a.bs[b.toNat]?=some p->∀x∈p.l,NR x E
def sa(E:Nat)(l:Li)(k:Int)(a:As)(own:Bool):Prop:=∀b∈cT l (iA l k) own,0<=b->∀p,a.bs[b.toNat]?=some p->∀x∈p.l,NR x E
theorem vF{l:Li}{k:Int}{a:As}{own:Bool}{E:Nat}(hs:sa E l k a own)(h:fP l k a own=0):∃i g,DyOk E l k a own i g:=by
 unfold fP at h;split at h
 ·rename_i h1;exact acc h h1
 ·rename_i h1;have h1:=aao.1 h1;unfold kg at h;split at h
  ·rename_i h2;exact acc h h2
  ·rename_i h2;split at h
   ·cases h
   ·rename_i h3;split at h
    ·cases h
    ·rename_i h4;split at h
     ·rename_i h5;exact acc h h5
     ·rename_i h5;obtain⟨g,hg⟩:=ay (l:=splitG l) (i:=k.toNat) oz;have e:iA l k=g:=aq hg;rw[e]at h;obtain⟨d1,d2⟩:=mC h1 (aap hg);refine⟨k.toNat,g,h1,by omega,by omega,hg,d2,d1,by omega,by omega,fun b hb=>?_,e▸hs⟩;exact oA h _ (Y8.2 ⟨b,yQ.2 hb,rfl⟩)
theorem DyOk.body{E:Nat}{l:Li}{k:Int}{a:As}{own:Bool}{i:Nat}{g:Gr}(h:DyOk E l k a own i g){b:Int}(hb:b∈cT l g own)(h0:0<=b):∃p,a.bs[b.toNat]?=some p/\bB a.rs p.l=0/\∀x∈p.l,NR x E:=by
 have h1:=vj h.li h.ok b hb;obtain⟨p,hp⟩:=ay (l:=a.bs) (i:=b.toNat) (by have:=h.ln;omega);have h2:=h.nd b hb;unfold gY at h2;rw[ab5 oz,aq hp]at h2;exact⟨p,hp,h2,h.sm b hb h0 p hp⟩
theorem Vw(n:Nat):50000000000<=lm n:=j5 n
theorem G6{k:Int}{n:Nat}(h:cond (aa .lss k 0) true (aa .geq k (n:Int))=true):k<0\/(n:Int)<=k:=by
 by_cases h1:k<0
 ·exact .inl h1
 ·refine .inr ?_;have h2:aa .lss k 0=false:=acb h1;rw[h2]at h;exact ab8 (p:=k>=n) h
theorem S8{k:Int}{n:Nat}(h:cond (aa .lss k 0) true (aa .geq k (n:Int))=false):¬(k<0\/(n:Int)<=k):=by
 intro h1
 by_cases h2:k<0
 ·rw[show aa .lss k 0=true from aca h2]at h;cases h
 ·rw[show aa .lss k 0=false from acb h2]at h;have h3:¬(k>=n):=ab9 h;omega
theorem PO{k:Int}{n:Nat}(h:¬(k<0\/(n:Int)<=k)):∃i:Nat,k=i/\i<n:=⟨k.toNat,by omega,by omega⟩
theorem yG{a b:Nat}(h:aa .neq (a:Int) (b:Int)=true):a≠b:=by
 have h1:((a:Int) != (b:Int))=true:=h;have h2:=bne_iff_ne.1 h1;omega
theorem Ay{a b:Nat}(h:aa .neq (a:Int) (b:Int)=false):a=b:=by
 have h1:((a:Int) != (b:Int))=false:=h;have h2:(a:Int)=b:=by simpa only[bne_eq_false_iff_eq]using h1
 omega
theorem om{r:(k:Nat)->T k}{n:Nat}(p q:Rat):(qE (p+q):E r n)=qE p+qE q:=T.ofQ_add n p q
theorem Q5{r:(k:Nat)->T k}{n:Nat}(p:Rat):(qE (-p):E r n)=-qE p:=T.ofQ_neg n p
theorem kl{r:(k:Nat)->T k}{n:Nat}(p q:Rat):(qE (p-q):E r n)=qE p-qE q:=by
 rw[ZR,om,Q5];grind
theorem iF{r:(k:Nat)->T k}{n:Nat}(p q:Rat):(qE (p*q):E r n)=qE p*qE q:=(T.mul_ofQ r n p q).symm
def aM(l:Li)(body pt:Int):Rat×Rat:=(((cO l body).getD pt.toNat default).x.q,((cO l body).getD pt.toNat default).y.q)
abbrev qC(p:Rat×Rat):List AV:=[bl (rt p.1).neg,ws (rt p.1).num,ws (rt p.1).den,bl (rt p.2).neg,ws (rt p.2).num,ws (rt p.2).den]
abbrev qP(p:Rat×Rat):AV:=.agg (qC p)
structure Sm(e:Nat)(p:Rat×Rat):Prop where
  x:Qb e p.1
  y:Qb e p.2
structure MkP(l:Li)(body pt:Int)(n k:Nat)(bd:Bd)(m:Mk):Prop where
  hn:body=n
  hk:pt=k
  gbd:l.bo[n]?=some bd
  gm:bd.pts[k]?=some m
  ex:m.x=rt (aM l body pt).1
  ey:m.y=rt (aM l body pt).2
  sm:Sm 1000 (aM l body pt)
theorem oN{l:Li}(hl:l.ok)(hli:aN l=0){body pt:Int}(h1:bA body l.bo.length=true)(h2:bA pt (cO l body).length=true):∃n k bd m,MkP l body pt n k bd m:=by
 obtain⟨bd,g1,g2,g3,g4⟩:=q9 h1;rw[g2]at h2;obtain⟨m,g5,g6,g7,g8⟩:=ta h2;have hv:=Qp hli g1 g5;have ho:=(hl.bo bd g3).pts m g7;have e:aM l body pt=(m.x.q,m.y.q):=by unfold aM;rw[g2,g6]
 exact⟨body.toNat,pt.toNat,bd,m,by omega,by omega,g1,g5,by rw[e];exact Rt.eq_rt ho.x hv.1,by rw[e];exact Rt.eq_rt ho.y hv.2,by rw[e];exact⟨ho.qx.mono oz,ho.qy.mono oz⟩⟩
theorem iu{l:Li}(hl:l.ok)(hli:aN l=0){body pt:Int}(h1:bA body l.bo.length=true)(h2:bA pt (cO l body).length=true):Sm 1000 (aM l body pt):=by
 obtain⟨n,k,bd,m,h⟩:=oN hl hli h1 h2;exact h.sm
def aZ(l:Li)(a:As)(body pt:Int):Et (llq a.rs)×Et (llq a.rs):=uN l a body pt
structure PlP(E:Nat)(l:Li)(a:As)(body pt:Int)(n k:Nat)(bd:Bd)(m:Mk)(b:Pl):Prop where
  mp:MkP l body pt n k bd m
  gb:a.bs[n]?=some b
  eq:uN l a body pt=ph (llq a.rs) b m
  av:b.av=Pq.av ⟨lq b.c,lq b.s,lq b.x,lq b.y⟩
  ok:Pq.ok (llq a.rs).length E ⟨lq b.c,lq b.s,lq b.x,lq b.y⟩
def Pd(E:Nat)(a:As)(body:Int):Prop:=∃p,a.bs[body.toNat]?=some p/\bB a.rs p.l=0/\∀x∈p.l,NR x E
theorem p8{E:Nat}{l:Li}(hl:l.ok)(hli:aN l=0){a:As}(al:AB a)(hc:bM a.rs=0){body pt:Int}(h1:bA body l.bo.length=true)(h2:bA pt (cO l body).length=true)(hb:Pd E a body):∃n k bd m b,PlP E l a body pt n k bd m b:=by
 obtain⟨n,k,bd,m,h⟩:=oN hl hli h1 h2;obtain⟨b,gb,hb,hbn⟩:=hb;obtain⟨tw,_⟩:=db al.tr hc;have h5:a.rs.length<=5:=by have:=tw.five;rwa [rj]at this
 have h9:=Cm hb hbn h5;have e:body.toNat=n:=by have:=h.hn;omega
 have e2:pt.toNat=k:=by have:=h.hk;omega
 rw[e]at gb;obtain⟨bd',g1,g2,_,_⟩:=q9 h1;rw[e]at g1;have:bd'=bd:=Option.some.inj (g1.symm.trans h.gbd);subst this;refine⟨n,k,bd',m,b,h,gb,?_,h9.1,by rw[rj];exact h9.2⟩;unfold uN;rw[e,e2,aq gb,g2,aq h.gm]
structure DyS(a:As):Prop where
  tr:TR a.rs 64990
  one:bM a.rs=0->(llq a.rs).length<=1
theorem DyS.ct{a:As}(h:DyS a)(hc:bM a.rs=0):Ct (llq a.rs) 310000 65000:=by
 obtain⟨tw,_⟩:=db h.tr hc;refine⟨⟨64990,tw,?_⟩,by omega,by omega,by omega,by omega⟩;have h1:=gX 64990 (h.one hc);have h2:eB 64990 1=64992:=by simp only[eB]
 omega
theorem mV{l:Li}(hl:l.ok)(hli:aN l=0){a:As}(al:AB a)(S:DyS a)(hc:bM a.rs=0){body pt:Int}(h1:bA body l.bo.length=true)(h2:bA pt (cO l body).length=true)(hb:Pd 3900000 a body) :
  Zu 310000 65000 (aZ l a body pt).1 40 40/\Zu 310000 65000 (aZ l a body pt).2 40 40:=by
 obtain⟨n,k,bd,m,b,hp⟩:=p8 hl hli al hc h1 h2 hb;obtain⟨tw,_⟩:=db S.tr hc
 have kb:kB 64990 (llq a.rs).length<=65000:=by
  have h1:=gX 64990 (S.one hc);have h2:eB 64990 1=64992:=by simp only[eB]
  show eB 64990 _<=_;omega
 have qx:Qb 1000 m.x.q:=by rw[hp.mp.ex,cc];exact hp.mp.sm.x
 have qy:Qb 1000 m.y.q:=by rw[hp.mp.ey,cc];exact hp.mp.sm.y
 have h:=uG tw hp.ok qx qy;unfold aZ;rw[hp.eq];exact⟨⟨h.1.mono oz⟩,⟨h.2.mono oz⟩⟩
theorem jD{rs:List (List Rt)}{r:Nat}(h:TR rs r)(hc:bM rs=0):aT (llq rs)=.agg [.lst 1 (rs.map nR)]:=(db h hc).2.symm
theorem V9{x y:Option Blk}{k:Nat}{z:Blk}(h:lk [(1000,x),(1001,y)] k=some z):1000<=k:=by
 rw[aY]at h;split at h
 ·omega
 ·rw[aY]at h;split at h
  ·omega
  ·cases h
theorem mD{s:AS}{k k':Nat}{x y:Blk}(h:lk s.hp k=some x)(h':lk s.hp k'=some y):∀q z,lk [(k,some x),(k',some y)] q=some z->lk s.hp q=some z:=by
 intro q z hz;rw[aY]at hz;split at hz
 ·rename_i e;cases hz;rw[e];exact h
 ·rw[aY]at hz;split at hz
  ·rename_i e;cases hz;rw[e];exact h'
  ·cases hz
def bX(p q:Rat×Rat):Rat×Rat:=(p.1-q.1,p.2-q.2)
def b9(p q:Rat×Rat):Rat:=p.1*q.1+p.2*q.2
def qd(p q:Rat×Rat):Rat:=p.1*q.2-p.2*q.1
theorem Sm.sub{e f:Nat}{p q:Rat×Rat}(hp:Sm e p)(hq:Sm f q):Sm (e+f+1) (bX p q):=⟨hp.x.sub hq.x,hp.y.sub hq.y⟩
theorem Sm.dot{e f:Nat}{p q:Rat×Rat}(hp:Sm e p)(hq:Sm f q):Qb (e+f+(e+f)+1) (b9 p q):=(hp.x.mul hq.x).add (hp.y.mul hq.y)
theorem Sm.cross{e f:Nat}{p q:Rat×Rat}(hp:Sm e p)(hq:Sm f q):Qb (e+f+(e+f)+1) (qd p q):=(hp.x.mul hq.y).sub (hp.y.mul hq.x)
theorem Sm.mono{e f:Nat}{p:Rat×Rat}(hp:Sm e p)(h:e<=f):Sm f p:=⟨hp.x.mono h,hp.y.mono h⟩
theorem oR{q:Rat}{e w:Nat}(h:Qb e q)(he:e<=w*310000):Qz 310000 q w:=⟨(Cb.one h).mono he⟩
def ai(l:Li)(j:Jt)(b:Int):Rat×Rat:=if j.a=b then aM l b j.point else aM l b j.on
def aw(l:Li)(a:As)(j:Jt)(b:Int):Et (llq a.rs)×Et (llq a.rs):=if j.a=b then aZ l a j.b j.on else aZ l a j.a j.point
structure PinP(E:Nat)(l:Li)(a:As)(j:Jt)(b:Int):Prop where
  tie:(j.a=b/\Pd E a j.b)\/(j.a≠b/\j.b=b/\Pd E a j.a)
theorem PinP.or{E:Nat}{l:Li}{a:As}{j:Jt}{b:Int}(h:PinP E l a j b):j.a=b\/j.b=b:=by
 rcases h.tie with h9 |h9
 ·exact .inl h9.1
 ·exact .inr h9.2.1
theorem mI{l:Li}(hl:l.ok)(hli:aN l=0){a:As}(al:AB a)(S:DyS a)(hc:bM a.rs=0){i:Nat}{j:Jt}(hj:l.jo[i]?=some j){b:Int}(h:PinP 3900000 l a j b) :
  Zu 310000 65000 (aw l a j b).1 40 40/\Zu 310000 65000 (aw l a j b).2 40 40:=by
 obtain⟨i1,i2,i3,i4,_⟩:=cF hli hj;unfold aw;rcases h.tie with⟨e,hb⟩ |⟨e,e2,hb⟩
 ·rw[ab6 e];exact mV hl hli al S hc i2 i4 hb
 ·rw[ab5 e];exact mV hl hli al S hc i1 i3 hb
theorem d7{l:Li}(hl:l.ok)(hli:aN l=0){i:Nat}{j:Jt}(hj:l.jo[i]?=some j){b:Int}(h:j.a=b\/j.b=b):Sm 1000 (ai l j b):=by
 obtain⟨i1,i2,i3,i4,_⟩:=cF hli hj;unfold ai
 by_cases e:j.a=b
 ·rw[ab6 e];subst e;exact iu hl hli i1 i3
 ·rw[ab5 e];rcases h with h |h
  ·exact acc h e
  ·subst h;exact iu hl hli i2 i4
theorem Rx{bs:List Int}{b:Int}(h:b∈bs):bs.contains b=true:=Zh.2 h
theorem HW{bs:List Int}{b:Int}(h:b∉bs):bs.contains b=false:=by
 cases hc:bs.contains b with
 |false=>rfl
 |true=>exact acc (Zh.1 hc) h
theorem DyOk.ancs{E:Nat}{l:Li}{k:Int}{a:As}{own:Bool}{n:Nat}{g:Gr}(h:DyOk E l k a own n g){z b:Int}{j:Jt}(hz:z∈g.jo)(hj:l.jo[z.toNat]?=some j)(hb:iQ g j=b)(h0:0<=b):Pd E a b:=by
 refine h.body ?_ h0;unfold cT fS;refine List.mem_append_left _ (Y8.2 ⟨z,hz,?_⟩);rw[aq hj];exact hb
theorem DyOk.pin{E:Nat}{l:Li}{k:Int}{a:As}{own:Bool}{n:Nat}{g:Gr}(h:DyOk E l k a own n g){kd z b:Int}{j:Jt}{bs:List Int}(hbs:g.bo=bs)(t:TieO l kd bs z b j)(hz:z∈g.jo)(hb:b∈bs):PinP E l a j b:=by
 subst hbs;obtain⟨i1,i2,_⟩:=cF h.li t.hj;have i1:=df i1;have i2:=df i2;rcases t.tie with⟨e,hn⟩ |⟨e,hn⟩
 ·refine⟨.inl ⟨e,h.ancs hz t.hj ?_ i2.1⟩⟩;unfold iQ;rw[ab6 (Rx (e▸hb)),ab5 (by rw[HW hn];simp)]
 ·refine⟨.inr ⟨fun e2=>hn (e2▸hb),e,h.ancs hz t.hj ?_ i1.1⟩⟩;unfold iQ;rw[ab5 (by rw[HW hn];simp)]
theorem DyOk.own{E:Nat}{l:Li}{k:Int}{a:As}{n:Nat}{g:Gr}(h:DyOk E l k a true n g){b:Int}(hb:b∈g.bo):Pd E a b:=by
 refine h.body ?_ (h.ok.b b hb).1;unfold cT;rw[ab6 rfl];exact List.mem_append_right _ hb
structure RrrP(E:Nat)(l:Li)(a:As)(g:Gr)(i k z0 z1 z2:Int)(j0 j1 j2:Jt):Prop where
  eq:g=⟨1,[i,k],[z0,z1,z2],0⟩
  h0:l.jo[z0.toNat]?=some j0
  h1:l.jo[z1.toNat]?=some j1
  h2:l.jo[z2.toNat]?=some j2
  p0:PinP E l a j0 i
  p1:PinP E l a j1 k
  t1:j2.a=i\/j2.b=i
  t2:j2.a=k\/j2.b=k
structure SlP(E:Nat)(l:Li)(a:As)(g:Gr)(kd i z0 z1:Int)(j0 j:Jt):Prop where
  eq:g=⟨kd,[i],[z0,z1],0⟩
  h0:l.jo[z0.toNat]?=some j0
  h1:l.jo[z1.toNat]?=some j
  p0:PinP E l a j0 i
  p1:PinP E l a j i
  hk:j.kind≠0
theorem DyOk.rrr{E:Nat}{l:Li}{k:Int}{a:As}{own:Bool}{n:Nat}{g:Gr}(h:DyOk E l k a own n g)(hk:g.kind=1):∃i k z0 z1 z2 j0 j1 j2,RrrP E l a g i k z0 z1 z2 j0 j1 j2:=by
 have hd:=h.dy;cases hd with
 |drv _ _ _ _=>exact acc hk (by simp)
 |pr _ _ _=>exact acc hk (by simp)
 |rp _ _ _=>exact acc hk (by simp)
 | @rrr i k z0 z1 z2 j0 j1 j2 ne t0 t1 h0 h2 kd tie =>
  refine⟨i,k,z0,z1,z2,j0,j1,j2,rfl,t0.hj,t1.hj,h2,h.pin rfl t0 (by simp) (by simp),h.pin rfl t1 (by simp) (by simp),?_,?_⟩
  ·rcases tie with h9 |h9
   ·exact .inl h9.1
   ·exact .inr h9.1
  ·rcases tie with h9 |h9
   ·exact .inr h9.2
   ·exact .inl h9.2
theorem DyOk.pr{E:Nat}{l:Li}{k:Int}{a:As}{own:Bool}{n:Nat}{g:Gr}(h:DyOk E l k a own n g)(hk:g.kind=2):∃i z0 z1 j0 j,SlP E l a g 2 i z0 z1 j0 j/\j.a=i/\Pd E a j.b:=by
 have hd:=h.dy;cases hd with
 |drv _ _ _ _=>exact acc hk (by simp)
 |rrr _ _ _ _ _ _ _=>exact acc hk (by simp)
 |rp _ _ _=>exact acc hk (by simp)
 | @pr i z0 z1 j0 j1 t0 t1 ha =>
  have p1:PinP E l a j1 i:=h.pin rfl t1 (by simp) (by simp);refine⟨i,z0,z1,j0,j1,⟨rfl,t0.hj,t1.hj,h.pin rfl t0 (by simp) (by simp),p1,by rw[t1.kd];decide⟩,ha,?_⟩;rcases p1.tie with h9 |h9
  ·exact h9.2
  ·exact acc ha h9.1
theorem DyOk.rp{E:Nat}{l:Li}{k:Int}{a:As}{own:Bool}{n:Nat}{g:Gr}(h:DyOk E l k a own n g)(h0:g.kind≠0)(h1:g.kind≠1)(h2:g.kind≠2):∃i z0 z1 j0 j,SlP E l a g 3 i z0 z1 j0 j/\j.a≠i/\j.b=i/\Pd E a j.a:=by
 have hd:=h.dy;cases hd with
 |drv _ _ _ _=>exact acc rfl h0
 |rrr _ _ _ _ _ _ _=>exact acc rfl h1
 |pr _ _ _=>exact acc rfl h2
 | @rp i z0 z1 j0 j1 t0 t1 ha =>
  have p1:PinP E l a j1 i:=h.pin rfl t1 (by simp) (by simp);refine⟨i,z0,z1,j0,j1,⟨rfl,t0.hj,t1.hj,h.pin rfl t0 (by simp) (by simp),p1,by rw[t1.kd];decide⟩,ha,?_⟩;rcases p1.tie with h9 |h9
  ·exact acc h9.1 ha
  ·exact⟨h9.2.1,h9.2.2⟩
def k9(a:As)(b:Int)(q:Rat×Rat):Et (llq a.rs)×Et (llq a.rs) :=
  (sD (llq a.rs) (fX (llq a.rs) (a.bs.getD b.toNat default).c) (fX (llq a.rs) (a.bs.getD b.toNat default).s) (fX (llq a.rs) (a.bs.getD b.toNat default).x) q.1 q.2,
   sL (llq a.rs) (fX (llq a.rs) (a.bs.getD b.toNat default).c) (fX (llq a.rs) (a.bs.getD b.toNat default).s) (fX (llq a.rs) (a.bs.getD b.toNat default).y) q.1 q.2)
theorem FD{ts:LL}{r e f:Nat}(tw:Tw ts r){b:Pl}{q:Rat×Rat}(hb:Pq.ok ts.length e ⟨lq b.c,lq b.s,lq b.x,lq b.y⟩)(hq:Sm f q) :
  Nm ts.length (3*e+2*f+2*kB r ts.length+10) (sh ts.length (sD ts (fX ts b.c) (fX ts b.s) (fX ts b.x) q.1 q.2))/\Nm ts.length (3*e+2*f+2*kB r ts.length+10) (sh ts.length (sL ts (fX ts b.c) (fX ts b.s) (fX ts b.y) q.1 q.2)):=by
 have nx:=Nm.ofQ tw.five (Cb.one hq.x);have ny:=Nm.ofQ tw.five (Cb.one hq.y);have h1:=(vY tw hb.c hb.s nx ny).add hb.x;rw[yX]at h1;have h2:=(xQ tw hb.c hb.s nx ny).add hb.y;rw[AY]at h2;exact⟨h1.mono oz,h2.mono oz⟩
def ba(c p:Rat×Rat):Rat:=b9 (bX c p) (bX c p)
theorem vV{e f:Nat}{c p:Rat×Rat}(hc:Sm e c)(hp:Sm f p):Qb (e+f+1+(e+f+1)+(e+f+1+(e+f+1))+1) (ba c p):=(hc.sub hp).dot (hc.sub hp)
def am(l:Li)(g:Gr)(n:Nat):Jt:=l.jo.getD (g.jo.getD n 0).toNat default
def aL(g:Gr)(n:Nat):Int:=g.bo.getD n 0
section
variable(l:Li)(a:As)
def cw(i:Int)(j:Jt):Rat×Rat:=bX (aM l i j.to) (aM l i j.on)
def bP(i:Int)(j0 j:Jt):Rat:=qd (cw l i j) (bX (aM l i j.on) (ai l j0 i))
def ft(i:Int)(j:Jt):Rat:=b9 (cw l i j) (cw l i j)
def aQ{ts:LL}(p q:Et ts×Et ts):Et ts×Et ts:=(p.1-q.1,p.2-q.2)
def dm{ts:LL}(p q:Et ts×Et ts):Et ts:=dotE p.1 p.2 q.1 q.2
def gy{ts:LL}(p q:Et ts×Et ts):Et ts:=crsE p.1 p.2 q.1 q.2
def bT(i:Int)(j0 j:Jt):Et (llq a.rs)×Et (llq a.rs):=aQ (aZ l a j.a j.point) (aw l a j0 i)
def bY(i:Int)(j0 j:Jt):Et (llq a.rs):=dm (bT l a i j0 j) (bT l a i j0 j)
def jr(g:Gr):Et (llq a.rs) :=
  if g.kind=0 then qE 1
  else if g.kind=1 then
    qE 4*(qE (ba (ai l (am l g 2) (aL g 0)) (ai l (am l g 0) (aL g 0)))*dm (aQ (aw l a (am l g 0) (aL g 0)) (aw l a (am l g 1) (aL g 1))) (aQ (aw l a (am l g 0) (aL g 0)) (aw l a (am l g 1) (aL g 1))))
      - ((qE (ba (ai l (am l g 2) (aL g 0)) (ai l (am l g 0) (aL g 0)))+dm (aQ (aw l a (am l g 0) (aL g 0)) (aw l a (am l g 1) (aL g 1))) (aQ (aw l a (am l g 0) (aL g 0)) (aw l a (am l g 1) (aL g 1))))-qE (ba (ai l (am l g 2) (aL g 1)) (ai l (am l g 1) (aL g 1))))
        * ((qE (ba (ai l (am l g 2) (aL g 0)) (ai l (am l g 0) (aL g 0)))+dm (aQ (aw l a (am l g 0) (aL g 0)) (aw l a (am l g 1) (aL g 1))) (aQ (aw l a (am l g 0) (aL g 0)) (aw l a (am l g 1) (aL g 1))))-qE (ba (ai l (am l g 2) (aL g 1)) (ai l (am l g 1) (aL g 1))))
  else if g.kind=2 then
    dm (aQ (aZ l a (am l g 1).b (am l g 1).to) (aZ l a (am l g 1).b (am l g 1).on)) (aQ (aZ l a (am l g 1).b (am l g 1).to) (aZ l a (am l g 1).b (am l g 1).on))*qE (ba (aM l (aL g 0) (am l g 1).point) (ai l (am l g 0) (aL g 0)))
      - gy (aQ (aZ l a (am l g 1).b (am l g 1).to) (aZ l a (am l g 1).b (am l g 1).on)) (aQ (aw l a (am l g 0) (aL g 0)) (aZ l a (am l g 1).b (am l g 1).on))
        * gy (aQ (aZ l a (am l g 1).b (am l g 1).to) (aZ l a (am l g 1).b (am l g 1).on)) (aQ (aw l a (am l g 0) (aL g 0)) (aZ l a (am l g 1).b (am l g 1).on))
  else qE (ft l (aL g 0) (am l g 1))*bY l a (aL g 0) (am l g 0) (am l g 1)-qE (bP l (aL g 0) (am l g 0) (am l g 1))*qE (bP l (aL g 0) (am l g 0) (am l g 1))
def iU(g:Gr):Et (llq a.rs) :=
  if g.kind=0 then qE 1
  else if g.kind=1 then gy (aQ (aw l a (am l g 1) (aL g 1)) (aw l a (am l g 0) (aL g 0))) (aQ (k9 a (aL g 0) (ai l (am l g 2) (aL g 0))) (aw l a (am l g 0) (aL g 0)))
  else if g.kind=2 then dm (aQ (aZ l a (am l g 1).b (am l g 1).to) (aZ l a (am l g 1).b (am l g 1).on)) (aQ (k9 a (aL g 0) (aM l (aL g 0) (am l g 1).point)) (aw l a (am l g 0) (aL g 0)))
  else dm (aQ (aZ l a (am l g 1).b (am l g 1).to) (aZ l a (am l g 1).b (am l g 1).on)) (bT l a (aL g 0) (am l g 0) (am l g 1))
end
section
variable{E:Nat}{l:Li}{a:As}{g:Gr}
theorem RrrP.at{i k z0 z1 z2:Int}{j0 j1 j2:Jt}(h:RrrP E l a g i k z0 z1 z2 j0 j1 j2):am l g 0=j0/\am l g 1=j1/\am l g 2=j2/\aL g 0=i/\aL g 1=k/\g.kind=1:=by
 rw[h.eq];exact⟨aq h.h0,aq h.h1,aq h.h2,rfl,rfl,rfl⟩
theorem SlP.at{kd i z0 z1:Int}{j0 j:Jt}(h:SlP E l a g kd i z0 z1 j0 j):am l g 0=j0/\am l g 1=j/\aL g 0=i/\g.kind=kd:=by
 rw[h.eq];exact⟨aq h.h0,aq h.h1,rfl,rfl⟩
end
section
variable{ts:LL}
def qv(p:Rat×Rat):Et ts×Et ts:=(qE p.1,qE p.2)
theorem MV(p q:Rat×Rat):aQ (qv p:Et ts×Et ts) (qv q)=qv (bX p q):=by
 unfold aQ qv bX;rw[kl,kl]
theorem Rm(p q:Rat×Rat):dm (qv p:Et ts×Et ts) (qv q)=qE (b9 p q):=by
 unfold dm dotE qv b9;rw[om,iF,iF]
def aA(p q:Et ts×Et ts):Et ts:=dm (aQ p q) (aQ p q)
theorem mJ(p q:Rat×Rat):aA (qv p:Et ts×Et ts) (qv q)=qE (ba p q):=by
 unfold aA ba;rw[MV,Rm]
theorem J0(q:Rat):ao (qE q:Et ts)=bV q:=T.sgn_ofQ _ _ q
theorem ov(x:Rat):0<=x*x:=by
 rcases(Rat.le_total:0<=x\/x<=0)with h |h
 ·exact Rat.mul_nonneg h h
 ·have h1 : 0 <= -x := by grind
  have h2:=Rat.mul_nonneg h1 h1;grind
theorem R4(p q:Rat×Rat):0<=ba p q:=by
 unfold ba b9 bX;have h1:=ov (p.1-q.1);have h2:=ov (p.2-q.2);dsimp only;grind
theorem tO(p q:Rat×Rat):0<=ao (qE (ba p q):Et ts):=by
 rw[J0];have h:=R4 p q;unfold bV;split
 ·grind
 ·split <;> omega
def bj(p:Et ts×Et ts)(r:Et ts)(q:Et ts×Et ts)(s:Et ts):Et ts:=qE 4*(r*aA p q)-((r+aA p q)-s)*((r+aA p q)-s)
end
section
variable{E:Nat}{l:Li}{a:As}{g:Gr}
theorem I8{i k z0 z1 z2:Int}{j0 j1 j2:Jt}(h:RrrP E l a g i k z0 z1 z2 j0 j1 j2) :
  jr l a g=bj (aw l a j0 i) (aA (qv (ai l j2 i)) (qv (ai l j0 i))) (aw l a j1 k) (aA (qv (ai l j2 k)) (qv (ai l j1 k))):=by
 obtain⟨e0,e1,e2,b0,b1,hk⟩:=h.at;unfold jr bj;rw[ab5 oz,ab6 hk,e0,e1,e2,b0,b1,mJ,mJ];rfl
theorem Fa{i z0 z1:Int}{j0 j:Jt}(h:SlP E l a g 2 i z0 z1 j0 j) :
  jr l a g=dm (aQ (aZ l a j.b j.to) (aZ l a j.b j.on)) (aQ (aZ l a j.b j.to) (aZ l a j.b j.on))*aA (qv (aM l i j.point)) (qv (ai l j0 i))
   - gy (aQ (aZ l a j.b j.to) (aZ l a j.b j.on)) (aQ (aw l a j0 i) (aZ l a j.b j.on))*gy (aQ (aZ l a j.b j.to) (aZ l a j.b j.on)) (aQ (aw l a j0 i) (aZ l a j.b j.on)):=by
 obtain⟨e0,e1,b0,hk⟩:=h.at;unfold jr;rw[ab5 oz,ab5 oz,ab6 hk,e0,e1,b0,mJ]
end
theorem DyOk.ne{E:Nat}{l:Li}{k:Int}{a:As}{own:Bool}{n:Nat}{i k2 z0 z1 z2:Int}(h:DyOk E l k a own n ⟨1,[i,k2],[z0,z1,z2],0⟩):i≠k2:=by
 have hd:=h.dy;generalize hg:(⟨1,[i,k2],[z0,z1,z2],0⟩:Gr)=g at hd;cases hd with
 |drv _ _ _ _=>simp at hg
 |pr _ _ _=>simp at hg
 |rp _ _ _=>simp at hg
 |rrr ne _ _ _ _ _ _=>simp at hg;obtain⟨⟨rfl,rfl⟩,_⟩:=hg;exact ne
structure Bulk{H:Type}(bk:DataW H->Nat)(bka:List (DataW H)->Nat):Prop where
  one:∀d,1<=bk d
  nil:bka []=0
  cons:∀d l,bka (d::l)=bk d+bka l
  slice:∀e s,bka e+1<=bk (.slice e s)
  agg:∀l,bka l<=bk (.agg l)
section
variable{P:aci}{W:acj}{H:Type}{enc:ach×acg->H}{bk:DataW H->Nat}{bka:List (DataW H)->Nat}
theorem Bulk.pick(B:Bulk bk bka){α:Type}{m:α->Nat}:∀{l:List α}{xs:List (DataW H)},l.length<=xs.length->(∀(i:Nat)(a:α),l[i]?=some a->∃x,xs[i]?=some x/\m a<=bk x)->(l.map m).sum<=bka xs
 |[],xs,_,_=>by simp
 |a::l,[],hl,_=>by simp at hl
 |a::l,x::xs,hl,h=>by
  obtain⟨y,hy,h1⟩:=h 0 a rfl;cases hy;have h2:=B.pick (l:=l) (xs:=xs) (by simpa using hl) (fun i b hb=>h (i+1) b hb);rw[B.cons,ab2,List.sum_cons];omega
def uY(P:aci)(W:acj)(enc:ach×acg->H)(bk:DataW H->Nat)(t:ach){α:Type}(f:α->AV)(p:α->Prop)(m:α->Nat):Prop :=
  ∀(sp:Nat->Bool)(fuel:Nat)(cs:List acg)(x:DataW H×List MemPlace),DataW.trod enc P W 0 sp true fuel t cs=some x->(∀n∈x.1.weights P t,n<=reachBytes)->∃a,p a/\nc W cs (f a).cells/\m a<=bk x.1
theorem dL.m{t:ach}{α:Type}{f:α->AV}{p:α->Prop}(h:dL P W enc t f p):uY P W enc bk t f p (fun _=>0):=by
 intro sp fuel cs x hx hw;obtain⟨a,h1,h2⟩:=h sp fuel cs x hx hw;exact⟨a,h1,h2,aa0 _⟩
theorem dL.m1(B:Bulk bk bka){t:ach}{α:Type}{f:α->AV}{p:α->Prop}(h:dL P W enc t f p):uY P W enc bk t f p (fun _=>1):=by
 intro sp fuel cs x hx hw;obtain⟨a,h1,h2⟩:=h sp fuel cs x hx hw;exact⟨a,h1,h2,B.one _⟩
theorem uY.map{α β:Type}{t:ach}{f:α->AV}{p:α->Prop}{m:α->Nat}(h:uY P W enc bk t f p m)(g:α->β)(f':β->AV)(p':β->Prop)(m':β->Nat)(hg:∀a,p a->p' (g a)/\f' (g a)=f a/\m' (g a)<=m a):uY P W enc bk t f' p' m':=by
 intro sp fuel cs x hx hwt;obtain⟨a,ha,hc,hm⟩:=h sp fuel cs x hx hwt;obtain⟨h1,h2,h3⟩:=hg a ha;exact⟨g a,h1,by rw[h2];exact hc,abe h3 hm⟩
end
open Go.Proofs
section
variable{W:acj}{H:Type}{enc:ach×acg->H}
theorem XU:dL prog W enc 354 (fun n:Nat=>u32 n) (fun n=>n<4294967296) :=
 (HC (k:=.u32) Tryz.underlying354).map Int.toNat _ _ (fun n h=>by
  have h1:0<=n/\n<=4294967295:=by simpa[Lit.wf,IntKind.min,IntKind.max,IntKind.signed,IntKind.bits]using h
  have h2:((n.toNat:Nat):Int)=n:=by omega
  exact⟨by omega,by unfold u32;rw[h2]⟩)
theorem JJ:dL prog W enc 104 ws (fun l=>Ws l/\l.length<=281474976710656) :=
 (q6 Tryz.underlying104 (n:=1) (by kernel_rfl) oz (by kernel_rfl) XU (fun _=>rfl)).map id _ _ (fun l h=>⟨⟨fun x hx=>h.1 x hx,h.2⟩,rfl⟩)
theorem Jo:dL prog W enc 4 bl (fun _=>True):=Rv Tryz.underlying4
theorem oE:dL prog W enc 3 i64 (fun _=>True):=(HC (k:=.i64) Tryz.underlying3).map id _ _ (fun n h=>⟨trivial,rfl⟩)
theorem tB:dL prog W enc 9 (fun s:ByteArray=>AV.v (.string s)) (fun s=>s.size<=281474976710656):=Xq Tryz.underlying9
theorem yy:dL prog W enc 106 Rt.av Rt.wok :=
 (oC (n := 3) Tryz.underlying106 (by kernel_rfl)
  (.cons rfl (n:=1) (by kernel_rfl) Jo (fun _=>rfl) (.cons rfl (n:=1) (by kernel_rfl) JJ (fun _=>rfl) (.cons rfl (n:=1) (by kernel_rfl) JJ (fun _=>rfl) (.nil _)))) (fun _=>rfl)).map
  (fun z=>⟨z.1,z.2.1,z.2.2.1⟩) _ _ (fun z h=>⟨⟨h.2.1.1,h.2.2.1.1⟩,rfl⟩)
theorem PH:dL prog W enc 115 Tn.av (fun x=>x.t.wok) :=
 (oC (n := 4) Tryz.underlying115 (by kernel_rfl) (.cons rfl (n := 3) (by kernel_rfl) yy (fun _ => rfl) (.cons rfl (n := 1) (by kernel_rfl) Jo (fun _ => rfl) (.nil _))) (fun _ => rfl)).map
  (fun z=>⟨z.1,z.2.1⟩) _ _ (fun z h=>⟨h.1,rfl⟩)
theorem S3:dL prog W enc 141 Mk.av (fun m=>m.name.size<=281474976710656/\m.x.wok/\m.y.wok) :=
 (oC (n := 7) Tryz.underlying141 (by kernel_rfl)
  (.cons rfl (n:=1) (by kernel_rfl) tB (fun _=>rfl) (.cons rfl (n:=3) (by kernel_rfl) yy (fun _=>rfl) (.cons rfl (n:=3) (by kernel_rfl) yy (fun _=>rfl) (.nil _)))) (fun _=>rfl)).map
  (fun z=>⟨z.1,z.2.1,z.2.2.1⟩) _ _ (fun z h=>⟨⟨h.1,h.2.1,h.2.2.1⟩,rfl⟩)
theorem VA:dL prog W enc 139 Bd.av (fun b=>b.name.size<=281474976710656/\b.pts.length<=281474976710656/\∀m∈b.pts,m.name.size<=281474976710656/\m.x.wok/\m.y.wok) :=
 (oC (n := 2) Tryz.underlying139 (by kernel_rfl)
  (.cons rfl (n:=1) (by kernel_rfl) tB (fun _=>rfl) (.cons rfl (n:=1) (by kernel_rfl) (q6 Tryz.underlying137 (n:=7) (by kernel_rfl) oz (by kernel_rfl) S3 (fun _=>rfl)) (fun _=>rfl) (.nil _))) (fun _=>rfl)).map
  (fun z=>⟨z.1,z.2.1⟩) _ _ (fun z h=>⟨⟨h.1,h.2.1.2,h.2.1.1⟩,rfl⟩)
theorem Ts:dL prog W enc 135 Jt.av (fun j=>j.name.size<=281474976710656) :=
 (oC (n := 7) Tryz.underlying135 (by kernel_rfl)
  (.cons rfl (n := 1) (by kernel_rfl) tB (fun _ => rfl) (.cons rfl (n := 1) (by kernel_rfl) oE (fun _ => rfl) (.cons rfl (n := 1) (by kernel_rfl) oE (fun _ => rfl) (.cons rfl (n := 1) (by kernel_rfl) oE (fun _ => rfl)
   (.cons rfl (n:=1) (by kernel_rfl) oE (fun _=>rfl) (.cons rfl (n:=1) (by kernel_rfl) oE (fun _=>rfl) (.cons rfl (n:=1) (by kernel_rfl) oE (fun _=>rfl) (.nil _)))))))) (fun _=>rfl)).map
  (fun z=>⟨z.1,z.2.1,z.2.2.1,z.2.2.2.1,z.2.2.2.2.1,z.2.2.2.2.2.1,z.2.2.2.2.2.2.1⟩) _ _ (fun z h=>⟨h.1,rfl⟩)
theorem VW:dL prog W enc 151 Dr.av (fun d=>d.name.size<=281474976710656) :=
 (oC (n := 2) Tryz.underlying151 (by kernel_rfl) (.cons rfl (n := 1) (by kernel_rfl) tB (fun _ => rfl) (.cons rfl (n := 1) (by kernel_rfl) oE (fun _ => rfl) (.nil _))) (fun _ => rfl)).map
  (fun z=>⟨z.1,z.2.1⟩) _ _ (fun z h=>⟨h.1,rfl⟩)
abbrev V5(l:Li):List AV:=[.v (.string l.name),.lst 2 (l.bo.map Bd.av),.lst 7 (l.jo.map Jt.av),.lst 2 (l.dv.map Dr.av)]
theorem P8:dL prog W enc 26 (fun l:Li=>.agg (V5 l)) Li.okw :=
 (oC (n := 4) Tryz.underlying26 (by kernel_rfl)
  (.cons rfl (n := 1) (by kernel_rfl) tB (fun _ => rfl)
   (.cons rfl (n := 1) (by kernel_rfl) (q6 Tryz.underlying22 (n := 2) (by kernel_rfl) oz (by kernel_rfl) VA (fun _ => rfl)) (fun _ => rfl)
    (.cons rfl (n := 1) (by kernel_rfl) (q6 Tryz.underlying23 (n := 7) (by kernel_rfl) oz (by kernel_rfl) Ts (fun _ => rfl)) (fun _ => rfl)
     (.cons rfl (n:=1) (by kernel_rfl) (q6 Tryz.underlying24 (n:=2) (by kernel_rfl) oz (by kernel_rfl) VW (fun _=>rfl)) (fun _=>rfl) (.nil _))))) (fun _=>rfl)).map
  (fun z=>⟨z.1,z.2.1,z.2.2.1,z.2.2.2.1⟩) _ _ (fun z h=>⟨⟨h.1,h.2.1.1,h.2.2.1.1,h.2.2.2.1.1,h.2.1.2,h.2.2.1.2,h.2.2.2.1.2⟩,rfl⟩)
theorem TV:dL prog W enc 38 (fun l:List Tn=>.lst 4 (l.map Tn.av)) (fun l=>(∀x∈l,x.t.wok)/\l.length<=281474976710656) :=
 q6 Tryz.underlying38 (n:=4) (by kernel_rfl) oz (by kernel_rfl) PH (fun _=>rfl)
end
open Go.Proofs Go.Proofs.YtokaoegjfpjjnaaGreat
open Go.ChangeShapes Go.WideShapes Go.ChangeAt Go.RowKit
theorem own:ownKnob prog.godebug=none:=by kernel_rfl
theorem EE:laidOutB prog=true:=by kernel_rfl
theorem TG:prog.stopsHeard=true:=by kernel_rfl
theorem Xm:prog.plainKeys=true:=by kernel_rfl
theorem L6:mapsRowed prog=true:=by kernel_rfl
theorem U9:prog.mayEnter=true:=by kernel_rfl
theorem UX:prog.liftsFinal=false:=by kernel_rfl
theorem RC{v:acg}(h:∀cs,v≠.agg cs):v.cells=#[v]:=by
 cases v <;> first |rfl |exact acc rfl (h _)
theorem SC{P:aci}{W:acj}{r:Reach}{b0:Nat}{t e:ach}{v:acg}(ht:P.underlying t=some (.slice e))(hval:Value.okWide P W r b0 t v):v.cells=#[v]:=by
 refine RC (fun cs h=>?_);subst h;unfold Value.okWide at hval;rw[ht]at hval;unfold Cell.okWide at hval;rw[ht]at hval;unfold Cell.ok at hval;rw[ht]at hval;exact hval
theorem HH{H:Type}{enc:ach×acg->H}{W W':acj}{t:ach}{v:acg}{d:DataW H}{ps:List MemPlace}{sp':Nat->Bool}(hr:prog.readableRec t=true)(ht:t<prog.types.size)
  (h:DataW.Trod enc prog W 0 (fun _=>true) true t v d ps) (hb:Below W.heap.size W W') (hlt:∀x∈ps,x.block<W.heap.size) (hs:∀p∈ps,sp' p.block=true):DataW.Trod enc prog W' 0 sp' true t v d ps :=
 WideElems.Trod_stays EE hr ht h (fun x hx=>hb.same (hlt x hx)) hs
end Go.Lw
namespace Go.Lw
open Go.Proofs
theorem EK(m:List Nat)(hm:Ws m)(hl:m.length<=fO):FP 305 [ws m] (bl (!decide (m=[])&&(⟨false,m⟩:Wh).valid)):=by
 refine aj func305 ?_;refine gl ?_;refine cJ ?_;refine oD (fun h=>(j7 (by simp[aa]at h;omega) (by unfold fO at hl;unfold bc;exact abe hl oz))) ?_;refine nk (fun h=>(cz (i:=m.length-1) (by simp[aa]at h;omega))) ?_;refine ah ?_
 by_cases h:m=[]
 ·subst h;rfl
 ·have h1:0 < m.length:=Zr.2 h;have h2:aa .gtr (m.length:Int) 0 = true:=by simp [aa,h1]
  simp only[bl,h,decide_false,Bool.not_false,Bool.true_and,Wh.valid,Zd,jK (show m.length-1<m.length by omega),aa];congr 2;generalize ak m _=x;rw[Z3];simp[h1]
theorem Cg:FP 142 [] (zA 1):=by
 refine aj func142 ?_;refine gc (EC 1 oz) ?_;refine ah ?_
 first |rfl |(simp;done)
theorem xc(r:Rt)(h:r.ok):FP 177 [r.av] (bl r.valid):=by
 have hr:=h;have hn:=h.n0;have hd:=h.d0;have hl1:r.num.length<=137438953472:=h.2.2.1;have hl2:r.den.length<=137438953472:=h.2.2.2;refine aj func177 ?_;refine gl ?_;refine cJ ?_;refine gC (fun t12=>?_) (fun t12=>?_)
 ·have h0 : r.num = [] /\ r.den = [] := by simpa [aa] using t12
  refine ah ?_;unfold Rt.valid;rw[ab6 h0];rfl
 have h0:¬(r.num=[]/\r.den=[]):=by
  have:=t12;simp[aa]at this;exact fun h=>this h.1 h.2
 refine gc (EK r.num hr.1 hr.2.2.1) ?_;refine b8 (fun _=>(EK r.den hr.2.1 hr.2.2.2)) ?_;refine b8 (fun _=>(FQ r.n0 r.d0 hn hd (by show r.num.length+r.den.length<_;unfold aK;omega))) ?_;refine b8 (fun _=>Cg) ?_;refine b8 (fun _=>(OM (Rt.gcd_zs hr) xn)) ?_;refine ah ?_;exact acd bl (Ug h0).symm
theorem rN(r:Rt)(h:r.ok):FP 284 [r.av] (.tup [zA r.q.num,zA r.q.den]):=by
 have hl1:r.num.length<=137438953472:=h.2.2.1;have hl2:r.den.length<=137438953472:=h.2.2.2;refine aj func284 ?_;refine gc (xc r h) ?_;refine cJ ?_;refine gC (fun t12=>?_) (fun t12=>?_)
 ·have h0:¬(r.valid=true/\r.num≠[]):=by
   have:=t12;intro h';simp[aa,h'.1,h'.2]at this
  refine gc Cg ?_;refine gR ?_;exact dS (by rw[Rt.zero h0];exact Sub.tup (.cons I3 (.cons (.refl _) .nil)))
 have h0:r.valid=true/\r.num≠[]:=by
  have:=t12;cases hv:r.valid
  ·rw[hv]at this;cases this
  ·rw[hv]at this;exact⟨rfl,by simpa[aa]using this⟩
 obtain⟨e1,e2,e3,e4,e5,e6⟩:=Rt.parts h h0.1 h0.2;refine gD ?_;refine bt ?_;rw[e1,e2];exact Fb e3 e4 e5
theorem xi{n d:Int}(hn:Zs n)(hd:Zs d)(h0:d≠0):FP 140 [zA n,zA d] (qA (ZP n d)):=by
 refine aj func140 ?_;refine gc (yr hn) ?_;refine gC (fun z=>?_) (fun z=>?_)
 ·have e0 : n=0 := ZL.1 (by simpa[aa]using z);refine gR ?_;exact lc (by rw[e0,Rat.zero_divInt];exact kf)
 have e0:n≠0:=fun h=>by rw[h]at z;cases z
 refine gc (yr hd) ?_;refine AN [2,3,4] [4] (fun(n1 d1:Int)=>[]) (fun n1 d1=>[pP 2 (.box (zA n1).cells),pP 3 (.box (zA d1).cells)]) (fun n1 d1=>0<d1/\n1≠0/\Zs n1/\Zs d1/\ZP n1 d1=ZP n d) ?_ ?_
 ·intro K1 J1;refine gC (fun t18=>?_) (fun t18=>?_)
  ·have e1 : d<0 := ZG.1 (by have := ZN d;have h9 : d.sign<0 := (by simpa[aa]using t18);omega);refine gc (z5 hn) ?_;refine gc (z5 hd) ?_;refine gD ?_;exact rG J1 (-n) (-d) ⟨by omega,by omega,hn.neg,hd.neg,JW n d⟩
  have e1:0<d:=by
   have h9:0<=d.sign:=by simpa[aa]using t18
   have:=ZE.1 h9;omega
  exact rG J1 n d ⟨e1,e0,hn,hd,rfl⟩
 rintro n1 d1 ⟨f1,f2,f3,f4,f5⟩;have g2:Zs (ZH n1 d1:Int):=f3.of_le (by rw[abo];exact Nat.le_of_dvd oz (Int.gcd_dvd_natAbs_left _ _));have g3:(ZH n1 d1:Int)≠0:=by have:=Int.gcd_pos_of_ne_zero_left d1 f2;omega
 refine gc (OY f3 f4) ?_;refine gc (Fp f3 g2 g3) ?_;refine gc (Fp f4 g2 g3) ?_;refine ah ?_;rw[<- f5,<- RS f1 f2];rfl
theorem KE(n:Int)(h:-9223372036854775808<=n/\n<=9223372036854775807):FP 53 [i64 n] (qA n):=by
 have hz:Zs n:=⟨2,by omega,by unfold Lz;simp only[Nat.reducePow];omega⟩
 refine aj func53 ?_;refine gc (EC n h) ?_;refine gc Cg ?_;refine gc (xi hz xn oz) ?_;refine ah ?_;exact acd qA (ZU (n:Rat))
theorem DO(a:Rt)(ha:a.ok):FP 288 [a.av] (qA (-a.q)):=by
 have za:=ha.qs;refine aj func288 ?_;refine gc (rN a ha) ?_;refine gc (z5 za.num) ?_;refine gc (xi za.num.neg za.den (by have:=a.q.den_nz;omega)) ?_;refine gD ?_;refine ah ?_;rw[Kv];rfl
theorem It(a:Rt)(ha:a.ok):FP 156 [a.av] (i64 (bV a.q)):=by
 refine aj func156 ?_;refine gc (rN a ha) ?_;refine gc (yr ha.qs.num) ?_;refine ah ?_;rw[E4]
theorem Fi(a b:Rt)(ha:a.ok)(hb:b.ok):FP 157 [a.av,b.av] (qA (a.q+b.q)):=by
 have za:=ha.qs;have zb:=hb.qs;have m1:=za.mul zb;have m2:=zb.mul za;refine aj func157 ?_;refine gc (rN a ha) ?_;refine gc (rN b hb) ?_;refine gc (uV za.num zb.den) ?_;refine gc (uV zb.num za.den) ?_;refine gc (PJ m1.1 m2.1) ?_;refine gc (uV za.den zb.den) ?_;refine gc (xi (za.cross zb) m1.2.2.1 (ZC (by have:=a.q.den_nz;omega) (by have:=b.q.den_nz;omega))) ?_;refine gD ?_;refine ah ?_;rw[Ak];rfl
theorem VU(a b:Rt)(ha:a.ok)(hb:b.ok):FP 160 [a.av,b.av] (qA (a.q-b.q)):=by
 refine aj func160 ?_;refine gc (DO b hb) ?_;refine gc (Fi a (rt (-b.q)) ha hb.qs.neg.ok) ?_;refine gD ?_;refine ah ?_;rw[cc,<- ZR];rfl
theorem Xi(a b:Rt)(ha:a.ok)(hb:b.ok):FP 158 [a.av,b.av] (qA (a.q*b.q)):=by
 have za:=ha.qs;have zb:=hb.qs;have m1:=za.mul zb;refine aj func158 ?_;refine gc (rN a ha) ?_;refine gc (rN b hb) ?_;refine gc (uV za.num zb.num) ?_;refine gc (uV za.den zb.den) ?_;refine gc (xi m1.2.1 m1.2.2.1 (ZC (by have:=a.q.den_nz;omega) (by have:=b.q.den_nz;omega))) ?_;refine gD ?_;refine ah ?_;rw[Bx];rfl
theorem Es(a b:Rt)(ha:a.ok)(hb:b.ok)(hs:Qs (a.q-b.q)):FP 293 [a.av,b.av] (i64 (bV (a.q-b.q))):=by
 refine aj func293 ?_;refine gc (VU a b ha hb) ?_;refine gc (It (rt (a.q-b.q)) hs.ok) ?_;refine ah ?_;rw[cc]
end Go.Lw
