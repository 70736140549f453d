/- DyadComplete: for anything drawn and any group the law returns true and leaves its arguments as they were. No other condition. Part 4 of 8: what the later parts need -/
import Derived.Test.YtpdiojikejnehaaGreatYc
import Derived.Test.YtpdiojikejnehaaGreatRows
set_option linter.unusedVariables false
open List (mem_of_getElem? mem_cons_of_mem mem_append map_cons mem_cons length_cons mem_cons_self length_append length_nil getD_eq_getElem?_getD getElem?_eq_none all_eq_true getElem?_take getElem?_map getElem?_eq_getElem drop_eq_nil_of_le nil_append map_append length_take take_of_length_le drop_zero take_length not_mem_nil length_map drop_drop map_take length_replicate map_replicate map_set length_set)
open Nat (le_refl lt_of_lt_of_le lt_or_ge le_trans mul_le_mul_right mul_le_mul_left zero_le pow_add lt_of_le_of_lt)
open Option (map_eq_some_iff)
open Bool (and_eq_true or_eq_true)
open Int (toNat_natCast natAbs_natCast)
open Go.Proofs.Tryz
namespace Go.Lw
open Go.Proofs
theorem Cz(a b:List Nat)(ha:Ws a)(hb:Ws b)(na:Nz a)(nb:Nz b)(hb0:b≠[])(la:a.length<aD)(lb:b.length<aD) :
  FP 367 [ws a,ws b] (.tup [ws (ofNat (val a/val b)),ws (ofNat (val a%val b))]):=by
 have la':=la;unfold aD at la lb;refine aj func367 ?_;refine gc (yI a b ha hb na nb) ?_;refine gC (fun t22=>?_) (fun t22=>?_)
 ·have h1:val a<val b:=by
   simp only[ac]at t22;split at t22
   ·assumption
   ·split at t22 <;> simp at t22
  refine gc (mc a ha oz) ?_;refine gR ?_;exact KH (by rw[Nat.div_eq_of_lt h1];exact Sub.nil _ _ _) (by rw[Nat.mod_eq_of_lt h1];exact Sub.refl _)
 have h1:val b<=val a:=by
  simp only[ac]at t22;split at t22
  ·simp at t22
  ·omega
 refine gl ?_;refine gC (fun t27=>?_) (fun t27=>?_)
 ·have hl : b.length = 1 := by have := t27; simp [ac] at this; omega
  obtain⟨x,rfl⟩:∃x,b=[x]:=List.length_eq_one_iff.1 hl;have hx:x≠0:=nb x rfl;have hxB:x<4294967296:=hb x (by simp);have hv:val [x]=x:=by simp[val]
  have hm:=Nat.mod_lt (val a) (show 0<x by omega);refine gi (show _=some (u32 x)from rfl) ?_;refine gc (Kd a x ha oz oz hxB) ?_;refine gc (mc [val a%x] (r6 oz) (by simp[aD])) ?_;refine bF ?_;rw[hv];simp[val]
 have hl:b.length≠1:=by have:=t27;simp[ac]at this;omega
 obtain⟨n,hn⟩:∃n,b.length=n+2:=⟨b.length-2,by have:=List.length_pos_iff.2 hb0;omega⟩
 obtain⟨sh,v,hsh,hsh2,hv,wv,lv,vv,hvt,htop,hlo⟩:=Uo hb nb hn
 have hab:b.length<=a.length:=by
  rcases lt_or_ge a.length b.length with h2 |h2
  ·have:=tL ha nb h2;omega
  ·exact h2
 obtain⟨lq,hlq⟩:∃lq,a.length+1=lq+(n+2):=⟨a.length+1-(n+2),by omega⟩
 have hbt:=bW hb (n+1);refine gl ?_;refine ga (show _=((n+1:Nat):Int) by rw[dT oz];omega) ?_;refine gi (f6 (n:=n+1) oz (by first |omega |(simp;omega))) ?_;refine gc (show iM _ _ _ (i64 (sh:Nat)) by rw[hsh];exact O6 _ hbt) ?_;refine gt (aJ (Cl 900 rfl b sh hb (by unfold aD;omega) hsh2) (bO rfl rfl) aM rfl rfl) ?_;refine gl ?_;refine gs (we (.tmp rfl) (.none _) (.some _ (.tmp rfl) oz) T43 rfl T350 rfl oz oz rfl) ?_;refine gt (aJ (Cl 901 rfl a sh ha (by unfold aD;omega) hsh2) (bO rfl rfl) aM rfl rfl) ?_;refine gD ?_ (8,0);refine gW ((Wk.freeze (k:=900) rfl).trans<|Wk.of (sl:=[(0,some (ws a)),(1,some (ws b)),(8,some (i64 sh)),(9,some (ws v)),(10,some (.ms 901 1 0 (a.length+1)))]) (hp:=[(901,some (.row 1 ((bq (a.length+1) (2^sh*val a)).map u32)))]) (.k (.k (.k (.cons rfl (Sub.of (M0 hn hv)) (.k .nil))))) (.k .nil)) ?_;refine gl ?_;refine ga (show _=(lq:Int) by rw[lv,dT oz];omega) ?_;refine gs (it (.tmp rfl) T43 rfl T350 rfl rfl oz (by dsimp only;omega) rfl) ?_;refine gl ?_;refine ga (show _=((n+1:Nat):Int) by rw[lv,dT oz];omega) ?_;refine gi (f6 (n:=n+1) oz (by first |omega |(simp;omega))) ?_;refine gv (u64_in (by have:=bW wv (n+1);omega)) ?_;refine gl ?_;refine ga (show _=(n:Int) by rw[lv,dT oz];omega) ?_;refine gi (f6 (n:=n) oz (by first |omega |(simp;omega))) ?_;refine gv (u64_in (by have:=bW wv n;omega)) ?_;refine gD ?_;refine ga (dT oz) ?_;refine i9 [8,9,12,13] [] (fun(q u:List Nat)(j:Nat)=>[(10,some (.ms 901 1 0 (a.length+1))),(11,some (.ms 61 1 0 lq)),(14,some (i64 ((j:Int)-1)))]) (fun q u _=>[(901,some (.row 1 (u.map u32))),(61,some (.row 1 (q.map u32)))]) (fun q u j=>q.length=lq/\u.length=a.length+1/\Ws q/\Ws u/\j<=lq/\val (u.drop j)<val v/\2^sh*val a=val v*(4294967296^j*val (q.drop j))+val u) (fun _ _ j=>j) (List.replicate lq 0) (bq (a.length+1) (2^sh*val a)) lq ⟨by simp,fj _ _,k8 _,kl _ _,le_refl _,by rw[vv];exact(EE ha hsh2 hlq hlo).2,by rw[(EE ha hsh2 hlq hlo).1];simp[val]⟩ ?_ (h2:=(.k (.cons rfl (BlkSub.of (by rw[map_replicate];rfl)) .nil)))
 rintro q u j ⟨hql,hul,wq,wu,hj,hlt,hU⟩ K1 J1;refine gC (fun t80=>?_) (fun t80=>?_) (st2:=(23,0))
 ·have hj0 : 1 <= j := by have := t80; simp [ac] at this; omega
  obtain⟨k,rfl⟩:∃k,j=k+1:=⟨j-1,by omega⟩
  obtain⟨W,hW⟩:∃W,W=val (bC u k (n+3)):=⟨_,rfl⟩
  have hVl:val v<4294967296^(n+2):=by have:=cc v wv;rwa [lv]at this
  obtain⟨e1,e2,e3⟩:=LZ (u:=u) (q:=q) (k:=k) (lv:=n+2) wu oz oz hVl hlt hU;simp only[show n+2+1=n+3 from rfl]at e1 e2 e3;have hdig:=Mq wv (mJ wu k (n+3)) lv (ol oz) hvt e1;rw[<- hW]at e1 e2 e3 hdig;have wp:=mJ wu k (n+3);have b1:=bW wp n;have b2:=bW wp (n+1);have b3:=bW wp (n+2);have b4:=hdig.htop;have b5:=hdig.htopB;have b6:=hdig.hnext;obtain⟨top,htop'⟩:∃top,top=am v (n+1):=⟨_,rfl⟩
  obtain⟨nx,hnx⟩:∃nx,nx=am v n:=⟨_,rfl⟩
  obtain⟨hd,hhd⟩:∃hd,hd=am (bC u k (n+3)) (n+2)*4294967296+am (bC u k (n+3)) (n+1):=⟨_,rfl⟩
  obtain⟨th,hth⟩:∃th,th=am (bC u k (n+3)) n:=⟨_,rfl⟩
  rw[<- htop',<- hnx,<- hhd,<- hth]at hdig;rw[<- htop']at b4 b5 ⊢;rw[<- hnx]at b6 ⊢;rw[<- hth]at b1;have hdB:hd<18446744073709551616:=by omega
  refine gl ?_;refine ga (show _=((k+n+2:Nat):Int) by rw[lv,c9 oz];omega) ?_;refine ga (show _=((k+n+3:Nat):Int) by rw[c9 oz];omega) ?_;refine gs (we (.tmp rfl) (.some _ (.tmp rfl) oz) (.some _ (.tmp rfl) oz) T43 rfl T350 rfl oz oz rfl) ?_ (14,0);refine gW (Wk.of (sl:=[(8,some (i64 sh)),(9,some (ws v)),(10,some (.ms 901 1 0 (a.length+1))),(11,some (.ms 61 1 0 lq)),(12,some (u64 top)),(13,some (u64 nx)),(14,some (i64 k)),(15,some (.ms 901 1 k (n+3)))]) (hp:=[(901,some (.row 1 (u.map u32))),(61,some (.row 1 (q.map u32)))]) (.k (.k (.k (.k (.k (.k (.cons rfl (Sub.int oz) (.cons rfl (Sub.of (by congr 1 <;> omega)) .nil)))))))) (.k (.k .nil))) ?_
  refine gl ?_;refine gs (mt (n:=n+2) (.tmp rfl) (.tmp rfl) T43 rfl T350 rfl oz oz rfl) ?_;refine gs (d8 (.tmp rfl) rfl (AP (n:=n+3) (i:=n+2) oz oz) T350 rfl rfl rfl) ?_;refine gv (u64_in oz) ?_;refine gs (gG (.tmp rfl) (.const _) oz (q8 (n:=32) oz oz) rfl) ?_;refine gl ?_;refine ga (show _=((n+1:Nat):Int) by rw[lv,dT oz];omega) ?_;refine gs (mt (n:=n+1) (.tmp rfl) (.tmp rfl) T43 rfl T350 rfl oz oz rfl) ?_;refine gs (d8 (.tmp rfl) rfl (AP (n:=n+3) (i:=n+1) oz oz) T350 rfl rfl rfl) ?_;refine gv (u64_in oz) ?_;refine gs (jk (.tmp rfl) (.tmp rfl) rfl ((tO oz oz).trans (show _=(hd:Int) by rw[rH oz,hhd])) rfl) ?_;refine gD ?_;refine gs (eW (.tmp rfl) (.tmp rfl) oz (Ih hdB) rfl) ?_;refine gs (tN (.tmp rfl) (.tmp rfl) oz Dq rfl) ?_;refine gD ?_;refine hO [8,9,12,13,14] [901,61] (fun(g r:Nat)=>[(10,some (.ms 901 1 0 (a.length+1))),(11,some (.ms 61 1 0 lq)),(15,some (.ms 901 1 k (n+3))),(17,some (u64 g)),(18,some (u64 r))]) (fun _ _=>[]) (fun g r=>W/val v<=g/\g*top+r=hd/\g<18446744073709551616/\r<8589934592) (fun g _=>g) (hd/top) (hd%top) ⟨hdig.first,by rw[Nat.mul_comm];exact Nat.div_add_mod _ _,by have:=Nat.div_le_self hd top;omega,by have:=Nat.mod_lt hd (show 0<top by omega);omega⟩ ?_
  rintro g r ⟨hg,hgr,hgB,hrB⟩ K2 J2;refine oa (fun⟨h,h2⟩=>(wR (by simp[ac]at h2;have:=uA (x:=g) (y:=nx) oz b6;omega))) ?_;refine gs (pP rfl rfl rfl (fun h h2=>gG (.opt rfl (o2 h h2)) (.const _) oz (q8 (n:=32) oz (by simp[ac]at h;omega)) rfl)) ?_;refine cO ?_;refine oa (fun _=>(show _=(n:Int) by rw[lv,dT oz];omega)) ?_;refine gs (pP rfl rfl rfl (fun h h2=>mt (n:=n) (.opt rfl (o2 h h2)) (.opt rfl (o2 h h2)) T43 rfl T350 rfl oz oz rfl)) ?_;refine gs (pP rfl rfl rfl (fun h h2=>d8 (.opt rfl (o2 h h2)) rfl (AP (n:=n+3) (i:=n) oz oz) T350 rfl rfl rfl)) ?_;refine Jy (fun _=>(u64_in oz)) ?_;refine gs (pP rfl rfl rfl (fun h h2=>jk (.opt rfl (o2 h h2)) (.opt rfl (o2 h h2)) rfl ((tO (by simp[ac]at h;omega) oz).trans (by rw[rH oz])) rfl)) ?_;refine gC (fun t133=>?_) (fun t133=>?_)
  ·have hc:r<4294967296/\(4294967296<=g\/r*4294967296+th<g*nx):=by
    rw[hth];have h9:=It.1 t133
    rwa [show r*2^32=r*4294967296 from rfl]at h9
   have hg1:=hdig.step hg hgr hc.2;have hg0:1<=g:=Nat.succ_le_of_lt (lt_of_le_of_lt (zero_le _) hg1);refine ga (FD oz oz) ?_;refine ga (iU oz) ?_;exact gT J2 (g-1) (r+top) ⟨Nat.le_sub_one_of_lt hg1,by rw[Nat.sub_mul];have:=mul_le_mul_right top (show 1<=g by omega);omega,by omega,by omega⟩
  have hc:¬(r<4294967296/\(4294967296<=g\/r*4294967296+th<g*nx)):=by
   rw[hth];intro hh;rw[show r*4294967296=r*2^32 from rfl]at hh;exact Bool.eq_false_iff.1 t133 (It.2 hh)
  obtain⟨hgB2,hgq⟩:=hdig.last hgr hc;have hVp:=hdig.vpos;have hWl:val (bC u k (n+3))<4294967296^(n+3):=by have:=cc _ wp;rwa [ol oz]at this
  obtain⟨p1,p2⟩:=Vg hVp (show val v<=4294967296^(n+3) by have:=Nat.pow_le_pow_right (show 0<4294967296 by omega) (show n+2<=n+3 by omega);omega) (hW▸hWl) hg hgq;have hwul:k+(n+3)<=u.length:=by omega
  have hwr:(wr u k (bq (n+3) (kg g (val v) W (n+3)))).length=a.length+1:=by rw[lW (by rw[fj];omega),hul]
  refine gt (aJ (Con.rk 901 rfl rfl (Py u v k (n+3) g wu wv oz hwul hgB2 (by unfold a9;omega))) (aL rfl rfl rfl) aM rfl rfl) ?_;refine gC (fun t142=>?_) (fun t142=>?_)
  ·have hlt2 : W < g * val v := by rw [hW]; simpa using t142
   obtain⟨q1,q2,q3⟩:=p1 hlt2;have hrl:kg g (val v) W (n+3)<4294967296^(n+3):=by unfold kg;rw[if_neg oz];rw[<- hW]at hWl;omega
   refine ga (FD oz oz) ?_;refine gt (aJ (Con.rk 901 rfl rfl (Tk (wr u k (bq (n+3) (kg g (val v) (val (bC u k (n+3))) (n+3)))) v k (n+3) (q5 wu (kl _ _)) wv oz (by rw[<- hW,hwr];omega) (by rw[<- hW,hwr];unfold a9;omega))) (bO rfl rfl) aM rfl rfl) ?_;refine gv ((dJ _).trans (by rw[Nat.mod_eq_of_lt oz])) ?_;refine gs (b8 (n:=k) (.tmp rfl) (.tmp rfl) T43 rfl T350 rfl oz oz rfl) ?_;refine gs (dF (.tmp rfl) rfl (cz (i:=k) oz) rfl (.tmp rfl) rfl rfl T350 rfl rfl) ?_;refine ga (dT oz) ?_;exact ia J1 (q.set k (W/val v)) (wr u k (bq (n+3) (W%val v))) k ⟨by simp[hql],by rw[lW (by rw[fj];omega),hul],f0 wq hdig.q_lt,q5 wu (kl _ _),by omega,e2,e3⟩ (hw:=Wk.of bj (.cons rfl (BlkSub.of (by rw[<- hW];first |(rw[q1];done) |(rw[BO (r:=W%val v) hwul (fj _ _) (by rw[lD _ _ hrl];exact q1)];done))) (.cons rfl (BlkSub.of (by rw[map_set,q2];rfl)) .nil)))
  have hlt2:¬W<g*val v:=by rw[hW];simpa using t142
  obtain⟨q1,q2⟩:=p2 hlt2;refine gv ((dJ _).trans (by rw[Nat.mod_eq_of_lt oz])) ?_;refine gs (b8 (n:=k) (.tmp rfl) (.tmp rfl) T43 rfl T350 rfl oz oz rfl) ?_;refine gs (dF (.tmp rfl) rfl (cz (i:=k) oz) rfl (.tmp rfl) rfl rfl T350 rfl rfl) ?_;refine ga (dT oz) ?_;exact ia J1 (q.set k (W/val v)) (wr u k (bq (n+3) (W%val v))) k ⟨by simp[hql],by rw[lW (by rw[fj];omega),hul],f0 wq hdig.q_lt,q5 wu (kl _ _),by omega,e2,e3⟩ (hw:=Wk.of bj (.cons rfl (BlkSub.of (by rw[<- hW];first |(rw[q1];done) |(rw[BO (r:=W%val v) hwul (fj _ _) (by rw[lD _ _ hrl];exact q1)];done))) (.cons rfl (BlkSub.of (by rw[map_set,q2];rfl)) .nil)))
 have hj0:j=0:=by have:=t80;simp[ac]at this;omega
 subst hj0;have hU':2^sh*val a=2^sh*val b*val q+val u:=by rw[<- vv];simpa using hU
 obtain⟨hQ,hR⟩:=TF hU' (by rw[<- vv];simpa using hlt);refine gW ((Wk.freeze (k:=61) rfl).trans<|(Wk.freeze (k:=901) rfl).trans<|Wk.of (sl:=[(8,some (i64 sh)),(10,some (ws u)),(11,some (ws q))]) (hp:=[]) (.k (.cons rfl (Sub.of (cw (by simp[hul]))) (.cons rfl (Sub.of (by rw[show AV.fz 61 1 (q.map u32) (.ms 61 1 0 lq)=ws q from cw (by simp[hql])];rfl)) .nil))) .nil) ?_;refine gc (mc q wq (by unfold aD;omega)) ?_;refine gc (SM u sh wu (by unfold aD;omega) hsh2) ?_;refine bF ?_;rw[<- hQ,<- hR]
theorem vg{b:Bool}{n:Nat}:(cond b (ac .gtr ((ofNat n).length:Int) 0) false)=true↔(b=true/\0<n):=by
 have h:ac .gtr ((ofNat n).length:Int) 0=true↔0<n:=by
  simp only[ac,decide_eq_true_eq];constructor
  ·intro h;rcases Nat.eq_zero_or_pos n with h1 |h1;(subst h1;simp[M8]at h);exact h1
  ·intro h;have:ofNat n ≠ []:=by intro h1; have:=ci n; rw [h1] at this; simp [val] at this; omega
   have:=List.length_pos_iff.2 this;omega
 cases b with
 |false=>simp
 |true=>exact⟨fun h1=>⟨rfl,h.1 h1⟩,fun h1=>h.2 h1.2⟩
theorem yU(a:Wh)(ha:a.ok):FP 306 [a.av] (i64 a.z.sign):=by
 obtain⟨e1,e2,e3⟩:=GN ha;refine aj func306 ?_;refine gc (jZ a ha) ?_;refine gl ?_;refine gC (fun t3=>?_) (fun t3=>?_)
 ·have h0 : a.m.length = 0 := by simpa [ac] using t3
  refine af ?_;rw[e1 h0];rfl
 have h0:a.m.length≠0:=by simpa[ac]using t3
 refine gC (fun t8=>?_) (fun t8=>?_)
 ·refine af ?_;rw[e2 h0 t8];rfl
 refine af ?_;rw[e3 h0 t8];rfl
theorem MA(a b:Wh)(ha:a.ok)(hb:b.ok):FP 304 [a.av,b.av] (i64 (gq a.z b.z)):=by
 refine aj func304 ?_;refine gc (yU a ha) ?_;refine gc (yU b hb) ?_;refine gD ?_;refine gC (fun t14=>?_) (fun t14=>?_)
 ·have h0 : a.z.sign ≠ b.z.sign := by simpa [ac] using t14
  obtain⟨e1,e2⟩:=RI h0;refine gC (fun t17=>?_) (fun t17=>?_)
  ·have h1 : a.z.sign < b.z.sign := by simpa [ac] using t17
   refine af ?_;rw[e1 h1];rfl
  have h1:¬a.z.sign<b.z.sign:=by simpa[ac]using t17
  refine af ?_;rw[e2 h1];rfl
 have h0:a.z.sign=b.z.sign:=by simpa[ac]using t14
 have e1:=JG h0;refine gc (jZ a ha) ?_;refine gc (jZ b hb) ?_;refine gc (yI a.m b.m (Wh.ws ha) (Wh.ws hb) a.nz b.nz) ?_;refine gD ?_;refine gc (iS a ha) ?_;refine gC (fun t24=>?_) (fun t24=>?_)
 ·rw[t24,if_pos rfl]at e1;refine gs (Ag (.tmp rfl) rfl) ?_;refine af ?_;rw[e1];split
  ·rfl
  ·split <;> rfl
 rw[t24,if_neg Bool.false_ne_true]at e1;refine af ?_
 first |(rw[e1];done) |(rw[e1];rfl)
theorem Va(a:Wh)(ha:a.ok)(la:a.mag.length<aD):FP 234 [a.av] (zA (-a.z)):=by
 refine aj func234 ?_;refine gc (iS a ha) ?_;refine gc (jZ a ha) ?_;refine gc (jY _ a.m (Wh.ws ha) (Nat.le_of_lt (Wh.small ha la))) ?_;refine gD ?_;refine af ?_;rw[Wh.z_eq,<- F2];rfl
theorem OS(a b:Wh)(ha:a.ok)(hb:b.ok)(la:a.mag.length+b.mag.length<=aD):FP 321 [a.av,b.av] (zA (a.z*b.z)):=by
 have h1:=Wh.m_le (w:=a);have h2:=Wh.m_le (w:=b);have h3:(ofNat (val a.m*val b.m)).length<=a.m.length+b.m.length:=fc (by rw[pow_add];exact Nat.mul_lt_mul'' (cc _ (Wh.ws ha)) (cc _ (Wh.ws hb)));refine aj func321 ?_;refine gc (iS a ha) ?_;refine gc (iS b hb) ?_;refine gc (jZ a ha) ?_;refine gc (jZ b hb) ?_;refine gc (So a.m b.m (Wh.ws ha) (Wh.ws hb) oz) ?_;refine gc (jY _ _ (dp _) oz) ?_;refine gD ?_;refine af ?_;rw[ci,GA];rfl
theorem Ng(a b:Wh)(ha:a.ok)(hb:b.ok)(la:a.mag.length<aD)(lb:b.mag.length<aD):FP 320 [a.av,b.av] (zA (a.z+b.z)):=by
 have h1:=Wh.m_le (w:=a);have h2:=Wh.m_le (w:=b);have hla:val a.m<4294967296^(max a.m.length b.m.length):=lt_of_lt_of_le (cc _ (Wh.ws ha)) (Nat.pow_le_pow_right oz oz);have hlb:val b.m<4294967296^(max a.m.length b.m.length):=lt_of_lt_of_le (cc _ (Wh.ws hb)) (Nat.pow_le_pow_right oz oz);have h3:(ofNat (val a.m+val b.m)).length<=max a.m.length b.m.length+1:=fc (by rw[Nat.pow_succ];omega);have h4:(ofNat (val a.m-val b.m)).length<=max a.m.length b.m.length:=fc oz;have h5:(ofNat (val b.m-val a.m)).length<=max a.m.length b.m.length:=fc oz;refine aj func320 ?_;refine gc (jZ a ha) ?_;refine gc (jZ b hb) ?_;refine gD ?_;refine gc (iS a ha) ?_;refine gc (iS b hb) ?_;refine gD ?_;refine gC (fun t11=>?_) (fun t11=>?_)
 ·have h0 : a.n = b.n := by simpa using t11
  refine gc (iS a ha) ?_;refine gc (GP a.m b.m (Wh.ws ha) (Wh.ws hb) oz oz) ?_;refine gc (jY _ _ (dp _) oz) ?_;refine af ?_;rw[ci,CT h0];rfl
 have h0:a.n≠b.n:=by simpa using t11
 refine gc (yI a.m b.m (Wh.ws ha) (Wh.ws hb) a.nz b.nz) ?_;refine gC (fun t23=>?_) (fun t23=>?_)
 ·have h6:val b.m<=val a.m:=by
   rcases lt_or_ge (val a.m) (val b.m)with h |h
   ·rw[if_pos h]at t23;cases t23
   ·exact h
  refine gc (iS a ha) ?_;refine gc (yw a.m b.m (Wh.ws ha) (Wh.ws hb) oz (by rcases lt_or_ge a.m.length b.m.length with h |h;(have:=tL (Wh.ws ha) b.nz h;omega);exact h) h6) ?_;refine gc (jY _ _ (dp _) oz) ?_;refine af ?_;rw[ci,Bw h0 h6];rfl
 have h6:val a.m<val b.m:=by
  rcases lt_or_ge (val a.m) (val b.m)with h |h
  ·exact h
  ·rw[if_neg oz]at t23;split at t23 <;> cases t23
 refine gc (iS b hb) ?_;refine gc (yw b.m a.m (Wh.ws hb) (Wh.ws ha) oz (by rcases lt_or_ge b.m.length a.m.length with h |h;(have:=tL (Wh.ws hb) a.nz h;omega);exact h) oz) ?_;refine gc (jY _ _ (dp _) oz) ?_;refine af ?_;rw[ci,Fl h0 oz];rfl
theorem Gj(a b:Wh)(ha:a.ok)(hb:b.ok)(la:a.mag.length<aD)(lb:b.mag.length<aD):FP 305 [a.av,b.av] (zA (Int.gcd a.z b.z)):=by
 refine aj func305 ?_;refine gc (jZ a ha) ?_;refine gc (jZ b hb) ?_;refine gD ?_;refine hO [4] [4] (fun(x y:List Nat)=>[(5,some (ws x)),(6,some (ws y))]) (fun _ _=>[]) (fun x y=>Ws x/\Ws y/\Nz x/\Nz y/\x.length<aD/\y.length<aD/\Nat.gcd (val x) (val y)=Int.gcd a.z b.z) (fun _ y=>val y) a.m b.m ⟨Wh.ws ha,Wh.ws hb,a.nz,b.nz,Wh.small ha la,Wh.small hb lb,by rw[Int.gcd,Wh.abs,Wh.abs]⟩ ?_;rintro x y ⟨wx,wy,nx,ny,lx,ly,hg⟩ K1 J1;refine gl ?_;refine gC (fun t15=>?_) (fun t15=>?_)
 ·have hy : y ≠ [] := by intro h; subst h; simp [ac] at t15
  have hy0:=oW ny hy;have hm:=Nat.mod_lt (val x) hy0;refine gc (Cz x y wx wy nx ny hy lx ly) ?_;exact gT J1 y (ofNat (val x%val y)) ⟨wy,dp _,ny,p8 _,ly,lt_of_le_of_lt (fc (Nat.lt_trans hm (cc y wy))) ly,by rw[ci,<- hg,Nat.gcd_comm (val x) (val y),Nat.gcd_comm (val y) (val x%val y)];exact(Nat.gcd_rec _ _).symm⟩ (by show val (ofNat _)<val y;rw[ci];exact hm)
 have hy:y=[]:=by
  cases y with
  |nil=>rfl
  |cons c l=>simp[ac]at t15
 subst hy;have hg':val x=Int.gcd a.z b.z:=by rw[<- hg];simp[val]
 refine gc (jY false x wx (Nat.le_of_lt lx)) ?_;refine af ?_;rw[hg'];rfl
theorem PL(a b:Wh)(ha:a.ok)(hb:b.ok)(la:a.mag.length+1<aD)(lb:b.mag.length<aD)(h0:b.z≠0):FP 322 [a.av,b.av] (.tup [zA (a.z/b.z),zA (a.z%b.z),.v .nilIface]):=by
 have hm1:=Wh.m_le (w:=a);have hm2:=Wh.m_le (w:=b);have hb1:val b.m≠0:=by have:=Wh.abs (w:=b);omega
 have hb2:b.m≠[]:=fun h=>hb1 (by rw[h];rfl)
 have hl1:(ofNat (val a.m/val b.m)).length<=a.m.length:=fc (lt_of_le_of_lt (Nat.div_le_self _ _) (cc _ (Wh.ws ha)));have hmod:=Nat.mod_lt (val a.m) (show 0<val b.m by omega);have hl2:(ofNat (val a.m%val b.m)).length<=b.m.length:=fc (Nat.lt_trans hmod (cc _ (Wh.ws hb)));have hl3:(ofNat (val a.m/val b.m+1)).length<=a.m.length+1:=fc (by have h7:=lt_of_le_of_lt (Nat.div_le_self (val a.m) (val b.m)) (cc _ (Wh.ws ha));rw[Nat.pow_succ];generalize val a.m/val b.m=m at *;omega);have hl4:(ofNat (val b.m-val a.m%val b.m)).length<=b.m.length:=fc (by have:=cc _ (Wh.ws hb);omega);have hv1:val [1]=1:=rfl;refine aj func322 ?_;refine gc (jZ b hb) ?_;refine gl ?_;refine gC (fun t14=>?_) (fun t14=>?_) (st1:=(3,0));exact absurd (List.length_eq_zero_iff.1 (by simpa[ac]using t14)) hb2;refine gc (jZ a ha) ?_;refine gc (Cz a.m b.m (Wh.ws ha) (Wh.ws hb) a.nz b.nz hb2 oz oz) ?_;refine gc (iS a ha) ?_;refine cO ?_;refine gC (fun t31=>?_) (fun t31=>?_)
 ·have h1:a.n = true /\ 0 < val a.m % val b.m:=vg.1 t31;obtain ⟨e1,e2⟩:=FW hb1 h1.1 h1.2;refine gc (GP (ofNat (val a.m / val b.m)) [1] (dp _) (r6 oz) oz (by unfold aD; simp)) ?_;refine gc (yw b.m (ofNat (val a.m % val b.m)) (Wh.ws hb) (dp _) oz hl2 (by rw [ci]; omega)) ?_ (7,0);refine gW (Wk.of (sl:=[(2,some (.ptr 2 0)),(3,some (.ptr 3 0)),(4,some (.ptr 4 0)),(5,some (.ptr 5 0)),(8,some (ws (ofNat (val a.m / val b.m + 1)))),(9,some (ws (ofNat (val b.m - val a.m % val b.m))))]) (hp:=[(2,some (.box [bl a.neg,ws a.mag])),(3,some (.box [bl b.neg,ws b.mag])),(4,some (.box [.v (.bool false),nS])),(5,some (.box [.v (.bool false),nS]))]) (.k (.k (.k (.k (.cons rfl (Sub.of (by rw [ci,hv1])) (.cons rfl (Sub.of (by rw [ci])) .nil)))))) (.k (.k (.k (.k .nil))))) ?_
  refine gc (iS a ha) ?_;refine gc (iS b hb) ?_;refine gc (by apply jY _ _ (dp _) oz) ?_;refine gc (by apply jY _ _ (dp _) oz) ?_;refine gD ?_;refine gR ?_;exact sZ (by rw[ci,ci,e1,show sgn false _=_ from e2];rfl)
 have h1:¬(a.n=true/\0<val a.m%val b.m):=fun h=>Bool.eq_false_iff.1 t31 (vg.2 h)
 obtain⟨e1,e2⟩:=DT hb1 h1;refine gc (iS a ha) ?_;refine gc (iS b hb) ?_;refine gc (by apply jY _ _ (dp _) oz) ?_;refine gc (by apply jY _ _ (dp _) oz) ?_;refine gD ?_;refine gR ?_;exact sZ (by rw[ci,ci,e1,show sgn false _=_ from e2];rfl)
theorem uR{N:Nat}(h:N<18446744073709551616):val [N%4294967296,N/2^32]=N:=by
 simp only[val];omega
theorem w7{N:Nat}(h:N<18446744073709551616):Ws [N%4294967296,N/2^32]:=by
 intro x hx;simp only[mem_cons,not_mem_nil,or_false]at hx;rcases hx with rfl |rfl <;> omega
theorem C3(n:Int)(h:-9223372036854775808<=n/\n<=9223372036854775807):FP 257 [i64 n] (zA n):=by
 obtain⟨N,hN⟩:∃N,N=n.natAbs:=⟨_,rfl⟩
 have hNB:N<18446744073709551616:=by omega
 refine aj func257 ?_;refine gv (show IntKind.u64.wrap n=((n%18446744073709551616:Int)) by simp only[IntKind.wrap,IntKind.signed,IntKind.bits,Bool.false_and,if_false,Bool.false_eq_true];omega) ?_;refine gC (fun t7=>?_) (fun t7=>?_) (st2:=(77777,0))
 ·have hn : n < 0 := by simpa [ac] using t7
  refine gs (Ag (.tmp rfl) rfl) ?_ (4,0);refine gW (Wk.of (sl:=[(0,some (i64 n)),(2,some (.ptr 2 0)),(3,some (u64 N))]) (hp:=[(2,some (.box [.v (.bool false),nS]))]) (.k (.k (.cons rfl (Sub.int (by simp only[IntKind.wrap,IntKind.signed,IntKind.bits,Bool.false_and,if_false,Bool.false_eq_true];omega)) .nil))) (.k .nil)) ?_;refine gv (dJ _) ?_;refine gs (eQ (.tmp rfl) (.const _) oz (f8 _ 32 oz) rfl) ?_;refine gv ((dJ _).trans (by rw[Nat.mod_eq_of_lt (show N/2^32<4294967296 by omega)])) ?_;refine gc (jY (ac .lss n 0) [N%4294967296,N/2^32] (w7 hNB) (by unfold aD;simp)) ?_;refine af ?_;rw[uR hNB,show sgn (ac .lss n 0) N=n by simp only[sgn,ac,decide_eq_true_eq];split <;> omega];rfl
 have hn:¬n<0:=by simpa[ac]using t7
 refine gW (Wk.of (sl:=[(0,some (i64 n)),(2,some (.ptr 2 0)),(3,some (u64 N))]) (hp:=[(2,some (.box [.v (.bool false),nS]))]) (.k (.k (.cons rfl (Sub.int oz) .nil))) (.k .nil)) ?_;refine gv (dJ _) ?_;refine gs (eQ (.tmp rfl) (.const _) oz (f8 _ 32 oz) rfl) ?_;refine gv ((dJ _).trans (by rw[Nat.mod_eq_of_lt (show N/2^32<4294967296 by omega)])) ?_;refine gc (jY (ac .lss n 0) [N%4294967296,N/2^32] (w7 hNB) (by unfold aD;simp)) ?_;refine af ?_;rw[uR hNB,show sgn (ac .lss n 0) N=n by simp only[sgn,ac,decide_eq_true_eq];split <;> omega];rfl
theorem yR:∀(j k v:Nat),j<=k->(bq k v).take j=bq j v
 |0,_,_,_=>by simp[bq]
 |j+1,0,_,h=>by omega
 |j+1,k+1,v,h=>by
  rw[bq,bq,List.take_succ_cons,yR j k _ oz]
theorem Ez{m:List Nat}(h:Ws m):(ofNat (val m)).length<=m.length:=fc (cc m h)
theorem GR{m:List Nat}(h:Ws m):m.take (ofNat (val m)).length=ofNat (val m):=by
 have h1:=ua m h;have h2:=ua (ofNat (val m)) (dp _);rw[ci]at h2;have h3:=yR _ _ (val m) (Ez h);rw[<- h1,<- h2]at h3;exact h3
theorem F5{m:List Nat}{n:Nat}(h:Ws m)(hn:n<=m.length)(hv:val (m.take n)=val m)(h0:n=0\/am m (n-1)≠0):n=(ofNat (val m)).length:=by
 have h1:m.take n=ofNat (val m):=by
  refine Iw (fQ h n) ?_ hv;intro x hx;rcases h0 with h0 |h0
  ·subst h0;simp at hx
  ·have hn0 : n ≠ 0 := by intro h3; subst h3; simp at hx
   rw[List.getLast?_eq_getElem?,length_take,Nat.min_eq_left hn,getElem?_take,if_pos oz,jM oz]at hx;cases hx;exact h0
 rw[<- h1,length_take,Nat.min_eq_left hn]
theorem yt(l:List Nat)(i:Nat):val l=val (l.take i)+4294967296^i*val (l.drop i):=by
 rcases lt_or_ge i l.length with h |h
 ·exact Bj oz
 ·rw[eZ h,drop_eq_nil_of_le h];simp[val]
theorem tF(l:List Nat)(i:Nat):val (l.drop i)=am l i+4294967296*val (l.drop (i+1)):=by
 rcases lt_or_ge i l.length with h |h
 ·exact pO h
 ·rw[pM h,drop_eq_nil_of_le h,drop_eq_nil_of_le oz];rfl
theorem Dn{a b:List Nat}{i:Nat}(ha:Ws a)(he:val (a.drop (i+1))=val (b.drop (i+1)))(hx:am a i<am b i):val a<val b:=by
 rw[yt a (i+1),yt b (i+1),he];have:=EQ ha hx;omega
theorem NZ{xs ys:List AV}(hl:xs.length=ys.length)(h1:∀(j:Nat)(y:AV),ys[j]?=some y->y.one=true)(h:∀(j:Nat)(x y:AV),xs[j]?=some x->ys[j]?=some y->Sub x y):Sub (.agg xs) (.agg ys):=by
 intro g S m v hr;cases hr with
 |agg hn h2 hr =>
  refine .agg (hn.trans hl) h1 ?_;intro j u c hu hc
  have hj:j<xs.length:=by
   rw[hl];rcases lt_or_ge j ys.length with h |h
   ·exact h
   ·rw[getElem?_eq_none h]at hc;cases hc
  exact h j _ c (getElem?_eq_getElem hj) hc _ _ _ _ (hr j u _ hu (getElem?_eq_getElem hj))
theorem I1:Sub (.agg [.v (.bool false),.v (.slice none 0 0)]) (zA 0):=by
 show Sub (.agg [.v (.bool false),.v (.slice none 0 0)]) (.agg [bl false,ws []]);refine NZ rfl ?_ ?_
 ·intro j y hy
  match j,hy with
  |0,hy=>cases hy;rfl
  |1,hy=>cases hy;rfl
 ·intro j x y hx hy
  match j,hx,hy with
  |0,hx,hy=>cases hx;cases hy;exact Sub.refl _
  |1,hx,hy=>cases hx;cases hy;exact Sub.nil _ _ _
theorem GL{out:List Nat}{i x:Nat}(h:out.length=i):val (out++[x])=val out+4294967296^i*x:=by
 rw[qr,h];simp[val]
theorem IN{o c P x y u w:Nat}(hu:u<4294967296)(hw:w<4294967296)(hc:c<=1)(h:o+y=x+c*P) :
  (o+P*((4294967296+u-w-c)%4294967296))+(y+P*w)=(x+P*u)+(1-(4294967296+u-w-c)/2^32)*(P*4294967296):=by
 have h0:(4294967296+u-w-c)%4294967296+w+c=u+(1-(4294967296+u-w-c)/2^32)*4294967296:=by omega
 generalize(1-(4294967296+u-w-c)/2^32)=q at *;generalize(4294967296+u-w-c)%4294967296=r at *;grind
theorem EG{a b out:List Nat}{c:Nat}(ha:Ws a)(hw:Ws out)(ho:out.length=a.length)(hle:val b<=val a)
  (h:val out+val (b.take a.length)=val (a.take a.length)+c*4294967296^a.length):val out=val a-val b:=by
 have hb:=yt b a.length;have h2:=cc a ha
 have h3:val (b.drop a.length)=0:=by
  rcases Nat.eq_zero_or_pos (val (b.drop a.length))with h4 |h4
  ·exact h4
  ·have:=mul_le_mul_left (4294967296^a.length) h4;omega
 rw[h3,Nat.mul_zero,Nat.add_zero]at hb;rw[<- hb,take_length]at h;have h1:=cc out hw;rw[ho]at h1;cases c with
 |zero=>omega
 |succ c=>rw[Nat.succ_mul]at h;omega
theorem DJ{z:Int}{k:Nat}(h:Lz k z)(hk:k<=a9):(ofInt z).ok:=⟨dp _,le_trans h.len hk⟩
theorem DK{z:Int}{k:Nat}(h:Lz k z):(ofInt z).mag.length<=k:=h.len
theorem Js(x y:Int):(x-y).sign=gq x y:=by
 unfold gq;have h:=zE (x-y)
 (repeat' split) <;> omega
theorem lr(m:List Nat)(i:Nat)(hm:Ws m):FP 375 [ws m,i64 i] (u64 (am m i)):=by
 refine aj func375 ?_;refine gl ?_;refine gC (fun t8=>?_) (fun t8=>?_)
 ·simp[ac]at t8;have:=bW hm i;refine gi (cz (i:=i) t8) ?_;refine gv (u64_in oz) ?_;refine af ?_;rfl
 simp[ac]at t8;refine af ?_;simp[u64,pM t8]
theorem CQ(w:Wh)(h:w.ok):FP 368 [w.av] (bl w.valid):=by
 have hl:w.mag.length<=a9:=h.2;refine aj func368 ?_;refine gl ?_;refine gC (fun t6=>?_) (fun t6=>?_)
 ·have h0 : w.mag = [] := by simpa [ac] using t6
  refine af ?_;simp[bl,Wh.valid,h0]
 have h0:w.mag.length≠0:=by simpa[ac]using t6
 refine gl ?_;refine ga (jH oz oz) ?_;refine gi (cz (i:=w.mag.length-1) oz) ?_;refine af ?_;have h1:w.mag≠[]:=fun h=>h0 (by rw[h];rfl)
 simp only[bl,Wh.valid,if_neg h1,List.getLast?_eq_getElem?,jM (show w.mag.length-1<w.mag.length by omega),ac];congr 2;generalize am w.mag _=x;rw[Bool.eq_iff_iff];simp
theorem kO(w:Wh)(h:w.ok):FP 312 [w.av] (ws w.m):=by
 refine aj func312 ?_;refine gc (CQ w h) ?_;refine gC (fun t5=>?_) (fun t5=>?_)
 ·have h0 : w.valid = false := by simpa [ac] using t5
  refine gR ?_;exact iF (by rw[show w.m=[] by simp[Wh.m,h0]];exact Sub.nil _ _ _)
 have h0:w.valid=true:=by simpa[ac]using t5
 refine af ?_;simp only[Wh.m,h0];rfl
theorem iT(w:Wh)(h:w.ok):FP 313 [w.av] (bl w.n):=by
 refine aj func313 ?_;refine gc (CQ w h) ?_;refine af ?_;simp only[Wh.n,bl];cases w.valid <;> rfl
theorem z7(d:Nat)(hd:Nat.blt d 1000=true)(m:List Nat)(hm:Ws m)(hb:m.length<=aD) :
  Con prog 362 [ws m] [] (.ms d 1 0 (ofNat (val m)).length) [(d,some (.row 1 (m.map u32)))]:=by
 have hb':=hb;unfold aD at hb;refine gF func362 (fun k z h=>by cases h) ?_;refine gs (kE T43 rfl T350 rfl rfl rfl) ?_;refine gs (da (.tmp rfl) rfl rfl (.tmp rfl) T43 rfl T350 rfl rfl (by simp only[length_map];omega) rfl rfl) ?_;refine a5 [] [6] (fun(n:Nat)=>[(3,some (.ms 6 1 0 n))]) (fun _=>[]) (fun n=>n<=m.length/\val (m.take n)=val m) (fun n=>n) m.length ⟨le_refl _,by rw[take_length]⟩ ?_ (h1:=(.cons rfl (Sub.of (by rw[length_map,Nat.zero_add])) .nil));rintro n ⟨hn,hv⟩ K1 J1;refine oa (fun h=>(jH (by simp[ac]at h;omega) (by unfold a9;omega))) ?_;refine gs (eK rfl rfl rfl (fun h=>b8 (n:=n-1) (.opt rfl (o1 h)) (.opt rfl (o1 h)) T43 rfl T350 rfl oz (by simp[ac]at h;omega) rfl)) ?_;refine gs (eK rfl rfl rfl (fun h=>d8 (.opt rfl (o1 h)) rfl (cz (i:=n-1) (by simp[ac]at h;omega)) T350 rfl rfl rfl)) ?_;refine gC (fun t18=>?_) (fun t18=>?_)
 ·have t18 : 0 < n /\ am m (n - 1) = 0 := by simpa [ac] using t18
  refine ga (jH oz (by unfold a9;omega)) ?_;refine gs (we (.tmp rfl) (.none _) (.some _ (.tmp rfl) oz) T43 rfl T350 rfl oz oz rfl) ?_;exact aT J1 (n-1) ⟨by omega,by have h:=@dk m (n-1);rw[show n-1+1=n by omega,t18.2]at h;simp at h;omega⟩ (hw:=Wk.of (.cons rfl (Sub.of (by congr 1)) .nil) (.k .nil))
 have t18:0<n->am m (n-1)≠0:=by simpa[ac]using t18
 have hn1:=F5 hm hn hv (by rcases Nat.eq_zero_or_pos n with h |h;(exact .inl h);exact .inr (t18 h));subst hn1;refine gR ?_;exact aH.own1 rfl hd rfl
theorem pI(m:List Nat)(hm:Ws m)(hb:m.length<=aD):FP 362 [ws m] (ws (ofNat (val m))):=by
 have h:=Con.freeze (by rw[length_map,Nat.zero_add];exact Ez hm) (z7 0 rfl m hm hb)
 rwa [drop_zero,<- map_take,GR hm]at h
theorem km(b:Bool)(m:List Nat)(hm:Ws m)(hb:m.length<=aD):FP 295 [bl b,ws m] (zA (sgn b (val m))):=by
 refine aj func295 ?_;refine gc (pI m hm hb) ?_;refine gl ?_;refine gC (fun t9=>?_) (fun t9=>?_)
 ·have h0:val m=0:=by
   have:=ci (val m);have h9:ofNat (val m)=[]:=List.length_eq_zero_iff.1 (by simpa[ac]using t9);rw[h9]at this;exact this.symm
  refine gR ?_;exact iF (by rw[h0,show sgn b 0=0 by cases b <;> rfl];exact I1)
 have h0:val m≠0:=by
  intro h;rw[h]at t9;cases t9
 refine af ?_
 rw[show zA (sgn b (val m))=.agg [bl b,ws (ofNat (val m))] by
  unfold zA ofInt Wh.av;rw[show(sgn b (val m)).natAbs=val m by unfold sgn;split <;> omega,show decide (sgn b (val m)<0)=b by cases b <;> simp[sgn] <;> omega]]
theorem zj(a b:List Nat)(ha:Ws a)(hb:Ws b):FP 335 [ws a,ws b] (i64 (if val a<val b then -1 else if val b<val a then 1 else 0)):=by
 refine aj func335 ?_ (0,0);refine sO (t:=0) rfl (fun hla=>?_);refine sO (t:=1) rfl (fun hlb=>?_);unfold a9 at hla hlb;refine go ?_;refine gl ?_;refine gl ?_;refine gs (pc (.tmp rfl) (.tmp rfl) rfl) ?_;refine ga (dT oz) ?_;refine a5 [0,1] [] (fun(n:Nat)=>[(5,some (i64 ((n:Int)-1)))]) (fun _=>[]) (fun n=>n<=281474976710656/\val (a.drop n)=val (b.drop n)) (fun n=>n) (max a.length b.length) ⟨by omega,by rw[drop_eq_nil_of_le oz,drop_eq_nil_of_le oz]⟩ ?_ (h1:=(.cons rfl (Sub.int oz) .nil));rintro n ⟨hn,hd⟩ K1 J1;refine gC (fun t13=>?_) (fun t13=>?_)
 ·have hn0 : 1 <= n := by have := t13; simp [ac] at this; omega
  obtain⟨k,rfl⟩:∃k,n=k+1:=⟨n-1,by omega⟩
  have hk:((k+1:Nat):Int)-1=(k:Int):=by omega
  rw[hk];refine gc (lr a k ha) ?_;refine gc (lr b k hb) ?_;refine gC (fun t22=>?_) (fun t22=>?_)
  ·have h3 : am a k ≠ am b k := by simpa [ac, Int.ofNat_inj] using t22
   refine gc (lr a k ha) ?_;refine gc (lr b k hb) ?_;refine gC (fun t29=>?_) (fun t29=>?_)
   ·have h4 : am a k < am b k := by simpa [ac] using t29
    have h5:=Dn ha hd h4;refine af ?_;simp[i64,h5]
   have h4:am b k<am a k:=by have:am b k<=am a k:=(by simpa[ac]using t29);omega
   have h5:=Dn hb hd.symm h4;refine af ?_;simp[i64,h5,Nat.lt_asymm h5]
  have h3:am a k=am b k:=by simpa[ac,Int.ofNat_inj]using t22
  refine ga (dT oz) ?_;exact aT J1 k ⟨by omega,by rw[tF a,tF b,hd,h3]⟩
 have hn0:n=0:=by have:=t13;simp[ac]at this;omega
 subst hn0;refine af ?_;simp at hd;simp[i64,hd]
theorem yq(a b:List Nat)(ha:Ws a)(hb:Ws b)(la:a.length<aD)(lb:b.length<aD):FP 334 [ws a,ws b] (ws (ofNat (val a+val b))):=by
 unfold aD at la lb;obtain⟨n,hn⟩:∃n,n=max a.length b.length+1:=⟨_,rfl⟩
 refine aj func334 ?_;refine gl ?_;refine gl ?_;refine gs (pc (.tmp rfl) (.tmp rfl) rfl) ?_;refine ga (show _=(n:Int) by rw[c9 oz];omega) ?_;refine gW (Wk.virt 900 1 rfl) ?_;refine i9 [0,1,14] [] (fun(out:List Nat)(c i:Nat)=>[(5,some (.ms 900 1 0 i)),(6,some (u64 c)),(15,some (i64 i))]) (fun out _ _=>[(900,some (.row 1 (out.map u32)))]) (fun out c i=>out.length=i/\i<=n/\Ws out/\c<=1/\val out+c*4294967296^i=val (a.take i)+val (b.take i)) (fun _ _ i=>n-i) ([]) 0 0 ⟨rfl,by omega,oe,by omega,by simp[val]⟩ ?_;rintro out c i ⟨ho,hi,hw,hc,hv⟩ K1 J1;refine gC (fun t16=>?_) (fun t16=>?_) (st2:=(9,0))
 ·have hin : i < n := by simpa [ac] using t16
  have h1:=bW ha i;have h2:=bW hb i;obtain⟨s,hs⟩:∃s,s=c+(am a i+am b i):=⟨_,rfl⟩
  have h3:=z9 (u:=am a i) (w:=am b i) hv;rw[<- hs]at h3;refine gc (by apply lr <;> assumption) ?_;refine gc (by apply lr <;> assumption) ?_;refine ga (iU oz) ?_;refine ga ((iU oz).trans (show _=(s:Int) by congr 1;omega)) ?_;refine gv (dJ _) ?_;refine gs (da (.tmp rfl) rfl (by rw[length_map,ho]) (.tmp rfl) T43 rfl T350 rfl rfl (by simp;omega) rfl rfl) ?_;refine gs (eQ (.tmp rfl) (.const _) oz (f8 _ 32 oz) rfl) ?_ (8,0);refine gW (Wk.of (sl:=[(0,some (ws a)),(1,some (ws b)),(5,some (.ms 31 1 0 (i+1))),(6,some (u64 (s/2^32))),(14,some (i64 n)),(15,some (i64 i))]) (hp:=[(31,some (.row 1 ((out++[s%4294967296]).map u32)))]) bj (.cons rfl (BlkSub.of (by rw[map_append];rfl)) .nil)) ?_ (8,0);refine gW (Wk.rk (k:=31) (d:=900) rfl rfl) ?_;refine ga (c9 oz) ?_;exact ia J1 (out++[s%4294967296]) (s/2^32) (i+1) ⟨by simp[ho],by omega,wL hw (r6 oz),by omega,by rw[GL ho,dk,dk,Nat.pow_succ];exact h3⟩
 have hin:i=n:=by have:n<=i:=(by simpa[ac]using t16);omega
 refine gW ((Wk.freeze (k:=900) rfl).trans<|Wk.of (sl:=[(5,some (ws out))]) (hp:=[]) (.cons rfl (Sub.of (cw (by simp[ho]))) .nil) .nil) ?_;refine gc (pI out hw (by unfold aD;omega)) ?_;refine af ?_;subst hin;rw[Gs ha hb hn ho (by rw[eZ (l:=out) oz];exact hv)]
theorem A5(a b:List Nat)(ha:Ws a)(hb:Ws b)(la:a.length<aD)(hle:val b<=val a):FP 336 [ws a,ws b] (ws (ofNat (val a-val b))):=by
 unfold aD at la;obtain⟨n,hn⟩:∃n,n=a.length:=⟨_,rfl⟩
 refine aj func336 ?_;refine gl ?_;refine gW (Wk.virt 900 1 rfl) ?_;refine i9 [0,1] [] (fun(out:List Nat)(c i:Nat)=>[(5,some (.ms 900 1 0 i)),(6,some (u64 c)),(10,some (i64 n)),(11,some (i64 i))]) (fun out _ _=>[(900,some (.row 1 (out.map u32)))]) (fun out c i=>out.length=i/\i<=n/\Ws out/\c<=1/\val out+val (b.take i)=val (a.take i)+c*4294967296^i) (fun _ _ i=>n-i) ([]) 0 0 ⟨rfl,by omega,oe,by omega,by simp[val]⟩ ?_ (h1:=(.k (.k (.cons rfl (Sub.int (by rw[hn])) (.k .nil)))))
 rintro out c i ⟨ho,hi,hw,hc,hv⟩ K1 J1;refine gC (fun t12=>?_) (fun t12=>?_) (st2:=(9,0))
 ·have hin : i < n := by simpa [ac] using t12
  have h1:=bW ha i;have h2:=bW hb i;obtain⟨s,hs⟩:∃s,s=4294967296+am a i-am b i-c:=⟨_,rfl⟩
  have h3:=IN h1 h2 hc hv;rw[<- hs]at h3;refine gc (by apply lr <;> assumption) ?_;refine ga ((iU (x:=4294967296) oz)) ?_;refine gc (by apply lr <;> assumption) ?_;refine ga ((kM oz oz).trans (by rw[if_pos oz])) ?_;refine ga ((kM oz oz).trans (show _=(s:Int) by rw[if_pos oz];congr 1;omega)) ?_;refine gv (dJ _) ?_;refine gs (da (.tmp rfl) rfl (by rw[length_map,ho]) (.tmp rfl) T43 rfl T350 rfl rfl (by simp;omega) rfl rfl) ?_;refine gs (eQ (.tmp rfl) (.const _) oz (f8 _ 32 oz) rfl) ?_;refine ga ((kM (x:=1) oz oz).trans (by rw[if_pos oz])) ?_ (8,0);refine gW (Wk.of (sl:=[(0,some (ws a)),(1,some (ws b)),(5,some (.ms 28 1 0 (i+1))),(6,some (u64 (1-s/2^32:Nat))),(10,some (i64 n)),(11,some (i64 i))]) (hp:=[(28,some (.row 1 ((out++[s%4294967296]).map u32)))]) bj (.cons rfl (BlkSub.of (by rw[map_append];rfl)) .nil)) ?_ (8,0);refine gW (Wk.rk (k:=28) (d:=900) rfl rfl) ?_;refine ga (c9 oz) ?_;exact ia J1 (out++[s%4294967296]) (1-s/2^32) (i+1) ⟨by simp[ho],by omega,wL hw (r6 oz),by omega,by rw[GL ho,dk,dk,Nat.pow_succ];exact h3⟩
 have hin:i=n:=by have:n<=i:=(by simpa[ac]using t12);omega
 refine gW ((Wk.freeze (k:=900) rfl).trans<|Wk.of (sl:=[(5,some (ws out))]) (hp:=[]) (.cons rfl (Sub.of (cw (by simp[ho]))) .nil) .nil) ?_;refine gc (pI out hw (by unfold aD;omega)) ?_;refine af ?_;subst hin;subst hn;rw[EG ha hw ho hle hv]
theorem Mj(a b:List Nat)(ha:Ws a)(hb:Ws b)(la:a.length+b.length<=aD):FP 337 [ws a,ws b] (ws (ofNat (val a*val b))):=by
 have la':=la;unfold aD at la;refine aj func337 ?_;refine gl ?_;refine gl ?_;refine ga (jK (by unfold a9;omega) (by unfold a9;omega)) ?_;refine gs (it (.tmp rfl) T43 rfl T350 rfl rfl oz (by dsimp only;omega) rfl) ?_;refine gl ?_;refine hO [0,1,17] [] (fun(out:List Nat)(i:Nat)=>[(5,some (.ms 15 1 0 (a.length+b.length))),(18,some (i64 i))]) (fun out _=>[(15,some (.row 1 (out.map u32)))]) (fun out i=>out.length=a.length+b.length/\i<=a.length/\Ws out/\val (out.take (i+b.length))=val (a.take i)*val b) (fun _ i=>a.length-i) (List.replicate (a.length+b.length) 0) 0 ⟨by simp,by omega,k8 _,by simp[val,uO]⟩ ?_ (h2:=(.cons rfl (BlkSub.of (by rw[map_replicate];rfl)) .nil))
 rintro out i ⟨ho,hi,hw,hv⟩ K1 J1;refine gC (fun t19=>?_) (fun t19=>?_) (st2:=(14,0))
 ·have hin : i < a.length := by simpa [ac] using t19
  have h1:=bW ha i;refine gl ?_;refine i9 [0,1,17,18,6,22] [] (fun(o:List Nat)(c k:Nat)=>[(5,some (.ms 15 1 0 (a.length+b.length))),(7,some (u64 c)),(23,some (i64 k))]) (fun o _ _=>[(15,some (.row 1 (o.map u32)))]) (fun o c k=>o.length=a.length+b.length/\k<=b.length/\Ws o/\c<4294967296/\val (o.take (i+b.length))+c*4294967296^(i+k)=val (out.take (i+b.length))+4294967296^i*(am a i*val (b.take k))) (fun _ _ k=>b.length-k) out 0 0 ⟨ho,by omega,hw,by omega,by simp[val]⟩ ?_
  rintro o c k ⟨ho2,hk,hw2,hc,hv2⟩ K2 J2;refine gC (fun t24=>?_) (fun t24=>?_)
  ·have hkn : k < b.length := by simpa [ac] using t24
   have h2:=bW hb k;have h3:=bW hw2 (i+k);have h4:=uA h1 h2;obtain⟨s,hs⟩:∃s,s=c+(am a i*am b k+am o (i+k)):=⟨_,rfl⟩
   have h5:=GQ (x:=s%4294967296) (show i+k<o.length by omega) (show i+k<i+b.length by omega);have h6:=Gp h5 hs hv2;refine gi (f6 (n:=i) oz (by first |omega |(simp;omega))) ?_;refine gv (u64_in oz) ?_;refine gi (f6 (n:=k) oz (by first |omega |(simp;omega))) ?_;refine gv (u64_in oz) ?_;refine ga (wR oz) ?_;refine ga (jK (by unfold a9;omega) (by unfold a9;omega)) ?_;refine gs (b8 (n:=i+k) (.tmp rfl) (.tmp rfl) T43 rfl T350 rfl oz (by first |omega |(simp;omega)) rfl) ?_;refine gs (d8 (.tmp rfl) rfl (cz (i:=i+k) oz) T350 rfl rfl rfl) ?_;refine gv (u64_in oz) ?_;refine ga (iU oz) ?_;refine ga ((iU oz).trans (show _=(s:Int) by congr 1;omega)) ?_;refine gD ?_;refine ga (jK (by unfold a9;omega) (by unfold a9;omega)) ?_;refine gv (dJ _) ?_;refine gs (eQ (.tmp rfl) (.const _) oz (f8 _ 32 oz) rfl) ?_;refine gs (b8 (n:=i+k) (.tmp rfl) (.tmp rfl) T43 rfl T350 rfl oz (by first |omega |(simp;omega)) rfl) ?_;refine gs (dF (.tmp rfl) rfl (cz (i:=i+k) oz) rfl (.tmp rfl) rfl rfl T350 rfl rfl) ?_;refine ga (c9 oz) ?_;exact ia J2 (o.set (i+k) (s%4294967296)) (s/2^32) (k+1) ⟨by simp[ho2],by omega,f0 hw2 oz,by omega,by rw[show i+(k+1)=(i+k)+1 from rfl,show s/2^32=s/4294967296 from rfl,Nat.pow_succ,h6,dk];simp only[pow_add];grind⟩ (hw:=Wk.of bj (.cons rfl (BlkSub.of (by rw[map_set];rfl)) .nil))
  have hkn:k=b.length:=by have:b.length<=k:=(by simpa[ac]using t24);omega
  subst hkn;have h5:=lw (x:=c) (show i+b.length<o.length by omega);rw[take_length]at hv2;refine gl ?_;refine ga (jK (by unfold a9;omega) (by unfold a9;omega)) ?_;refine gv ((dJ c).trans (by rw[Nat.mod_eq_of_lt hc])) ?_;refine gs (b8 (n:=i+b.length) (.tmp rfl) (.tmp rfl) T43 rfl T350 rfl oz (by first |omega |(simp;omega)) rfl) ?_;refine gs (dF (.tmp rfl) rfl (cz (i:=i+b.length) oz) rfl (.tmp rfl) rfl rfl T350 rfl rfl) ?_;refine ga (c9 oz) ?_;exact gT J1 (o.set (i+b.length) c) (i+1) ⟨by simp[ho2],by omega,f0 hw2 hc,by rw[show i+1+b.length=i+b.length+1 by omega,h5,dk];simp only[pow_add]at *;grind⟩ (hw:=Wk.of bj (.cons rfl (BlkSub.of (by rw[map_set];rfl)) .nil))
 have hin:i=a.length:=by have:a.length<=i:=(by simpa[ac]using t19);omega
 subst hin;rw[take_length,eZ oz]at hv;refine gW ((Wk.freeze (k:=15) rfl).trans<|Wk.of (sl:=[(5,some (ws out))]) (hp:=[]) (.cons rfl (Sub.of (cw (by simp[ho]))) .nil) .nil) ?_;refine gc (pI out hw oz) ?_;refine af ?_;rw[hv]
theorem xE(a:Wh)(ha:a.ok):FP 221 [a.av] (i64 a.z.sign):=by
 obtain⟨e1,e2,e3⟩:=GN ha;refine aj func221 ?_;refine gc (kO a ha) ?_;refine gl ?_;refine gC (fun t6=>?_) (fun t6=>?_)
 ·have h0 : a.m.length = 0 := by simpa [ac] using t6
  refine af ?_;rw[e1 h0];rfl
 have h0:a.m.length≠0:=by simpa[ac]using t6
 have hval:a.valid=true:=by
  unfold Wh.m at h0;split at h0
  ·assumption
  ·exact absurd rfl h0
 refine gc (iT a ha) ?_;refine gC (fun t8=>?_) (fun t8=>?_)
 ·have h1 : a.neg = true := by unfold Wh.n at t8; rw [hval] at t8; simpa using t8
  refine af ?_;rw[e2 h0 h1];rfl
 have h1:a.neg=false:=by unfold Wh.n at t8;rw[hval]at t8;simpa using t8
 refine af ?_;rw[e3 h0 h1];rfl
theorem GY(a:Wh)(ha:a.ok)(la:a.mag.length<aD):FP 292 [a.av] (zA (-a.z)):=by
 refine aj func292 ?_;refine gc (iT a ha) ?_;refine gc (kO a ha) ?_;refine gc (km _ a.m (Wh.ws ha) (Nat.le_of_lt (Wh.small ha la))) ?_;refine gD ?_;refine af ?_;rw[Wh.z_eq,<- F2];rfl
theorem MY(a b:Wh)(ha:a.ok)(hb:b.ok)(la:a.mag.length+b.mag.length<=aD):FP 248 [a.av,b.av] (zA (a.z*b.z)):=by
 have h1:=Wh.m_le (w:=a);have h2:=Wh.m_le (w:=b);have h3:(ofNat (val a.m*val b.m)).length<=a.m.length+b.m.length:=fc (by rw[pow_add];exact Nat.mul_lt_mul'' (cc _ (Wh.ws ha)) (cc _ (Wh.ws hb)));refine aj func248 ?_;refine gc (iT a ha) ?_;refine gc (iT b hb) ?_;refine gc (kO a ha) ?_;refine gc (kO b hb) ?_;refine gc (Mj a.m b.m (Wh.ws ha) (Wh.ws hb) oz) ?_;refine gc (km _ _ (dp _) oz) ?_;refine gD ?_;refine af ?_;rw[ci,GA];rfl
theorem FR(a b:Wh)(ha:a.ok)(hb:b.ok)(la:a.mag.length<aD)(lb:b.mag.length<aD):FP 247 [a.av,b.av] (zA (a.z+b.z)):=by
 have h1:=Wh.m_le (w:=a);have h2:=Wh.m_le (w:=b);have hla:val a.m<4294967296^(max a.m.length b.m.length):=lt_of_lt_of_le (cc _ (Wh.ws ha)) (Nat.pow_le_pow_right oz oz);have hlb:val b.m<4294967296^(max a.m.length b.m.length):=lt_of_lt_of_le (cc _ (Wh.ws hb)) (Nat.pow_le_pow_right oz oz);have h3:(ofNat (val a.m+val b.m)).length<=max a.m.length b.m.length+1:=fc (by rw[Nat.pow_succ];omega);have h4:(ofNat (val a.m-val b.m)).length<=max a.m.length b.m.length:=fc oz;have h5:(ofNat (val b.m-val a.m)).length<=max a.m.length b.m.length:=fc oz;refine aj func247 ?_;refine gc (kO a ha) ?_;refine gc (kO b hb) ?_;refine gD ?_;refine gc (iT a ha) ?_;refine gc (iT b hb) ?_;refine gD ?_;refine gC (fun t15=>?_) (fun t15=>?_)
 ·have h0 : a.n = b.n := by simpa using t15
  refine gc (iT a ha) ?_;refine gc (yq a.m b.m (Wh.ws ha) (Wh.ws hb) oz oz) ?_;refine gc (km _ _ (dp _) oz) ?_;refine af ?_;rw[ci,CT h0];rfl
 have h0:a.n≠b.n:=by simpa using t15
 refine gc (zj a.m b.m (Wh.ws ha) (Wh.ws hb)) ?_;refine gC (fun t25=>?_) (fun t25=>?_)
 ·have h6:val b.m<=val a.m:=by
   rcases lt_or_ge (val a.m) (val b.m)with h |h
   ·rw[if_pos h]at t25;cases t25
   ·exact h
  refine gc (iT a ha) ?_;refine gc (A5 a.m b.m (Wh.ws ha) (Wh.ws hb) oz oz) ?_;refine gc (km _ _ (dp _) oz) ?_;refine af ?_;rw[ci,Bw h0 h6];rfl
 have h6:val a.m<val b.m:=by
  rcases lt_or_ge (val a.m) (val b.m)with h |h
  ·exact h
  ·rw[if_neg oz]at t25;split at t25 <;> cases t25
 refine gc (iT b hb) ?_;refine gc (A5 b.m a.m (Wh.ws hb) (Wh.ws ha) oz oz) ?_;refine gc (km _ _ (dp _) oz) ?_;refine af ?_;rw[ci,Fl h0 oz];rfl
theorem Dd(n:Int)(h:-9223372036854775808<=n/\n<=9223372036854775807):FP 188 [i64 n] (zA n):=by
 obtain⟨N,hN⟩:∃N,N=n.natAbs:=⟨_,rfl⟩
 have hNB:N<18446744073709551616:=by omega
 refine aj func188 ?_;refine gv (show IntKind.u64.wrap n=((n%18446744073709551616:Int)) by simp only[IntKind.wrap,IntKind.signed,IntKind.bits,Bool.false_and,if_false,Bool.false_eq_true];omega) ?_;refine gC (fun t7=>?_) (fun t7=>?_) (st2:=(77777,0))
 ·have hn : n < 0 := by simpa [ac] using t7
  refine gs (Ag (.tmp rfl) rfl) ?_ (4,0);refine gW (Wk.of (sl:=[(0,some (i64 n)),(2,some (.ptr 2 0)),(3,some (u64 N))]) (hp:=[(2,some (.box [.v (.bool false),nS]))]) (.k (.k (.cons rfl (Sub.int (by simp only[IntKind.wrap,IntKind.signed,IntKind.bits,Bool.false_and,if_false,Bool.false_eq_true];omega)) .nil))) (.k .nil)) ?_;refine gv (dJ _) ?_;refine gs (eQ (.tmp rfl) (.const _) oz (f8 _ 32 oz) rfl) ?_;refine gv ((dJ _).trans (by rw[Nat.mod_eq_of_lt (show N/2^32<4294967296 by omega)])) ?_;refine gc (km (ac .lss n 0) [N%4294967296,N/2^32] (w7 hNB) (by unfold aD;simp)) ?_;refine af ?_;rw[uR hNB,show sgn (ac .lss n 0) N=n by simp only[sgn,ac,decide_eq_true_eq];split <;> omega];rfl
 have hn:¬n<0:=by simpa[ac]using t7
 refine gW (Wk.of (sl:=[(0,some (i64 n)),(2,some (.ptr 2 0)),(3,some (u64 N))]) (hp:=[(2,some (.box [.v (.bool false),nS]))]) (.k (.k (.cons rfl (Sub.int oz) .nil))) (.k .nil)) ?_;refine gv (dJ _) ?_;refine gs (eQ (.tmp rfl) (.const _) oz (f8 _ 32 oz) rfl) ?_;refine gv ((dJ _).trans (by rw[Nat.mod_eq_of_lt (show N/2^32<4294967296 by omega)])) ?_;refine gc (km (ac .lss n 0) [N%4294967296,N/2^32] (w7 hNB) (by unfold aD;simp)) ?_;refine af ?_;rw[uR hNB,show sgn (ac .lss n 0) N=n by simp only[sgn,ac,decide_eq_true_eq];split <;> omega];rfl
theorem OK(a b:Wh)(ha:a.ok)(hb:b.ok)(la:a.mag.length<aD)(lb:b.mag.length<aD):FP 374 [a.av,b.av] (zA (a.z-b.z)):=by
 have h1:=(Wh.lz hb).neg;have h2:=DK h1;refine aj func374 ?_;refine gc (GY b hb lb) ?_;refine gc (FR a (ofInt (-b.z)) ha (DJ h1 hb.2) la oz) ?_;refine gD ?_;refine af ?_;rw[dN,<- Int.sub_eq_add_neg];rfl
theorem Mn(a b:Wh)(ha:a.ok)(hb:b.ok)(la:a.mag.length<aD)(lb:b.mag.length<aD):FP 327 [a.av,b.av] (i64 (gq a.z b.z)):=by
 have h1:=(Wh.lz ha).sub (Wh.lz hb);have h2:=DK h1;refine aj func327 ?_;refine gc (OK a b ha hb la lb) ?_;refine gc (xE (ofInt (a.z-b.z)) (DJ h1 (by unfold a9;unfold aD at la lb;omega))) ?_;refine af ?_;rw[dN,Js]
theorem pg{A:List Nat}{n:Nat}:AV.lst 1 (((A.map u32).drop 0).take n)=ws (A.take n):=by
 rw[drop_zero,<- map_take];rfl
theorem BQ(A:List Nat):(Blk.row 1 (A.map u32)).sc=true:=by
 simp only[Blk.sc,List.all_map];rw[all_eq_true];intro x _;rfl
theorem nO{A:List Nat}{n i:Nat}(h:i<n):am (A.take n) i=am A i:=by
 simp[am,h]
theorem Es{A:List Nat}{n i:Nat}(h:n<=i):am (A.take n) i=0:=pM (by simp;omega)
theorem Uz{x:Nat}(h:0<x):bf x=bf (x/2)+1:=by
 rcases lt_or_ge x 2 with h1 |h1
 ·have : x = 1 := by omega
  subst this;decide
 ·have:=rP (x:=x) (k:=1) oz;rw[show x/2^1=x/2 from rfl]at this;omega
theorem KQ{a:List Nat}{n:Nat}(ha:Ws a)(na:Nz a)(hl:a.length=n+1):bf (val a)=32*n+bf (am a n):=by
 have ht:am a n≠0:=by
  refine na _ ?_;rw[List.getLast?_eq_getElem?,hl];exact jM oz
 have hv:val a=val (a.take n)+4294967296^n*am a n:=by rw[<- dk,eZ oz]
 have hlt:=nJ ha n;have hp:(4294967296:Nat)^n=2^(32*n):=by rw[Nat.pow_mul]
 rw[hp]at hv hlt
 have h1:val a/2^(32*n)=am a n:=by
  rw[hv,Nat.add_mul_div_left _ _ (Nat.pow_pos oz),Nat.div_eq_of_lt hlt,Nat.zero_add]
 have h2:2^(32*n)<=val a:=by
  have:=mul_le_mul_left (2^(32*n)) (show 1<=am a n by omega);omega
 rw[rP h2,h1]
theorem In{o A:List Nat}{n v:Nat}(ho:Ws o)(hl:o.length=A.length)(hn:n<=A.length)(hd:o.drop n=A.drop n)(hv:val (o.take n)=v):o=wr A 0 (bq n v):=by
 have h1:bC o 0 n=bq n v:=xm (mJ ho _ _) (ol oz) (by rw[bC,drop_zero,hv]);rw[<- h1];exact yF (by simp) (by rw[Nat.zero_add];exact hd) oz
theorem AZ(k:Nat)(A:List Nat)(n i:Nat)(hA:Ws A)(hn:n<=A.length) :
  Con prog 375 [.ms k 1 0 n,i64 i] [(k,some (.row 1 (A.map u32)))] (u64 (am (A.take n) i)) [(k,some (.row 1 (A.map u32)))]:=by
 refine Con.borrow (args:=[ws (A.take n),i64 i]) k 1 (A.map u32) rfl rfl rfl ?_ rfl (fun k' x h=>by cases h) (lr (A.take n) i (fQ hA n));intro j x' hj
 match j,hj with
 |0,hj=>cases hj;exact .inr ⟨0,n,rfl,by simpa using hn,by rw[pg];rfl⟩
 |1,hj=>cases hj;exact .inl rfl
theorem TT(k1 k2:Nat)(hk:k1≠k2)(A D:List Nat)(n p:Nat)(hA:Ws A)(hD:Ws D)(hn:n<=A.length)(hp:p<=D.length) :
  Con prog 335 [.ms k1 1 0 n,.ms k2 1 0 p] [(k1,some (.row 1 (A.map u32))),(k2,some (.row 1 (D.map u32)))]
   (i64 (if val (A.take n)<val (D.take p)then -1 else if val (D.take p)<val (A.take n)then 1 else 0)) [(k1,some (.row 1 (A.map u32))),(k2,some (.row 1 (D.map u32)))]:=by
 have h1:Con prog 335 [ws (A.take n),.ms k2 1 0 p] [(k2,some (.row 1 (D.map u32)))]
   (i64 (if val (A.take n)<val (D.take p)then -1 else if val (D.take p)<val (A.take n)then 1 else 0)) [(k2,some (.row 1 (D.map u32)))]:=by
  refine Con.borrow (args:=[ws (A.take n),ws (D.take p)]) k2 1 (D.map u32) rfl rfl rfl ?_ rfl (fun k' x h=>by cases h) (zj (A.take n) (D.take p) (fQ hA n) (fQ hD p));intro j x' hj
  match j,hj with
  |0,hj=>cases hj;exact .inl rfl
  |1,hj=>cases hj;exact .inr ⟨0,p,rfl,by simpa using hp,by rw[pg];rfl⟩
 refine Con.borrow (args:=[ws (A.take n),.ms k2 1 0 p]) k1 1 (A.map u32) ?_ ?_ rfl ?_ rfl ?_ h1
 ·rw[aU,if_neg hk];rfl
 ·rw[aU,if_neg hk];rfl
 ·intro j x' hj
  match j,hj with
  |0,hj=>cases hj;exact .inr ⟨0,n,rfl,by simpa using hn,by rw[pg];rfl⟩
  |1,hj=>cases hj;exact .inl rfl
 ·intro k' x h;obtain⟨_,h⟩:=fw h;cases h;exact BQ D
theorem Uv(k:Nat)(A b:List Nat)(n:Nat)(hA:Ws A)(hb:Ws b)(hn:n<=A.length) :
  Con prog 335 [.ms k 1 0 n,ws b] [(k,some (.row 1 (A.map u32)))]
   (i64 (if val (A.take n)<val b then -1 else if val b<val (A.take n)then 1 else 0)) [(k,some (.row 1 (A.map u32)))]:=by
 refine Con.borrow (args:=[ws (A.take n),ws b]) k 1 (A.map u32) rfl rfl rfl ?_ rfl (fun k' x h=>by cases h) (zj (A.take n) b (fQ hA n) hb);intro j x' hj
 match j,hj with
 |0,hj=>cases hj;exact .inr ⟨0,n,rfl,by simpa using hn,by rw[pg];rfl⟩
 |1,hj=>cases hj;exact .inl rfl
theorem Oy(a:List Nat)(ha:Ws a)(na:Nz a)(la:a.length<=aD):FP 389 [ws a] (i64 (bf (val a))):=by
 unfold aD at la;refine aj func389 ?_;refine gl ?_;refine gC (fun t7=>?_) (fun t7=>?_)
 ·have h0 : a=[] := List.length_eq_zero_iff.1 (by simpa[ac]using t7);refine af ?_;subst h0;rfl
 have h0:a.length≠0:=by simpa[ac]using t7
 obtain⟨n,hn⟩:∃n,a.length=n+1:=⟨a.length-1,by omega⟩
 have hB:=KQ ha na hn;have ht:=bW ha n;refine gl ?_;refine ga (show _=(n:Int) by rw[dT oz];omega) ?_;refine ga (show _=((32*n:Nat):Int) by rw[AT oz];omega) ?_;refine gl ?_;refine ga (show _=(n:Int) by rw[dT oz];omega) ?_;refine gi (f6 (n:=n) oz (by first |omega |(simp;omega))) ?_;refine hO [] [] (fun(x c:Nat)=>[(3,some (i64 c)),(4,some (u32 x))]) (fun _ _=>[]) (fun x c=>x<4294967296/\c<=281474976710656/\c+bf x=bf (val a)) (fun x _=>x) (am a n) (32*n) ⟨ht,by omega,hB.symm⟩ ?_;rintro x c ⟨hx,hc,hv⟩ K1 J1;refine gC (fun t19=>?_) (fun t19=>?_)
 ·have hx0 : 0 < x := by simpa [ac] using t19
  have h2:=Uz hx0
  have h3:bf (val a)<=32*n+32:=by
   have:=(Bo (x:=am a n)  (by
    refine na _ ?_;rw[List.getLast?_eq_getElem?,hn];exact jM oz) ht).1
   omega
  refine ga (show _=((c+1:Nat):Int) by rw[c9 oz];omega) ?_;refine gs (eQ (.tmp rfl) (.const _) oz (p7 x 1 oz) rfl) ?_;exact gT J1 (x/2^1) (c+1) ⟨by omega,by omega,by rw[show x/2^1=x/2 from rfl];omega⟩
 have hx0:x=0:=by have:x<=0:=(by simpa[ac]using t19);omega
 subst hx0;refine af ?_;rw[<- hv];rfl
theorem At(A:List Nat)(n:Nat)(hA:Ws A)(hn:n<=A.length)(la:A.length<=aD) :
  Con prog 388 [.ms 1000 1 0 n] [(1000,some (.row 1 (A.map u32)))] (.ms 1000 1 0 (ofNat (val (A.take n))).length) [(1000,some (.row 1 (A.map u32)))]:=by
 unfold aD at la;refine gF func388 (fun k z h=>bG h) ?_;refine a5 [] [1000] (fun(j:Nat)=>[(0,some (.ms 1000 1 0 j))]) (fun _=>[]) (fun j=>j<=n/\val (A.take j)=val (A.take n)) (fun j=>j) n ⟨le_refl _,rfl⟩ ?_;rintro j ⟨hj,hv⟩ K1 J1;refine oa (fun h=>(jH (by simp[ac]at h;omega) (by unfold a9;omega))) ?_;refine gs (eK rfl rfl rfl (fun h=>b8 (n:=j-1) (.opt rfl (o1 h)) (.opt rfl (o1 h)) T43 rfl T350 rfl oz (by simp[ac]at h;omega) rfl)) ?_;refine gs (eK rfl rfl rfl (fun h=>d8 (.opt rfl (o1 h)) rfl (cz (i:=j-1) (by simp[ac]at h;omega)) T350 rfl rfl rfl)) ?_;refine gC (fun t14=>?_) (fun t14=>?_)
 ·have t14 : 0 < j /\ am A (j - 1) = 0 := by simpa [ac] using t14
  refine ga (jH oz (by unfold a9;omega)) ?_;refine gs (we (.tmp rfl) (.none _) (.some _ (.tmp rfl) oz) T43 rfl T350 rfl oz oz rfl) ?_;exact aT J1 (j-1) ⟨by omega,by have h:=@dk A (j-1);rw[show j-1+1=j by omega,t14.2]at h;simp at h;omega⟩ (hw:=Wk.of (.cons rfl (Sub.of (by congr 1)) .nil) (.k .nil))
 have t14:0<j->am A (j-1)≠0:=by simpa[ac]using t14
 have hn1 := F5 (m := A.take n) (n := j) (fQ hA n) (by simp; omega) (by rw [List.take_take, Nat.min_eq_left hj]; exact hv) (by
  rcases Nat.eq_zero_or_pos j with h |h
  ·exact .inl h
  ·exact .inr (by rw[nO oz];exact t14 h))
 subst hn1;refine gR ?_;exact aH.own2 rfl rfl rfl
theorem u7(A:List Nat)(n:Nat)(hA:Ws A)(hn:n<=A.length)(la:A.length<=aD) :
  Con prog 386 [.ms 1000 1 0 n] [(1000,some (.row 1 (A.map u32)))] (.ms 1000 1 0 (ofNat (val (A.take n)/2)).length) [(1000,some (.row 1 ((wr A 0 (bq n (val (A.take n)/2))).map u32)))]:=by
 have la':=la;unfold aD at la;refine gF func386 (fun k z h=>bG h) ?_;refine hO [5] [] (fun(o:List Nat)(i:Nat)=>[(0,some (.ms 1000 1 0 n)),(6,some (i64 i))]) (fun o _=>[(1000,some (.row 1 (o.map u32)))]) (fun o i=>o.length=A.length/\i<=n/\Ws o/\o.drop i=A.drop i/\val (o.take i)=val (A.take n)/2^1%4294967296^i) (fun _ i=>n-i) A 0 ⟨rfl,by omega,hA,rfl,by simp[val,Nat.mod_one]⟩ ?_;rintro o i ⟨ho,hi,hw,hd,hv⟩ K1 J1;refine gC (fun t7=>?_) (fun t7=>?_)
 ·have hin : i < n := by simpa [ac] using t7
  have e1:am (o.take n) i=am (A.take n) i:=by rw[nO hin,nO hin];exact rc hd
  have hd2:o.drop (i+1)=A.drop (i+1):=by
   have h1:(o.drop i).drop 1=(A.drop i).drop 1:=by rw[hd]
   rwa [drop_drop,drop_drop]at h1
  have e2:am (o.take n) (i+1)=am (A.take n) (i+1):=by
   rcases lt_or_ge (i+1) n with h |h
   ·rw[nO h,nO h];exact rc hd2
   ·rw[Es h,Es h]
  have b1:=bW (fQ hA n) i;have b2:=bW (fQ hA n) (i+1);have h3:=HQ (n:=1) (fQ hA n) (show i<(A.take n).length by simp;omega) (show i<o.length by omega) oz hv;refine gt (aJ (AZ 1000 o n i hw oz) (bO rfl rfl) aM rfl rfl) ?_;refine gs (eQ (.tmp rfl) (.const _) oz ((f8 _ 1 oz).trans (by rw[e1])) rfl) ?_;refine ga (jK (y:=1) (by unfold a9;omega) (by unfold a9;omega)) ?_;refine gt (aJ (AZ 1000 o n (i+1) hw oz) (bO rfl rfl) aM rfl rfl) ?_;refine gs (gG (.tmp rfl) (.const _) oz ((q8 (n:=31) oz oz).trans (by rw[e2])) rfl) ?_;refine gs (jk (.tmp rfl) (.tmp rfl) rfl ((tO oz oz).trans (by rw[xI oz])) rfl) ?_;refine gv ((dJ _).trans (show _=(((am (A.take n) i+am (A.take n) (i+1)*2^32)/2^1%4294967296:Nat):Int) by congr 1;omega)) ?_;refine gs (b8 (n:=i) (.tmp rfl) (.tmp rfl) T43 rfl T350 rfl oz (by first |omega |(simp;omega)) rfl) ?_;refine gs (dF (.tmp rfl) rfl (cz (i:=i) oz) rfl (.tmp rfl) rfl rfl T350 rfl rfl) ?_;refine ga (c9 oz) ?_;exact gT J1 (o.set i ((am (A.take n) i+am (A.take n) (i+1)*2^32)/2^1%4294967296)) (i+1) ⟨by simp[ho],by omega,f0 hw oz,tB hd,h3⟩ (hw:=Wk.of bj (.cons rfl (BlkSub.of (by rw[map_set];rfl)) .nil))
 have hin:i=n:=by have:n<=i:=(by simpa[ac]using t7);omega
 subst hin;have hlt:=nJ hA i;have hv':val (o.take i)=val (A.take i)/2:=by rw[hv,Nat.mod_eq_of_lt oz]
 have h9:=In hw ho hn hd hv';refine gt (aJ (At o i hw oz oz) (cZ rfl) aM rfl rfl) ?_;refine gR ?_;exact aH.own2 rfl (by rw[<- h9]) (by rw[hv'];rfl)
theorem Eu(A b:List Nat)(n:Nat)(hA:Ws A)(hb:Ws b)(hn:n<=A.length)(la:A.length<=aD)(hle:val b<=val (A.take n)) :
  Con prog 387 [.ms 1000 1 0 n,ws b] [(1000,some (.row 1 (A.map u32)))] (.tup []) [(1000,some (.row 1 ((wr A 0 (bq n (val (A.take n)-val b))).map u32)))]:=by
 unfold aD at la;refine gF func387 (fun k z h=>bG h) ?_;refine i9 [1,8] [] (fun(o:List Nat)(c i:Nat)=>[(0,some (.ms 1000 1 0 n)),(4,some (u64 c)),(9,some (i64 i))]) (fun o _ _=>[(1000,some (.row 1 (o.map u32)))]) (fun o c i=>o.length=A.length/\i<=n/\Ws o/\c<=1/\o.drop i=A.drop i/\val (o.take i)+val (b.take i)=val (A.take i)+c*4294967296^i) (fun _ _ i=>n-i) A 0 0 ⟨rfl,by omega,hA,by omega,rfl,by simp[val]⟩ ?_;rintro o c i ⟨ho,hi,hw,hc,hd,hv⟩ K1 J1;refine gC (fun t10=>?_) (fun t10=>?_)
 ·have hin : i < n := by simpa [ac] using t10
  have e1:am (o.take n) i=am A i:=by rw[nO hin];exact rc hd
  have h1:=bW hA i;have h2:=bW hb i;obtain⟨s,hs⟩:∃s,s=4294967296+am A i-am b i-c:=⟨_,rfl⟩
  have h3:=IN h1 h2 hc hv;rw[<- hs]at h3;refine gt (aJ (AZ 1000 o n i hw oz) (bO rfl rfl) aM rfl rfl) ?_;refine ga ((iU (x:=4294967296) oz).trans (by rw[e1])) ?_;refine gc (lr b i hb) ?_;refine ga ((kM oz oz).trans (by rw[if_pos oz])) ?_;refine ga ((kM oz oz).trans (show _=(s:Int) by rw[if_pos oz];congr 1;omega)) ?_;refine gv (dJ _) ?_;refine gs (eQ (.tmp rfl) (.const _) oz (f8 _ 32 oz) rfl) ?_;refine ga ((kM (x:=1) oz oz).trans (by rw[if_pos oz])) ?_;refine gs (b8 (n:=i) (.tmp rfl) (.tmp rfl) T43 rfl T350 rfl oz (by first |omega |(simp;omega)) rfl) ?_;refine gs (dF (.tmp rfl) rfl (cz (i:=i) oz) rfl (.tmp rfl) rfl rfl T350 rfl rfl) ?_;refine ga (c9 oz) ?_;exact ia J1 (o.set i (s%4294967296)) (1-s/2^32) (i+1) ⟨by simp[ho],by omega,f0 hw oz,by omega,tB hd,by rw[lw oz,dk,dk,Nat.pow_succ];exact h3⟩ (hw:=Wk.of bj (.cons rfl (BlkSub.of (by rw[map_set];rfl)) .nil))
 have hin:i=n:=by have:n<=i:=(by simpa[ac]using t10);omega
 subst hin;have hl:(A.take i).length=i:=by simp;omega
 have h4:=EG (a:=A.take i) (b:=b) (out:=o.take i) (fQ hA i) (fQ hw i) (by simp;omega) hle (by rw[hl,take_of_length_le (show(A.take i).length<=i by omega)];exact hv);have h9:=In hw ho hn hd h4;refine gR ?_;exact aH.own2 rfl (by rw[<- h9]) rfl
theorem B8{x:Nat}(h:x<=9223372036854775807):IntKind.i64.wrap ((x:Int).tdiv 32)=((x/32:Nat):Int):=by
 rw[show(32:Int)=((32:Nat):Int)from rfl,<- Int.ofNat_tdiv];exact i64_in oz
theorem FZ{x:Nat}:(x:Int).tmod 32=((x%32:Nat):Int):=(Int.ofNat_tmod _ _).symm
theorem tX(i:Nat):(4294967296:Nat)^i=2^(32*i):=by rw[Nat.pow_mul]
theorem Px{a:List Nat}(ha:Ws a){k:Nat}(hk:k/32<a.length):am a (k/32)/2^(k%32)%2=val a/2^k%2:=by
 have h1:val a/2^k=(val a/4294967296^(k/32))/2^(k%32):=by
  rw[tX,Nat.div_div_eq_div_mul,<- pow_add];congr 2;omega
 rw[h1,vd ha _ oz,tF];generalize val (a.drop (k/32+1))=R
 have h2:4294967296*R=2^(k%32)*(2*(2^(31-k%32)*R)):=by
  have:(4294967296:Nat)=2^(k%32)*(2*2^(31-k%32)):=by
   rw[<- Nat.pow_succ',<- pow_add,show k%32+(31-k%32).succ=32 by omega]
  conv=>lhs;rw[this]
  grind
 rw[h2,Nat.add_mul_div_left _ _ (Nat.pow_pos oz),Nat.add_mul_mod_self_left]
theorem Rx{w c:Nat}(hc:c<=1):w*2^1%4294967296 ||| c=w*2^1%4294967296+c:=by
 have h:w*2^1%4294967296=(w%2147483648)*2^1:=by omega
 rw[h];exact rH oz
theorem UR{o c P rt w bit:Nat}(hw:w<4294967296)(h:o+c*P=2*rt+bit) :
  (o+P*(w*2^1%4294967296+c))+(w/2^31)*(P*4294967296)=2*(rt+P*w)+bit:=by
 have h0:w*2^1%4294967296+(w/2^31)*4294967296=2*w:=by omega
 generalize w*2^1%4294967296=r at *;generalize w/2^31=q at *;grind
theorem Ld{q:List Nat}(hq:Ws q){k Y:Nat}(hk:k/32<q.length)(h:val q=2^(k+1)*Y) :
  am q (k/32) ||| 2^(k%32)=am q (k/32)+2^(k%32)/\am q (k/32)+2^(k%32)<4294967296:=by
 have h1:=vd hq (k/32) oz;rw[tF,h,tX,show k+1=32*(k/32)+(k%32+1) by omega,pow_add,Nat.mul_assoc,Nat.mul_div_cancel_left _ (Nat.pow_pos oz)]at h1;have hw:=bW hq (k/32);generalize am q (k/32)=w at *;generalize val (q.drop (k/32+1))=R at *
 have hB:(4294967296:Nat)=2^(k%32+1)*2^(31-k%32):=by
  rw[<- pow_add,show k%32+1+(31-k%32)=32 by omega]
 have h2:w%2^(k%32+1)=0:=by
  have h3:(w+4294967296*R)%2^(k%32+1)=0:=by rw[<- h1];exact Nat.mul_mod_right _ _
  rw[hB,Nat.mul_assoc,Nat.add_mul_mod_self_left]at h3;exact h3
 have h4:w=2^(k%32+1)*(w/2^(k%32+1)):=by
  have:=Nat.div_add_mod w (2^(k%32+1));omega
 have h5:2^(k%32)<2^(k%32+1):=by rw[Nat.pow_succ];have:=Nat.pow_pos (n:=k%32) (show 0<2 by omega);omega
 constructor
 ·rw[h4];exact(Nat.two_pow_add_eq_or_of_lt h5 _).symm
 ·have h6:w/2^(k%32+1)<2^(31-k%32):=by
   rw[Nat.div_lt_iff_lt_mul (Nat.pow_pos oz),Nat.mul_comm,<- hB];exact hw
  have h7:=mul_le_mul_left (2^(k%32+1)) (show w/2^(k%32+1)+1<=2^(31-k%32)from h6);rw[<- hB,Nat.mul_add,<- h4]at h7;omega
theorem Ph{q:List Nat}(hq:Ws q){k Y:Nat}(hk:k/32<q.length)(h:val q=2^(k+1)*Y) :
  val (q.set (k/32) (am q (k/32)+2^(k%32)))=2^k*(2*Y+1):=by
 have h1:=yA (x:=am q (k/32)+2^(k%32)) hk;rw[Nat.mul_add]at h1;have h2:4294967296^(k/32)*2^(k%32)=2^k:=by rw[tX,<- pow_add];congr 1;omega
 rw[h2,h,Nat.pow_succ]at h1;grind
theorem Ta{V Bv k:Nat}(hB:0<Bv) :
  (Bv<=2*(V/2^(k+1)%Bv)+V/2^k%2->V/2^k%Bv=2*(V/2^(k+1)%Bv)+V/2^k%2-Bv/\V/2^k/Bv=2*(V/2^(k+1)/Bv)+1) /\
  (2*(V/2^(k+1)%Bv)+V/2^k%2<Bv->V/2^k%Bv=2*(V/2^(k+1)%Bv)+V/2^k%2/\V/2^k/Bv=2*(V/2^(k+1)/Bv)):=by
 have h1:V/2^(k+1)=V/2^k/2:=by rw[Nat.pow_succ,Nat.div_div_eq_div_mul]
 rw[h1];generalize V/2^k=X;have h2:=Nat.div_add_mod X 2;have h3:=Nat.div_add_mod (X/2) Bv;have h4:=Nat.mod_lt (X/2) hB;have h5:=Nat.mod_lt X (show 0<2 by omega);generalize X/2%Bv=r at *;generalize X/2/Bv=q at *;generalize X%2=b at *;generalize X/2=Y at *;constructor
 ·intro h;have:=vt (a:=X) (w:=Bv) (q:=2*q+1) (r:=2*r+b-Bv) (by rw[Nat.mul_add,Nat.mul_one,show Bv*(2*q)=2*(Bv*q) by grind];omega) oz;exact⟨this.2,this.1⟩
 ·intro h;have:=vt (a:=X) (w:=Bv) (q:=2*q) (r:=2*r+b) (by rw[show Bv*(2*q)=2*(Bv*q) by grind];omega) oz;exact⟨this.2,this.1⟩
theorem PB{A l:List Nat}(h:l.length=A.length):wr A 0 l=l:=by
 unfold wr;rw[drop_eq_nil_of_le oz];simp
theorem FG{V:Nat}:V/2^bf V=0:=Nat.div_eq_of_lt uD
theorem B2{a:List Nat}(ha:Ws a){k:Nat}(h:k<bf (val a)):k/32<a.length:=by
 rcases lt_or_ge (k/32) a.length with h1 |h1
 ·exact h1
 ·exfalso;have h2:=cc a ha;rw [tX] at h2;have h3:val a ≠ 0:=by intro h0; rw [h0] at h; simp [bf] at h
  have h4:=u4 h3;have h5:2^(32*a.length)<=2^(bf (val a)-1):=oY oz;omega
theorem LO(a b:List Nat)(ha:Ws a)(hb:Ws b)(na:Nz a)(hb0:val b≠0)(la:a.length<aD)(lb:b.length<aD) :
  FP 361 [ws a,ws b] (.tup [ws (ofNat (val a/val b)),ws (ofNat (val a%val b))]):=by
 have la':=la;have lb':=lb;unfold aD at la lb;obtain⟨V,hV⟩:∃V,V=val a:=⟨_,rfl⟩
 obtain⟨Bv,hBv⟩:∃Bv,Bv=val b:=⟨_,rfl⟩
 have hBp:0<Bv:=by omega
 have hBl:2*Bv<=4294967296^(b.length+1):=by have:=cc b hb;rw[Nat.pow_succ];omega
 have hbl:bf V<=32*a.length:=by
  rcases Nat.eq_zero_or_pos (bf V)with h |h
  ·omega
  ·have := B2 ha (k := bf V-1) (by rw[<- hV];omega);omega
 rw[<- hV,<- hBv];refine aj func361 ?_;refine gl ?_;refine gs (it (.tmp rfl) T43 rfl T350 rfl rfl oz (by dsimp only;omega) rfl) ?_;refine gl ?_;refine ga (jK (y:=1) (by unfold a9;omega) (by unfold a9;omega)) ?_;refine gs (it (.tmp rfl) T43 rfl T350 rfl rfl oz (by dsimp only;omega) rfl) ?_;refine gc (hV▸Oy a ha na oz) ?_;refine ga (dT oz) ?_;refine i9 [0,1] [] (fun(q r:List Nat)(i:Nat)=>[(6,some (.ms 13 1 0 a.length)),(7,some (.ms 17 1 0 (b.length+1))),(8,some (i64 ((i:Int)-1)))]) (fun q r _=>[(13,some (.row 1 (q.map u32))),(17,some (.row 1 (r.map u32)))]) (fun q r i=>q.length=a.length/\r.length=b.length+1/\Ws q/\Ws r/\i<=bf V/\val r=V/2^i%Bv/\val q=2^i*(V/2^i/Bv)) (fun _ _ i=>i) (List.replicate a.length 0) (List.replicate (b.length+1) 0) (bf V) ⟨by simp,by simp,k8 _,k8 _,le_refl _,by rw[uO,FG,Nat.zero_mod],by rw[uO,FG,Nat.zero_div,Nat.mul_zero]⟩ ?_ (h2:=(.cons rfl (BlkSub.of (by rw[map_replicate];rfl)) (.cons rfl (BlkSub.of (by rw[map_replicate];rfl)) .nil)))
 rintro q r i ⟨hql,hrl,wq,wr',hi,hr,hq⟩ K1 J1;refine gC (fun t22=>?_) (fun t22=>?_) (st2:=(15,0))
 ·have hi0 : 1 <= i := by have := t22; simp [ac] at this; omega
  obtain⟨k,rfl⟩:∃k,i=k+1:=⟨i-1,by omega⟩
  rw[show((k+1:Nat):Int)-1=(k:Int) by omega];have hka:=B2 ha (k:=k) (by rw[<- hV];omega);have hbit:=Px ha hka;have hwB:=bW ha (k/32);rw[<- hV]at hbit;obtain⟨bit,hbt⟩:∃bit,bit=V/2^k%2:=⟨_,rfl⟩
  have hb1:bit<=1:=by omega
  have hrlt:=Nat.mod_lt (V/2^(k+1)) hBp;have hdw:am a (k/32)/2^(k%32)<=am a (k/32):=Nat.div_le_self _ _;refine gs (eW (.tmp rfl) (.const _) oz (B8 oz) rfl) ?_;refine gi (f6 (n:=k/32) oz (by first |omega |(simp;omega))) ?_;refine gs (tN (.tmp rfl) (.const _) oz FZ rfl) ?_;refine gs (eQ (.tmp rfl) (.tmp rfl) oz (p7 _ (k%32) oz) rfl) ?_;refine gs (jk (.tmp rfl) (.const _) rfl ((G4 (y:=1) oz oz).trans (show _=(bit:Int) by rw[Nat.and_one_is_mod,hbit,hbt])) rfl) ?_;refine i9 [0,1,8,35] [13] (fun(o:List Nat)(c j:Nat)=>[(6,some (.ms 13 1 0 a.length)),(7,some (.ms 17 1 0 (b.length+1))),(9,some (u32 c)),(36,some (i64 j))]) (fun o _ _=>[(17,some (.row 1 (o.map u32)))]) (fun o c j=>o.length=b.length+1/\Ws o/\j<=b.length+1/\c<=1/\o.drop j=r.drop j/\val (o.take j)+c*4294967296^j=2*val (r.take j)+bit) (fun _ _ j=>b.length+1-j) r bit 0 ⟨hrl,wr',by omega,hb1,rfl,by simp[val]⟩ ?_
  rintro o c j ⟨hol,wo,hj,hc,hd,hv⟩ K2 J2;refine gC (fun t37=>?_) (fun t37=>?_)
  ·have hjn : j < b.length + 1 := by have := t37; simp [ac] at this; omega
   have e1:am o j=am r j:=rc hd;have h1:=bW wr' j;have h3:=UR (w:=am r j) h1 hv;refine gs (b8 (n:=j) (.tmp rfl) (.tmp rfl) T43 rfl T350 rfl oz (by first |omega |(simp;omega)) rfl) ?_;refine gs (d8 (.tmp rfl) rfl (by rw[cz (show j<o.length by omega),e1]) T350 rfl rfl rfl) ?_;refine gs (gG (.tmp rfl) (.const _) oz (D6 (n:=1) oz) rfl) ?_;refine gs (jk (.tmp rfl) (.tmp rfl) rfl ((xy oz oz).trans (by rw[Rx hc])) rfl) ?_;refine gs (b8 (n:=j) (.tmp rfl) (.tmp rfl) T43 rfl T350 rfl oz (by first |omega |(simp;omega)) rfl) ?_;refine gs (d8 (.tmp rfl) rfl (by rw[cz (show j<o.length by omega),e1]) T350 rfl rfl rfl) ?_;refine gs (eQ (.tmp rfl) (.const _) oz (p7 _ 31 oz) rfl) ?_;refine gs (b8 (n:=j) (.tmp rfl) (.tmp rfl) T43 rfl T350 rfl oz (by first |omega |(simp;omega)) rfl) ?_;refine gs (dF (.tmp rfl) rfl (cz (i:=j) oz) rfl (.tmp rfl) rfl rfl T350 rfl rfl) ?_;refine gD ?_;refine ga (c9 oz) ?_;exact ia J2 (o.set j (am r j*2^1%4294967296+c)) (am r j/2^31) (j+1) ⟨by simp[hol],f0 wo oz,by omega,by omega,tB hd,by rw[lw oz,dk];rw[show 4294967296^(j+1)=4294967296^j*4294967296 from Nat.pow_succ _ _];exact h3⟩ (hw:=Wk.of bj (.cons rfl (BlkSub.of (by rw[map_set];rfl)) (.k .nil)))
  have hjn:j=b.length+1:=by have:b.length+1<=j:=(by have:=t37;simp[ac]at this;omega);omega
  subst hjn;rw[eZ (l:=r) oz,eZ (l:=o) oz,hr]at hv
  have hc0:c=0:=by
   cases c with
   |zero=>rfl
   |succ c=>rw[Nat.succ_mul]at hv;omega
  subst hc0;rw[Nat.zero_mul,Nat.add_zero]at hv;have hot:o.take (b.length+1)=o:=take_of_length_le oz;obtain⟨d1,d2⟩:=Ta (V:=V) (k:=k) hBp;rw[<- hbt]at d1 d2;have hcmp:=Uv 17 o b (b.length+1) wo hb oz;rw[hot,<- hBv,hv]at hcmp;have hqk:k/32<q.length:=by omega
  obtain⟨w1,w2⟩:=Ld wq hqk hq;have w3:=Ph wq hqk hq;refine gt (aJ hcmp (bO rfl rfl) aM rfl rfl) ?_;refine gC (fun t58=>?_) (fun t58=>?_)
  ·have hge:Bv<=2*(V/2^(k+1)%Bv)+bit:=by
    rcases lt_or_ge (2*(V/2^(k+1)%Bv)+bit) Bv with h |h
    ·rw[if_pos h]at t58;cases t58
    ·exact h
   obtain⟨d3,d4⟩:=d1 hge;have htk:=Eu o b (b.length+1) wo hb oz (by unfold aD;omega) (by rw[hot,<- hBv,hv];exact hge);rw[hot,<- hBv,hv,<- d3,PB (by rw[fj,hol])]at htk;have hx2:V/2^k%Bv<4294967296^(b.length+1):=by have:=Nat.mod_lt (V/2^k) hBp;omega
   refine gt (aJ (Con.rk 17 rfl rfl htk) (bO rfl rfl) aM rfl rfl) ?_;refine gs (eW (.tmp rfl) (.const _) oz (B8 oz) rfl) ?_;refine gs (b8 (n:=k/32) (.tmp rfl) (.tmp rfl) T43 rfl T350 rfl oz oz rfl) ?_;refine gs (d8 (.tmp rfl) rfl (cz (i:=k/32) hqk) T350 rfl rfl rfl) ?_;refine gs (tN (.tmp rfl) (.const _) oz FZ rfl) ?_;refine gs (gG (.const _) (.tmp rfl) oz ((D6 (x:=1) (n:=k%32) oz).trans (show _=((2^(k%32):Nat):Int) by rw[Nat.one_mul,Nat.mod_eq_of_lt (lt_of_le_of_lt (Nat.le_add_left _ _) w2)])) rfl) ?_;refine gs (jk (.tmp rfl) (.tmp rfl) rfl ((xy (bW wq _) (lt_of_le_of_lt (Nat.le_add_left _ _) w2)).trans (by rw[w1])) rfl) ?_;refine gs (b8 (n:=k/32) (.tmp rfl) (.tmp rfl) T43 rfl T350 rfl oz oz rfl) ?_;refine gs (dF (.tmp rfl) rfl (cz (i:=k/32) hqk) rfl (.tmp rfl) rfl rfl T350 rfl rfl) ?_;refine gD ?_;refine ga (dT oz) ?_;exact ia J1 (q.set (k/32) (am q (k/32)+2^(k%32))) (bq (b.length+1) (V/2^k%Bv)) k ⟨by simp[hql],fj _ _,f0 wq w2,kl _ _,by omega,lD _ _ hx2,by rw[w3,d4]⟩ (hw:=Wk.of bj (.cons rfl (BlkSub.of (by first |rfl |(rw[map_set];rfl))) (.k .nil)))
  have hge:2*(V/2^(k+1)%Bv)+bit<Bv:=by
   rcases lt_or_ge (2*(V/2^(k+1)%Bv)+bit) Bv with h |h
   ·exact h
   ·rw[if_neg oz]at t58;split at t58 <;> cases t58
  obtain⟨d3,d4⟩:=d2 hge;refine ga (dT oz) ?_;exact ia J1 q o k ⟨hql,hol,wq,wo,by omega,by rw[hv,d3],by rw[hq,d4,Nat.pow_succ,Nat.mul_assoc]⟩ (hw:=Wk.of bj (.cons rfl (BlkSub.of (by first |rfl |(rw[map_set];rfl))) (.k .nil)))
 have hi0:i=0:=by have:=t22;simp[ac]at this;omega
 subst hi0;refine gW ((Wk.freeze (k:=13) rfl).trans<|(Wk.freeze (k:=17) rfl).trans<|Wk.of (sl:=[(6,some (ws q)),(7,some (ws r))]) (hp:=[]) (.cons rfl (Sub.of (by rw[show AV.fz 13 1 (q.map u32) (.ms 13 1 0 a.length)=ws q from cw (by simp[hql])];rfl)) (.cons rfl (Sub.of (cw (by simp[hrl]))) .nil)) .nil) ?_;refine gc (pI q wq oz) ?_;refine gc (pI r wr' (by unfold aD;omega)) ?_;refine bF ?_;rw[hr,hq];simp[]
def iw(L:Nat)(A:List Nat)(n:Nat):Prop:=Ws A/\n<=A.length/\A.length<=L/\n=(ofNat (val (A.take n))).length
theorem RL(v:Nat):ofNat v=bq (ofNat v).length v:=by
 have h:=ua (ofNat v) (dp _)
 rwa [ci]at h
theorem jf{L:Nat}{A:List Nat}{n v:Nat}(h:iw L A n)(hv:v<=val (A.take n)) :
  iw L (wr A 0 (bq n v)) (ofNat v).length/\val ((wr A 0 (bq n v)).take (ofNat v).length)=v/\val ((wr A 0 (bq n v)).take n)=v:=by
 obtain⟨hw,hn,hl,hN⟩:=h;have hlt:=nJ hw n;have hvl:v<4294967296^n:=by omega
 have hle:(ofNat v).length<=n:=fc hvl
 have ht:(wr A 0 (bq n v)).take n=bq n v:=by
  unfold wr;rw[List.take_zero,nil_append,List.take_append_of_le_length (by rw[fj];omega),take_of_length_le (by rw[fj];omega)]
 have ht2:(wr A 0 (bq n v)).take (ofNat v).length=ofNat v:=by
  have h1:((wr A 0 (bq n v)).take n).take (ofNat v).length=(wr A 0 (bq n v)).take (ofNat v).length:=by rw[List.take_take,Nat.min_eq_left hle]
  rw[<- h1,ht,yR _ _ _ hle,<- RL]
 have hlen:(wr A 0 (bq n v)).length=A.length:=lW (by rw[fj];omega);refine⟨⟨q5 hw (kl _ _),by omega,by omega,by rw[ht2,ci]⟩,by rw[ht2,ci],by rw[ht,lD _ _ hvl]⟩
theorem gP{L:Nat}{A:List Nat}{n:Nat}(h:iw L A n)(hx:0<val (A.take n)):0<n/\val (A.take n)%2=am A 0%2:=by
 have hn:0<n:=by
  rcases Nat.eq_zero_or_pos n with h0 |h0
  ·subst h0;simp[val]at hx
  ·exact h0
 refine⟨hn,?_⟩;have:=tF (A.take n) 0;rw[drop_zero,nO hn]at this;omega
theorem Pp{L:Nat}{A:List Nat}{n:Nat}(h:iw L A n):A.take n=ofNat (val (A.take n)):=by
 obtain⟨hw,hn,hl,hN⟩:=h;have h1:=GR (fQ hw n);rw[<- hN,List.take_take,Nat.min_self]at h1;exact h1
theorem FN{L:Nat}{A:List Nat}{n:Nat}(h:iw L A n):n=0↔val (A.take n)=0:=by
 constructor
 ·intro h0;subst h0;rfl
 ·intro h0;have h1:=h.2.2.2;rw[h0]at h1;exact h1
theorem On{x y:Nat}(hx:x%2=0)(hy:y%2=0):Nat.gcd x y=2*Nat.gcd (x/2) (y/2):=by
 rw[<- Nat.gcd_mul_left,Nat.mul_div_cancel' (Nat.dvd_of_mod_eq_zero hx),Nat.mul_div_cancel' (Nat.dvd_of_mod_eq_zero hy)]
theorem CB{x y:Nat}(hx:x%2=0)(hy:y%2=1):Nat.gcd (x/2) y=Nat.gcd x y:=by
 have h1:x=2*(x/2):=by omega
 have h2:Nat.Coprime 2 y:=by
  rw[Nat.Coprime,Nat.gcd_rec,hy];rfl
 conv=>rhs;rw[h1]
 exact(Nat.Coprime.gcd_mul_left_cancel _ h2).symm
theorem Fo{x y:Nat}(h:y<=x):Nat.gcd (x-y) y=Nat.gcd x y:=Nat.gcd_sub_self_left h
theorem Ee{t L g V:Nat}(hg:0<g)(h:2^t*g<=V)(hV:V<4294967296^L):t<32*L:=by
 rw[tX]at hV;have h1:=mul_le_mul_left (2^t) (show 1<=g from hg);rcases lt_or_ge t (32*L)with h2 |h2
 ·exact h2
 ·have:=oY h2;omega
theorem If(A D:List Nat)(n p:Nat)(hA:Ws A)(hD:Ws D)(hn:n<=A.length)(hp:p<=D.length)(la:A.length<=aD)(hle:val (D.take p)<=val (A.take n)) :
  Con prog 387 [.ms 901 1 0 n,.ms 902 1 0 p] [(902,some (.row 1 (D.map u32))),(901,some (.row 1 (A.map u32)))] (.tup [])
   [(902,some (.row 1 (D.map u32))),(901,some (.row 1 ((wr A 0 (bq n (val (A.take n)-val (D.take p)))).map u32)))]:=by
 have h1:=Con.rk 901 rfl rfl (Eu A (D.take p) n hA (fQ hD p) hn la hle);refine Con.borrow (args:=[.ms 901 1 0 n,ws (D.take p)]) 902 1 (D.map u32) rfl rfl rfl ?_ rfl ?_ h1
 ·intro j x' hj
  match j,hj with
  |0,hj=>cases hj;exact .inl rfl
  |1,hj=>cases hj;exact .inr ⟨0,p,rfl,by simpa using hp,by rw[pg];rfl⟩
 ·intro k' x h;obtain⟨_,h⟩:=fw h;cases h;exact BQ _
theorem vL{A:List Nat}(hA:Ws A){i:Nat}:oJ .and .u32 (am A i:Int) 1=((am A i%2:Nat):Int) :=
 (G4 (y:=1) (bW hA i) oz).trans (by rw[Nat.and_one_is_mod])
theorem Rn(a b:List Nat)(ha:Ws a)(hb:Ws b)(na:Nz a)(nb:Nz b)(la:a.length+b.length<aD):FP 360 [ws a,ws b] (ws (ofNat (Nat.gcd (val a) (val b)))):=by
 have la':=la;unfold aD at la;have ea:=qO ha na;have eb:=qO hb nb;obtain⟨L,hL⟩:∃L,L=a.length+b.length:=⟨_,rfl⟩
 obtain⟨G,hG⟩:∃G,G=Nat.gcd (val a) (val b):=⟨_,rfl⟩
 rw[<- hG];refine aj func360 ?_;refine gt (aJ (z7 901 rfl a ha (by unfold aD;omega)) (cZ rfl) aM rfl rfl) ?_;refine gt (aJ (z7 902 rfl b hb (by unfold aD;omega)) (cZ rfl) aM rfl rfl) ?_ (2,0);refine gW (Wk.of (sl:=[(0,some (.ms 901 1 0 a.length)),(1,some (.ms 902 1 0 b.length))]) (hp:=[(901,some (.row 1 (a.map u32))),(902,some (.row 1 (b.map u32)))]) (.cons rfl (Sub.of (by rw[ea])) (.cons rfl (Sub.of (by rw[eb])) .nil)) (.k (.k .nil))) ?_;refine gC (fun t12=>?_) (fun t12=>?_) (st1:=(3,0))
 ·have h0 : a=[] := List.length_eq_zero_iff.1 (by simpa[ac]using t12);refine gW ((Wk.freeze (k:=902) rfl).trans<|Wk.of (sl:=[(1,some (ws b))]) (hp:=[]) (.cons rfl (Sub.of (cw (by simp))) .nil) .nil) ?_;refine af ?_;rw[hG,h0];simp[val,eb]
 have h0:a≠[]:=fun h=>by rw[h]at t12;simp[ac]at t12
 refine gC (fun t16=>?_) (fun t16=>?_) (st1:=(5,0))
 ·have h1 : b=[] := List.length_eq_zero_iff.1 (by simpa[ac]using t16);refine gW ((Wk.freeze (k:=901) rfl).trans<|Wk.of (sl:=[(0,some (ws a))]) (hp:=[]) (.cons rfl (Sub.of (cw (by simp))) .nil) .nil) ?_;refine af ?_;rw[hG,h1];simp[val,ea]
 have h1:b≠[]:=fun h=>by rw[h]at t16;simp[ac]at t16
 have va:=oW na h0;have vb:=oW nb h1;have hGp:0<G:=by rw[hG];exact Nat.gcd_pos_of_pos_left _ va
 have hGa:G<=val a:=by rw[hG];exact Nat.gcd_le_left _ va
 have vla:=cc a ha;refine G6 [] [] (fun(A D:List Nat)(n p t:Nat)=>[(0,some (.ms 901 1 0 n)),(1,some (.ms 902 1 0 p)),(5,some (i64 t))]) (fun A D _ _ _=>[(901,some (.row 1 (A.map u32))),(902,some (.row 1 (D.map u32)))]) (fun A D n p t=>iw L A n/\iw L D p/\0<val (A.take n)/\0<val (D.take p)/\G=2^t*Nat.gcd (val (A.take n)) (val (D.take p))) (fun A _ n _ _=>val (A.take n)) a b a.length b.length 0 ⟨⟨ha,le_refl _,by omega,by rw[take_length,ea]⟩,⟨hb,le_refl _,by omega,by rw[take_length,eb]⟩,by rw[take_length];exact va,by rw[take_length];exact vb,by rw[take_length,take_length,hG];simp⟩ ?_
 rintro A D n p t ⟨gA,gD,pA,pD,hg⟩ K1 J1;refine gs (b8 (n:=0) (.tmp rfl) (.const _) T43 rfl T350 rfl oz (by have:=(gP gA pA).1;omega) rfl) ?_;refine gs (d8 (.tmp rfl) rfl (cz (i:=0) (by have:=(gP gA pA).1;have:=gA.2.1;omega)) T350 rfl rfl rfl) ?_;refine gs (jk (.tmp rfl) (.const _) rfl (vL gA.1) rfl) ?_;refine gs (eK rfl rfl rfl (fun h=>b8 (n:=0) (.opt rfl (o1 h)) (.const _) T43 rfl T350 rfl oz (by have:=(gP gD pD).1;omega) rfl)) ?_;refine gs (eK rfl rfl rfl (fun h=>d8 (.opt rfl (o1 h)) rfl (cz (i:=0) (by have:=(gP gD pD).1;have:=gD.2.1;omega)) T350 rfl rfl rfl)) ?_;refine gs (eK rfl rfl rfl (fun h=>jk (.opt rfl (o1 h)) (.const _) rfl (vL gD.1) rfl)) ?_;refine gC (fun t29=>?_) (fun t29=>?_)
 ·have hev:am A 0%2=0/\am D 0%2=0:=by
   have:=t29;simp[ac]at this;omega
  have xA:val (A.take n)%2=0:=by rw[(gP gA pA).2];exact hev.1
  have xD:val (D.take p)%2=0:=by rw[(gP gD pD).2];exact hev.2
  obtain⟨k1,k2,k3⟩:=jf gA (v:=val (A.take n)/2) oz;obtain⟨m1,m2,m3⟩:=jf gD (v:=val (D.take p)/2) oz;have ht:t<32*a.length:=Ee (Nat.gcd_pos_of_pos_left _ pA) (by rw[<- hg];exact hGa) vla;refine gt (aJ (Con.rekeyR 901 rfl (u7 A n gA.1 gA.2.1 (by have:=gA.2.2.1;unfold aD;omega))) (cZ rfl) aM rfl rfl) ?_;refine gt (aJ (Con.rekeyR 902 rfl (u7 D p gD.1 gD.2.1 (by have:=gD.2.2.1;unfold aD;omega))) (cZ rfl) aM rfl rfl) ?_;refine ga (show _=((t+1:Nat):Int) by rw[c9 oz];omega) ?_;exact ER J1 (wr A 0 (bq n (val (A.take n)/2))) (wr D 0 (bq p (val (D.take p)/2))) ((ofNat (val (A.take n)/2)).length) ((ofNat (val (D.take p)/2)).length) (t+1) ⟨k1,m1,by rw[k2];omega,by rw[m2];omega,by rw[k2,m2,hg,On xA xD,Nat.pow_succ];grind⟩ (by rw[k2];omega)
 have hod:val (A.take n)%2=1\/val (D.take p)%2=1:=by
  rw[(gP gA pA).2,(gP gD pD).2];have:=t29;simp[ac]at this;omega
 refine VH [5] [] (fun(A1 D1:List Nat)(n1 p1:Nat)=>[(0,some (.ms 901 1 0 n1)),(1,some (.ms 902 1 0 p1))]) (fun A1 D1 _ _=>[(901,some (.row 1 (A1.map u32))),(902,some (.row 1 (D1.map u32)))]) (fun A1 D1 n1 p1=>iw L A1 n1/\iw L D1 p1/\0<val (D1.take p1)/\(val (A1.take n1)%2=1\/val (D1.take p1)%2=1)/\G=2^t*Nat.gcd (val (A1.take n1)) (val (D1.take p1))) (fun A1 D1 n1 p1=>val (A1.take n1)+val (D1.take p1)) A D n p ⟨gA,gD,pD,hod,hg⟩ ?_
 rintro A1 D1 n1 p1 ⟨gA1,gD1,pD1,hod1,hg1⟩ K2 J2;refine gC (fun t38=>?_) (fun t38=>?_) (st2:=(19,0))
 ·have pA1:0<val (A1.take n1):=by
   have h3:n1≠0:=by have:=t38;simp[ac]at this;omega
   exact Nat.pos_of_ne_zero (fun h=>h3 ((FN gA1).2 h))
  refine hO [5] [902] (fun(A2:List Nat)(n2:Nat)=>[(0,some (.ms 901 1 0 n2)),(1,some (.ms 902 1 0 p1))]) (fun A2 _=>[(901,some (.row 1 (A2.map u32)))]) (fun A2 n2=>iw L A2 n2/\0<val (A2.take n2)/\val (A2.take n2)<=val (A1.take n1)/\(val (A2.take n2)%2=1\/val (D1.take p1)%2=1)/\Nat.gcd (val (A2.take n2)) (val (D1.take p1))=Nat.gcd (val (A1.take n1)) (val (D1.take p1))) (fun A2 n2=>val (A2.take n2)) A1 n1 ⟨gA1,pA1,le_refl _,hod1,rfl⟩ ?_
  rintro A2 n2 ⟨gA2,pA2,lA2,hod2,hg2⟩ K3 J3;refine gs (b8 (n:=0) (.tmp rfl) (.const _) T43 rfl T350 rfl oz (by have:=(gP gA2 pA2).1;omega) rfl) ?_;refine gs (d8 (.tmp rfl) rfl (cz (i:=0) (by have:=(gP gA2 pA2).1;have:=gA2.2.1;omega)) T350 rfl rfl rfl) ?_;refine gs (jk (.tmp rfl) (.const _) rfl (vL gA2.1) rfl) ?_;refine gC (fun t43=>?_) (fun t43=>?_)
  ·have xA2:val (A2.take n2)%2=0:=by
    rw[(gP gA2 pA2).2];have:=t43;simp[ac]at this;omega
   obtain⟨k1,k2,k3⟩:=jf gA2 (v:=val (A2.take n2)/2) oz;refine gt (aJ (Con.rekeyR 901 rfl (u7 A2 n2 gA2.1 gA2.2.1 (by have:=gA2.2.2.1;unfold aD;omega))) (cZ rfl) aM rfl rfl) ?_;exact gT J3 (wr A2 0 (bq n2 (val (A2.take n2)/2))) ((ofNat (val (A2.take n2)/2)).length) ⟨k1,by rw[k2];omega,by rw[k2];omega,.inr oz,by rw[k2,CB xA2 oz,hg2]⟩ (by rw[k2];omega)
  have xA2:val (A2.take n2)%2=1:=by
   rw[(gP gA2 pA2).2];have:=t43;simp[ac]at this;omega
  refine hO [5] [901] (fun(D2:List Nat)(p2:Nat)=>[(0,some (.ms 901 1 0 n2)),(1,some (.ms 902 1 0 p2))]) (fun D2 _=>[(902,some (.row 1 (D2.map u32)))]) (fun D2 p2=>iw L D2 p2/\0<val (D2.take p2)/\val (D2.take p2)<=val (D1.take p1)/\Nat.gcd (val (A2.take n2)) (val (D2.take p2))=Nat.gcd (val (A2.take n2)) (val (D1.take p1))) (fun D2 p2=>val (D2.take p2)) D1 p1 ⟨gD1,pD1,le_refl _,rfl⟩ ?_;rintro D2 p2 ⟨gD2,pD2,lD2,hg3⟩ K4 J4;refine gs (b8 (n:=0) (.tmp rfl) (.const _) T43 rfl T350 rfl oz (by have:=(gP gD2 pD2).1;omega) rfl) ?_;refine gs (d8 (.tmp rfl) rfl (cz (i:=0) (by have:=(gP gD2 pD2).1;have:=gD2.2.1;omega)) T350 rfl rfl rfl) ?_;refine gs (jk (.tmp rfl) (.const _) rfl (vL gD2.1) rfl) ?_;refine gC (fun t50=>?_) (fun t50=>?_)
  ·have xD2:val (D2.take p2)%2=0:=by
    rw[(gP gD2 pD2).2];have:=t50;simp[ac]at this;omega
   obtain⟨k1,k2,k3⟩:=jf gD2 (v:=val (D2.take p2)/2) oz;refine gt (aJ (Con.rekeyR 902 rfl (u7 D2 p2 gD2.1 gD2.2.1 (by have:=gD2.2.2.1;unfold aD;omega))) (cZ rfl) aM rfl rfl) ?_;exact gT J4 (wr D2 0 (bq p2 (val (D2.take p2)/2))) ((ofNat (val (D2.take p2)/2)).length) ⟨k1,by rw[k2];omega,by rw[k2];omega,by rw[k2,Nat.gcd_comm,CB xD2 xA2,Nat.gcd_comm,hg3]⟩ (by rw[k2];omega)
  have xD2:val (D2.take p2)%2=1:=by
   rw[(gP gD2 pD2).2];have:=t50;simp[ac]at this;omega
  refine gt (aJ (TT 901 902 oz A2 D2 n2 p2 gA2.1 gD2.1 gA2.2.1 gD2.2.1) (bO rfl rfl) aM rfl rfl) ?_;refine gC (fun t56=>?_) (fun t56=>?_) (st1:=(17,0)) (st2:=(77777,0))
  ·have hlt:val (A2.take n2)<val (D2.take p2):=by
    rcases lt_or_ge (val (A2.take n2)) (val (D2.take p2))with h |h
    ·exact h
    ·rw[if_neg oz]at t56;split at t56 <;> cases t56
   refine gW (Wk.o (sl:=[(0,some (.ms 902 1 0 p2)),(1,some (.ms 901 1 0 n2)),(5,some (i64 t))]) (hp:=[(901,some (.row 1 (A2.map u32))),(902,some (.row 1 (D2.map u32)))])) ?_ (17,0);refine gW (Wk.rk (k:=901) (d:=903) rfl rfl) ?_ (17,0);refine gW (Wk.rk (k:=902) (d:=901) rfl rfl) ?_ (17,0);refine gW (Wk.rk (k:=903) (d:=902) rfl rfl) ?_ (17,0);refine gW (Wk.of (sl:=[(0,some (.ms 901 1 0 p2)),(1,some (.ms 902 1 0 n2)),(5,some (i64 t))]) (hp:=[(901,some (.row 1 (D2.map u32))),(902,some (.row 1 (A2.map u32)))]) (.cons rfl (Sub.refl _) (.cons rfl (Sub.refl _) (.cons rfl (Sub.refl _) .nil))) (.k (.k .nil))) ?_ (17,0);obtain⟨A3,D3,n3,p3,gA3,gD3,xA3,xD3,hle3,hg4,hs3,e1,e2,e3,e4⟩:∃A3 D3 n3 p3,iw L A3 n3/\iw L D3 p3/\val (A3.take n3)%2=1/\val (D3.take p3)%2=1/\val (D3.take p3)<=val (A3.take n3)/\Nat.gcd (val (A3.take n3)) (val (D3.take p3))=Nat.gcd (val (A2.take n2)) (val (D2.take p2))/\val (A3.take n3)+val (D3.take p3)=val (A2.take n2)+val (D2.take p2)/\A3=D2/\n3=p2/\D3=A2/\p3=n2:=⟨D2,A2,p2,n2,gD2,gA2,xD2,xA2,by omega,Nat.gcd_comm _ _,Nat.add_comm _ _,rfl,rfl,rfl,rfl⟩
   rw[<- e1,<- e2,<- e3,<- e4];refine go ?_;refine gt (aJ (If A3 D3 n3 p3 gA3.1 gD3.1 gA3.2.1 gD3.2.1 (by have:=gA3.2.2.1;unfold aD;omega) hle3) (bO rfl rfl) aM rfl rfl) ?_;refine gt (aJ (Con.rekeyR 901 rfl (At (wr A3 0 (bq n3 (val (A3.take n3)-val (D3.take p3)))) n3 (q5 gA3.1 (kl _ _)) (by rw[lW (by rw[fj];have:=gA3.2.1;omega)];exact gA3.2.1) (by rw[lW (by rw[fj];have:=gA3.2.1;omega)];have:=gA3.2.2.1;unfold aD;omega))) (cZ rfl) aM rfl rfl) ?_;exact DF J2 (wr A3 0 (bq n3 (val (A3.take n3)-val (D3.take p3)))) D3 ((ofNat (val (A3.take n3)-val (D3.take p3))).length) p3 ⟨(jf gA3 oz).1,gD3,by omega,.inr xD3,by rw[(jf gA3 (v:=val (A3.take n3)-val (D3.take p3)) oz).2.1,Fo hle3,hg4,hg3,hg2,hg1]⟩ (by rw[(jf gA3 (v:=val (A3.take n3)-val (D3.take p3)) oz).2.1];omega) (hw:=Wk.of (.cons rfl (Sub.of (by rw[(jf gA3 (v:=val (A3.take n3)-val (D3.take p3)) oz).2.2])) (.k (.k .nil))) (.k (.k .nil)))
  have hlt:val (D2.take p2)<=val (A2.take n2):=by
   rcases lt_or_ge (val (A2.take n2)) (val (D2.take p2))with h |h
   ·rw[if_pos h]at t56;cases t56
   ·exact h
  refine gW (Wk.o (sl:=[(0,some (.ms 901 1 0 n2)),(1,some (.ms 902 1 0 p2)),(5,some (i64 t))]) (hp:=[(901,some (.row 1 (A2.map u32))),(902,some (.row 1 (D2.map u32)))])) ?_ (77777,0);obtain⟨A3,D3,n3,p3,gA3,gD3,xA3,xD3,hle3,hg4,hs3,e1,e2,e3,e4⟩:∃A3 D3 n3 p3,iw L A3 n3/\iw L D3 p3/\val (A3.take n3)%2=1/\val (D3.take p3)%2=1/\val (D3.take p3)<=val (A3.take n3)/\Nat.gcd (val (A3.take n3)) (val (D3.take p3))=Nat.gcd (val (A2.take n2)) (val (D2.take p2))/\val (A3.take n3)+val (D3.take p3)=val (A2.take n2)+val (D2.take p2)/\A3=A2/\n3=n2/\D3=D2/\p3=p2:=⟨A2,D2,n2,p2,gA2,gD2,xA2,xD2,hlt,rfl,rfl,rfl,rfl,rfl,rfl⟩
  rw[<- e1,<- e2,<- e3,<- e4];obtain⟨k1,k2,k3⟩:=jf gA3 (v:=val (A3.take n3)-val (D3.take p3)) oz;refine go ?_;refine gt (aJ (If A3 D3 n3 p3 gA3.1 gD3.1 gA3.2.1 gD3.2.1 (by have:=gA3.2.2.1;unfold aD;omega) hle3) (bO rfl rfl) aM rfl rfl) ?_;refine gt (aJ (Con.rekeyR 901 rfl (At (wr A3 0 (bq n3 (val (A3.take n3)-val (D3.take p3)))) n3 (q5 gA3.1 (kl _ _)) (by rw[lW (by rw[fj];have:=gA3.2.1;omega)];exact gA3.2.1) (by rw[lW (by rw[fj];have:=gA3.2.1;omega)];have:=gA3.2.2.1;unfold aD;omega))) (cZ rfl) aM rfl rfl) ?_;exact DF J2 (wr A3 0 (bq n3 (val (A3.take n3)-val (D3.take p3)))) D3 ((ofNat (val (A3.take n3)-val (D3.take p3))).length) p3 ⟨(jf gA3 oz).1,gD3,by omega,.inr xD3,by rw[(jf gA3 (v:=val (A3.take n3)-val (D3.take p3)) oz).2.1,Fo hle3,hg4,hg3,hg2,hg1]⟩ (by rw[(jf gA3 (v:=val (A3.take n3)-val (D3.take p3)) oz).2.1];omega) (hw:=Wk.of (.cons rfl (Sub.of (by rw[(jf gA3 (v:=val (A3.take n3)-val (D3.take p3)) oz).2.2])) (.k (.k .nil))) (.k (.k .nil)))
 have zA1:val (A1.take n1)=0:=by
  have h3:n1=0:=by have:=t38;simp[ac]at this;omega
  exact(FN gA1).1 h3
 rw[zA1,Nat.gcd_zero_left]at hg1;refine gW ((Wk.freeze (k:=902) rfl).trans<|Wk.of (sl:=[(1,some (ws (ofNat (val (D1.take p1))))),(5,some (i64 t))]) (hp:=[]) (.cons rfl (Sub.of (by rw[uE (by rw[length_map];have:=gD1.2.1;omega),pg,<- Pp gD1])) (.k .nil)) .nil) ?_;refine a5 [64] [] (fun(i:Nat)=>[(1,some (ws (ofNat (2^i*val (D1.take p1))))),(65,some (i64 i))]) (fun _=>[]) (fun i=>i<=t) (fun i=>t-i) 0 (zero_le _) ?_ (h1:=(.cons rfl (Sub.of (by rw[Nat.pow_zero,Nat.one_mul])) (.k .nil)));rintro i hit K5 J5;refine gC (fun t66=>?_) (fun t66=>?_)
 ·have hin : i < t := by simpa [ac] using t66
  have h3:2^i*val (D1.take p1)<=G:=by rw[hg1];exact mul_le_mul_right _ (oY oz)
  have h4:(ofNat (2^i*val (D1.take p1))).length<=a.length:=fc oz;have ht:t<32*a.length:=Ee pD1 (by rw[<- hg1];exact hGa) vla;refine gc (yq _ _ (dp _) (dp _) (by unfold aD;omega) (by unfold aD;omega)) ?_;refine ga (c9 oz) ?_;exact aT J5 (i+1) hin (hw:=Wk.of (.cons rfl (Sub.of (by rw[ci,Nat.pow_succ];congr 2;grind)) (.k (.k .nil))) .nil)
 have hin:i=t:=by have:t<=i:=(by simpa[ac]using t66);omega
 subst hin;refine af ?_;rw[hg1]
theorem FL(a b:Wh)(ha:a.ok)(hb:b.ok)(la:a.mag.length+b.mag.length<aD):FP 293 [a.av,b.av] (zA (Int.gcd a.z b.z)):=by
 have h1:=Wh.m_le (w:=a);have h2:=Wh.m_le (w:=b);have h3:Int.gcd a.z b.z=Nat.gcd (val a.m) (val b.m):=by rw[Int.gcd,Wh.abs,Wh.abs]
 have h4:(ofNat (Nat.gcd (val a.m) (val b.m))).length<=a.m.length+b.m.length:=by
  rcases Nat.eq_zero_or_pos (val a.m)with h |h
  ·rw[h,Nat.gcd_zero_left,Wh.ofNat_m hb];omega
  ·exact le_trans (fc (lt_of_le_of_lt (Nat.gcd_le_left _ h) (cc _ (Wh.ws ha)))) oz
 refine aj func293 ?_;refine gc (kO a ha) ?_;refine gc (kO b hb) ?_;refine gc (Rn a.m b.m (Wh.ws ha) (Wh.ws hb) a.nz b.nz oz) ?_;refine gc (km false _ (dp _) oz) ?_;refine gD ?_;refine af ?_;rw[ci,h3];rfl
theorem OU(a b:Wh)(ha:a.ok)(hb:b.ok)(la:a.mag.length+1<aD)(lb:b.mag.length<aD)(h0:b.z≠0):FP 294 [a.av,b.av] (.tup [zA (a.z/b.z),zA (a.z%b.z),i64 0]):=by
 have hm1:=Wh.m_le (w:=a);have hm2:=Wh.m_le (w:=b);have hb1:val b.m≠0:=by have:=Wh.abs (w:=b);omega
 have hl1:(ofNat (val a.m/val b.m)).length<=a.m.length:=fc (lt_of_le_of_lt (Nat.div_le_self _ _) (cc _ (Wh.ws ha)));have hmod:=Nat.mod_lt (val a.m) (show 0<val b.m by omega);have hl2:(ofNat (val a.m%val b.m)).length<=b.m.length:=fc (Nat.lt_trans hmod (cc _ (Wh.ws hb)));have hl3:(ofNat (val a.m/val b.m+1)).length<=a.m.length+1:=fc (by have h7:=lt_of_le_of_lt (Nat.div_le_self (val a.m) (val b.m)) (cc _ (Wh.ws ha));rw[Nat.pow_succ];generalize val a.m/val b.m=m at *;omega);have hl4:(ofNat (val b.m-val a.m%val b.m)).length<=b.m.length:=fc (by have:=cc _ (Wh.ws hb);omega);have hv1:val [1]=1:=rfl;refine aj func294 ?_;refine gc (xE b hb) ?_;refine gC (fun t11=>?_) (fun t11=>?_) (st1:=(2,0));exact absurd (Int.sign_eq_zero_iff_zero.1 (by simpa[ac]using t11)) h0;refine gc (kO a ha) ?_;refine gc (kO b hb) ?_;refine gc (LO a.m b.m (Wh.ws ha) (Wh.ws hb) a.nz hb1 oz oz) ?_;refine gD ?_;refine gc (iT a ha) ?_;refine cO ?_;refine gC (fun t28=>?_) (fun t28=>?_)
 ·have h1:a.n = true /\ 0 < val a.m % val b.m:=vg.1 t28;obtain ⟨e1,e2⟩:=FW hb1 h1.1 h1.2;refine gc (yq (ofNat (val a.m / val b.m)) [1] (dp _) (r6 oz) oz (by unfold aD; simp)) ?_;refine gc (kO b hb) ?_;refine gc (A5 b.m (ofNat (val a.m % val b.m)) (Wh.ws hb) (dp _) oz (by rw [ci]; omega)) ?_;refine gD ?_ (6,0);refine gW (Wk.of (sl:=[(2,some (.ptr 2 0)),(3,some (.ptr 3 0)),(4,some (.ptr 4 0)),(5,some (.ptr 5 0)),(7,some (ws (ofNat (val a.m / val b.m + 1)))),(8,some (ws (ofNat (val b.m - val a.m % val b.m))))]) (hp:=[(2,some (.box [bl a.neg,ws a.mag])),(3,some (.box [bl b.neg,ws b.mag])),(4,some (.box [.v (.bool false),nS])),(5,some (.box [.v (.bool false),nS]))]) (.k (.k (.k (.k (.cons rfl (Sub.of (by rw [ci,hv1])) (.cons rfl (Sub.of (by rw [ci])) .nil)))))) (.k (.k (.k (.k .nil))))) ?_
  refine gc (iT a ha) ?_;refine gc (iT b hb) ?_;refine gc (by apply km _ _ (dp _) oz) ?_;refine gc (by apply km _ _ (dp _) oz) ?_;refine gD ?_;refine gR ?_;exact sZ (by rw[ci,ci,e1,show sgn false _=_ from e2];rfl)
 have h1:¬(a.n=true/\0<val a.m%val b.m):=fun h=>Bool.eq_false_iff.1 t28 (vg.2 h)
 obtain⟨e1,e2⟩:=DT hb1 h1;refine gc (iT a ha) ?_;refine gc (iT b hb) ?_;refine gc (by apply km _ _ (dp _) oz) ?_;refine gc (by apply km _ _ (dp _) oz) ?_;refine gD ?_;refine gR ?_;exact sZ (by rw[ci,ci,e1,show sgn false _=_ from e2];rfl)
theorem sk{x:Int}(hx:Zs x):FP 306 [zA x] (i64 x.sign):=by
 have h:=yU (ofInt x) hx.ok;rw[dN]at h;exact h
theorem wi{x:Int}(hx:Zs x):FP 234 [zA x] (zA (-x)):=by
 have h:=Va (ofInt x) hx.ok (by have:=hx.len;unfold aD;omega);rw[dN]at h;exact h
theorem E5{x y:Int}(hx:Zs x)(hy:Zs y):FP 304 [zA x,zA y] (i64 (gq x y)):=by
 have h:=MA (ofInt x) (ofInt y) hx.ok hy.ok;rw[dN,dN]at h;exact h
theorem MD{x y:Int}(hx:Zs x)(hy:Zs y):FP 320 [zA x,zA y] (zA (x+y)):=by
 have h:=Ng (ofInt x) (ofInt y) hx.ok hy.ok (by have:=hx.len;unfold aD;omega) (by have:=hy.len;unfold aD;omega);rw[dN,dN]at h;exact h
theorem l8{x y:Int}(hx:Zs x)(hy:Zs y):FP 321 [zA x,zA y] (zA (x*y)):=by
 have h:=OS (ofInt x) (ofInt y) hx.ok hy.ok (by have:=hx.len;have:=hy.len;unfold aD;omega);rw[dN,dN]at h;exact h
theorem RP{x y:Int}(hx:Zs x)(hy:Zs y):FP 305 [zA x,zA y] (zA (Int.gcd x y)):=by
 have h:=Gj (ofInt x) (ofInt y) hx.ok hy.ok (by have:=hx.len;unfold aD;omega) (by have:=hy.len;unfold aD;omega);rw[dN,dN]at h;exact h
theorem Dw{x y:Int}(hx:Zs x)(hy:Zs y)(h0:y≠0):FP 322 [zA x,zA y] (.tup [zA (x/y),zA (x%y),.v .nilIface]):=by
 have h:=PL (ofInt x) (ofInt y) hx.ok hy.ok (by have:=hx.len;unfold aD;omega) (by have:=hy.len;unfold aD;omega) (by rw[dN];exact h0);rw[dN,dN]at h;exact h
theorem uC{x:Int}(hx:Zs x):FP 221 [zA x] (i64 x.sign):=by
 have h:=xE (ofInt x) hx.ok;rw[dN]at h;exact h
theorem z4{x:Int}(hx:Zs x):FP 292 [zA x] (zA (-x)):=by
 have h:=GY (ofInt x) hx.ok (by have:=hx.len;unfold aD;omega);rw[dN]at h;exact h
theorem JC{x y:Int}(hx:Zs x)(hy:Zs y):FP 327 [zA x,zA y] (i64 (gq x y)):=by
 have h:=Mn (ofInt x) (ofInt y) hx.ok hy.ok (by have:=hx.len;unfold aD;omega) (by have:=hy.len;unfold aD;omega);rw[dN,dN]at h;exact h
theorem PW{x y:Int}(hx:Zs x)(hy:Zs y):FP 247 [zA x,zA y] (zA (x+y)):=by
 have h:=FR (ofInt x) (ofInt y) hx.ok hy.ok (by have:=hx.len;unfold aD;omega) (by have:=hy.len;unfold aD;omega);rw[dN,dN]at h;exact h
theorem ot{x y:Int}(hx:Zs x)(hy:Zs y):FP 248 [zA x,zA y] (zA (x*y)):=by
 have h:=MY (ofInt x) (ofInt y) hx.ok hy.ok (by have:=hx.len;have:=hy.len;unfold aD;omega);rw[dN,dN]at h;exact h
theorem OF{x y:Int}(hx:Zs x)(hy:Zs y):FP 293 [zA x,zA y] (zA (Int.gcd x y)):=by
 have h:=FL (ofInt x) (ofInt y) hx.ok hy.ok (by have:=hx.len;have:=hy.len;unfold aD;omega);rw[dN,dN]at h;exact h
theorem Ep{x y:Int}(hx:Zs x)(hy:Zs y)(h0:y≠0):FP 294 [zA x,zA y] (.tup [zA (x/y),zA (x%y),i64 0]):=by
 have h:=OU (ofInt x) (ofInt y) hx.ok hy.ok (by have:=hx.len;unfold aD;omega) (by have:=hy.len;unfold aD;omega) (by rw[dN];exact h0);rw[dN,dN]at h;exact h
def ky(e:Nat):Value:=match e with |0=>.nilIface |e+1=>.iface 60 (.int .i64 ((e+1:Nat):Int))
def cg(e:Nat):AV:=.v (ky e)
theorem S4(e:Nat):ky e=.nilIface\/∃T u,ky e=.iface T u:=by cases e;exact .inl rfl;exact .inr ⟨_,_,rfl⟩
theorem FI(e:Nat):fA (ky e)=decide (e=0):=by cases e <;> simp[ky,fA]
theorem To{e:Nat}(h:fA (ky e)=true):e=0:=by rw[FI]at h;exact of_decide_eq_true h
theorem KF{e:Nat}(h:fA (ky e)=false):e≠0:=by rw[FI]at h;exact of_decide_eq_false h
theorem fp{e:Nat}(h:(!fA (ky e))=true):e≠0:=KF (by cases h':fA (ky e) <;> simp_all)
theorem eM{e:Nat}(h:(!fA (ky e))=false):e=0:=To (by cases h':fA (ky e) <;> simp_all)
theorem Ah:FP 258 [] (zA 1):=by
 refine aj func258 ?_;refine gc (C3 1 oz) ?_;refine af ?_
 first |rfl |(simp;done)
theorem sw(r:Rt)(h:r.ok):FP 208 [r.av] (bl r.valid):=by
 have hn:=h.n0;have hd:=h.d0;refine aj func208 ?_;refine gl ?_;refine cO ?_;refine gC (fun t14=>?_) (fun t14=>?_)
 ·have h0 : r.num = [] /\ r.den = [] := by simpa [ac] using t14
  refine af ?_;unfold Rt.valid;rw[if_pos h0];rfl
 have h0:¬(r.num=[]/\r.den=[]):=by
  have:=t14;simp[ac]at this;exact fun h=>this h.1 h.2
 refine gD ?_;refine gl ?_;refine cO ?_;refine bT (fun _=>(vO r.n0 hn)) ?_;refine bT (fun _=>(vO r.d0 hd)) ?_;refine gC (fun t43=>?_) (fun t43=>?_)
 ·have h1:r.valid=false:=xz h0 t43;refine af ?_;rw[h1];rfl
 have h1:=DA h0 t43;refine gc (Gj r.n0 r.d0 hn hd h.n0l h.d0l) ?_;refine gc (by apply Ah) ?_;refine gc (E5 (Rt.gcd_zs h) w6) ?_;refine af ?_;rw[h1];rfl
theorem kW(r:Rt)(h:r.ok):FP 232 [r.av] (.tup [zA r.q.num,zA r.q.den]):=by
 have hl1:r.num.length<=137438953472:=h.2.2.1;have hl2:r.den.length<=137438953472:=h.2.2.2;refine aj func232 ?_;refine gc (sw r h) ?_;refine cO ?_;refine gC (fun t12=>?_) (fun t12=>?_)
 ·have h0:¬(r.valid=true/\r.num≠[]):=by
   have:=t12;intro h';simp[ac,h'.1,h'.2]at this
  refine gc Ah ?_;refine gR ?_;exact ef (by rw[Rt.zero h0];exact Sub.tup (.cons Ie (.cons (.refl _) .nil)))
 have h0:r.valid=true/\r.num≠[]:=by
  have:=t12;cases hv:r.valid
  ·rw[hv]at this;cases this
  ·rw[hv]at this;exact⟨rfl,by simpa[ac]using this⟩
 obtain⟨e1,e2,e3,e4,e5,e6⟩:=Rt.parts h h0.1 h0.2;refine gs (kE T43 rfl T350 rfl rfl rfl) ?_;refine gs (da (.tmp rfl) rfl rfl (.tmp rfl) T43 rfl T350 rfl rfl (by simp only[length_map];omega) rfl rfl) ?_;refine gD ?_ (4,0);refine gW ((Wk.freeze (k:=20) rfl).trans<|Wk.of (sl:=[(1,some (.ptr 1 0)),(2,some (.ptr 2 0)),(3,some (.ptr 3 0))]) (hp:=[(1,some (.box [bl r.neg,ws r.num,ws r.den])),(2,some (.box [bl r.neg,ws r.num])),(3,some (.box [bl false,nS]))]) bj (.k (.cons rfl (BlkSub.bL (.cons (.refl _) (.cons (.of (cw (by simp))) .nil)) rfl) (.k .nil)))) ?_;refine gs (kE T43 rfl T350 rfl rfl rfl) ?_;refine gs (da (.tmp rfl) rfl rfl (.tmp rfl) T43 rfl T350 rfl rfl (by simp only[length_map];omega) rfl rfl) ?_;refine gD ?_ (77777,0);refine gW ((Wk.freeze (k:=26) rfl).trans<|Wk.of (sl:=[(2,some (.ptr 2 0)),(3,some (.ptr 3 0))]) (hp:=[(2,some (.box [bl r.neg,ws r.num])),(3,some (.box [bl false,ws r.den]))]) bj (.k (.cons rfl (BlkSub.bL (.cons (.refl _) (.cons (.of (cw (by simp))) .nil)) rfl) .nil))) ?_;refine bF ?_;rw[e1,e2];exact Dv e3 e4 e5
theorem tI{n d:Int}(hn:Zs n)(hd:Zs d)(h0:d≠0):FP 233 [zA n,zA d] (qA (Rat.divInt n d)):=by
 refine aj func233 ?_;refine gc (sk hn) ?_;refine gC (fun t9=>?_) (fun t9=>?_)
 ·have e0 : n=0 := Int.sign_eq_zero_iff_zero.1 (by simpa[ac]using t9);refine gR ?_;exact iF (by rw[e0,Rat.zero_divInt];exact jz)
 have e0:n≠0:=fun h=>by rw[h]at t9;cases t9
 refine gc (sk hd) ?_;refine Ax [2,3,4] [4] (fun(n1 d1:Int)=>[]) (fun n1 d1=>[(2,some (.box (zA n1).cells)),(3,some (.box (zA d1).cells))]) (fun n1 d1=>0<d1/\n1≠0/\Zs n1/\Zs d1/\Rat.divInt n1 d1=Rat.divInt n d) ?_ ?_
 ·intro K1 J1;refine gC (fun t13=>?_) (fun t13=>?_)
  ·have e1 : d<0 := Int.sign_eq_neg_one_iff_neg.1 (by have := Int.sign_trichotomy d;have h9 : d.sign<0 := (by simpa[ac]using t13);omega);refine gc (wi hn) ?_;refine gc (wi hd) ?_;refine gD ?_;exact qg J1 (-n) (-d) ⟨by omega,by omega,hn.neg,hd.neg,Gc n d⟩
  have e1:0<d:=by
   have h9:0<=d.sign:=by simpa[ac]using t13
   have:=Int.sign_nonneg_iff.1 h9;omega
  exact qg J1 n d ⟨e1,e0,hn,hd,rfl⟩
 rintro n1 d1 ⟨f1,f2,f3,f4,f5⟩;refine gc (RP f3 f4) ?_;refine gc (sk f3) ?_;refine Bi [2,3,4,5] [3,4,5] (fun(n2:Int)=>[(6,some (bl (decide (n1<0))))]) (fun n2=>[(2,some (.box (zA n2).cells))]) (fun n2=>n2=(n1.natAbs:Int)) ?_ ?_
 ·intro K2 J2;refine gC (fun t24=>?_) (fun t24=>?_)
  ·have e2 : n1<0 := Int.sign_eq_neg_one_iff_neg.1 (by have := Int.sign_trichotomy n1;have h9 : n1.sign<0 := (by simpa[ac]using t24);omega);refine gc (wi f3) ?_;exact pZ J2 (-n1) oz (hw:=Wk.of (.cons rfl (Sub.of (by rw[show ac .lss n1.sign 0=true from t24,decide_eq_true e2];rfl)) (.k (.k (.k (.k .nil))))) (.k (.k (.k (.k .nil)))))
  have e2:0<n1:=by
   have h9:0<=n1.sign:=by simpa[ac]using t24
   have:=Int.sign_nonneg_iff.1 h9;omega
  exact pZ J2 n1 oz (hw:=Wk.of (.cons rfl (Sub.of (by rw[show ac .lss n1.sign 0=false from t24,decide_eq_false oz];rfl)) (.k (.k (.k (.k .nil))))) (.k (.k (.k (.k .nil)))))
 rintro n2 g1;have g2:Zs (Int.gcd n1 d1:Int):=f3.of_le (by rw[natAbs_natCast];exact Nat.le_of_dvd oz (Int.gcd_dvd_natAbs_left _ _));have g3:(Int.gcd n1 d1:Int)≠0:=by have:=Int.gcd_pos_of_ne_zero_left d1 f2;omega
 have g4:Zs n2:=f3.of_le oz;refine gc (Dw g4 g2 g3) ?_;refine gc (Dw f4 g2 g3) ?_;refine af ?_;rw[<- f5,<- SD f1 f2,<- g1];rfl
theorem J7{n d:Int}(hn:Zs n)(hd:Zs d):FP 404 [zA n,zA d] (.tup [qA (Rat.divInt n d),cg (if d=0 then 8 else 0)]):=by
 refine aj func404 ?_;refine gc (sk hd) ?_;refine gC (fun t8=>?_) (fun t8=>?_)
 ·have h0 : d=0 := Int.sign_eq_zero_iff_zero.1 (by simpa[ac]using t8);refine gR ?_;exact ef (by rw[if_pos h0,h0,Rat.divInt_zero];exact Sub.tup (.cons jz (.cons (.refl _) .nil)))
 have h0:d≠0:=fun h=>by rw[h]at t8;cases t8
 refine gc (tI hn hd h0) ?_;refine bF ?_;rw[if_neg h0];rfl
theorem mY(n:Int)(h:-9223372036854775808<=n/\n<=9223372036854775807):FP 151 [i64 n] (qA n):=by
 have hz:Zs n:=⟨2,by omega,by unfold Lz;simp only[Nat.reducePow];omega⟩
 refine aj func151 ?_;refine gc (C3 n h) ?_;refine gc Ah ?_;refine gc (tI hz w6 oz) ?_;refine af ?_;exact congrArg qA (Rat.num_divInt_den (n:Rat))
theorem Cw(a:Rt)(ha:a.ok):FP 121 [a.av] (qA (-a.q)):=by
 have za:=ha.qs;refine aj func121 ?_;refine gc (kW a ha) ?_;refine gc (wi za.num) ?_;refine gc (tI za.num.neg za.den (by have:=a.q.den_nz;omega)) ?_;refine gD ?_;refine af ?_;rw[C7];rfl
theorem uP(a:Rt)(ha:a.ok):FP 209 [a.av] (i64 (bN a.q)):=by
 refine aj func209 ?_;refine gc (kW a ha) ?_;refine gc (sk ha.qs.num) ?_;refine af ?_;rw[G9]
theorem D9(a b:Rt)(ha:a.ok)(hb:b.ok):FP 365 [a.av,b.av] (i64 (bN (a.q-b.q))):=by
 have za:=ha.qs;have zb:=hb.qs;have m1:=za.mul zb;have m2:=zb.mul za;refine aj func365 ?_;refine gc (kW a ha) ?_;refine gc (kW b hb) ?_;refine gc (l8 za.num zb.den) ?_;refine gc (l8 zb.num za.den) ?_;refine gc (E5 m1.1 m2.1) ?_;refine gD ?_;refine af ?_;rw[N9]
theorem rv(a b:Rt)(ha:a.ok)(hb:b.ok):FP 231 [a.av,b.av] (qA (a.q+b.q)):=by
 have za:=ha.qs;have zb:=hb.qs;have m1:=za.mul zb;have m2:=zb.mul za;refine aj func231 ?_;refine gc (kW a ha) ?_;refine gc (kW b hb) ?_;refine gc (l8 za.num zb.den) ?_;refine gc (l8 zb.num za.den) ?_;refine gc (MD m1.1 m2.1) ?_;refine gc (l8 za.den zb.den) ?_;refine gc (tI (za.cross zb) m1.2.2.1 (Int.mul_ne_zero (by have:=a.q.den_nz;omega) (by have:=b.q.den_nz;omega))) ?_;refine gD ?_;refine af ?_;rw[A0];rfl
theorem MC(a b:Rt)(ha:a.ok)(hb:b.ok):FP 262 [a.av,b.av] (qA (a.q-b.q)):=by
 refine aj func262 ?_;refine gc (Cw b hb) ?_;refine gc (rv a (rt (-b.q)) ha hb.qs.neg.ok) ?_;refine gD ?_;refine af ?_;rw[bP,<- Rat.sub_eq_add_neg];rfl
theorem Gz(a b:Rt)(ha:a.ok)(hb:b.ok):FP 286 [a.av,b.av] (qA (a.q*b.q)):=by
 have za:=ha.qs;have zb:=hb.qs;have m1:=za.mul zb;refine aj func286 ?_;refine gc (kW a ha) ?_;refine gc (kW b hb) ?_;refine gc (l8 za.num zb.num) ?_;refine gc (l8 za.den zb.den) ?_;refine gc (tI m1.2.1 m1.2.2.1 (Int.mul_ne_zero (by have:=a.q.den_nz;omega) (by have:=b.q.den_nz;omega))) ?_;refine gD ?_;refine af ?_;rw[x3];rfl
theorem GE(a b:Rt)(ha:a.ok)(hb:b.ok):FP 385 [a.av,b.av] (.tup [qA (a.q/b.q),cg (if b.q=0 then 8 else 0)]):=by
 have za:=ha.qs;have zb:=hb.qs;have m1:=za.mul zb;refine aj func385 ?_;refine gc (kW a ha) ?_;refine gc (kW b hb) ?_;refine gc (l8 za.num zb.den) ?_;refine gc (l8 za.den zb.num) ?_;refine gc (J7 m1.1 m1.2.2.2) ?_;refine gD ?_;refine bF ?_
 have e1:((a.q.den:Int)*b.q.num=0)=(b.q=0):=by
  apply propext;rw[<- Rat.num_eq_zero,Int.mul_eq_zero];exact⟨fun h=>h.resolve_left (by have:=a.q.den_nz;omega),.inr⟩
 simp only[An,e1];rfl
theorem zW{p:Pse}(h:p.ok=true):p.turn.err=0/\p.at_.x.valid=true/\p.at_.y.valid=true:=by
 unfold Pse.ok at h;simp only[and_eq_true,decide_eq_true_eq]at h;exact⟨h.1.1,h.1.2,h.2⟩
structure Pq where
  c:List Rat
  s:List Rat
  x:List Rat
  y:List Rat
def Pq.av(p:Pq):AV:=.agg [nA p.c,nA p.s,nA p.x,nA p.y]
structure Pq.ok(n e:Nat)(p:Pq):Prop where
  c:Nm n e p.c
  s:Nm n e p.s
  x:Nm n e p.x
  y:Nm n e p.y
def bK(p:Pse):Pq:=⟨sh 0 (dM p.turn.half p.turn.t.q:Rat),sh 0 (dP p.turn.half p.turn.t.q:Rat),sh 0 (p.at_.x.q:Rat),sh 0 (p.at_.y.q:Rat)⟩
def B4(ps:List Pse):Nat:=if ps.all Pse.ok=true then 0 else 2
def ofL(ps:List Pse):List Pq:=if ps.all Pse.ok=true then ps.map bK else[]
def Ij(bs:List Pq):AV:=.agg [.lst 1 [],.lst 4 (bs.map Pq.av),.lst 1 []]
theorem SA{bs:List Pq}:Sub (.agg [.v (.slice none 0 0),.lst 4 (bs.map Pq.av),.v (.slice none 0 0)]) (Ij bs):=.agg (.cons (.nil _ _ _) (.cons (.refl _) (.cons (.nil _ _ _) .nil))) rfl
theorem qN{half:Bool}{t:Rat}{e:Nat}(h:Qb e t):Qb (4*e+6) (dM half t):=by
 unfold dM;split
 ·exact Qb.one.neg.mono oz
 ·exact((Qb.one.sub (h.mul h)).div (Qb.one.add (h.mul h))).mono oz
theorem rg{half:Bool}{t:Rat}{e:Nat}(h:Qb e t):Qb (4*e+6) (dP half t):=by
 unfold dP;split
 ·exact Qb.zero.mono oz
 ·exact((h.add h).div (Qb.one.add (h.mul h))).mono oz
theorem oy{n e:Nat}{q:Rat}(hn:n<=5)(h:Qb e q):Nm n (e+e) (sh 0 (q:Rat)):=by
 have h1:Nl n (sh 0 (q:Rat)):=by
  have:Nl 0 (sh 0 (q:Rat)):=di 0 _;rcases this with h |⟨j,hj,h⟩
  ·exact .inl h
  ·exact .inr ⟨j,by omega,h⟩
 refine⟨hn,h1,?_⟩
 have hm:∀p∈sh 0 (q:Rat),Qb e p:=by
  intro p hp
  have:p=q:=by
   unfold sh at hp;split at hp
   ·cases hp
   ·exact List.mem_singleton.1 hp
  rw[this];exact h
 obtain⟨D,N,h3,h4,h5⟩:=vo hm
 have h6:(sh 0 (q:Rat)).length<=1:=by
  rcases(di 0 (q:Rat))with h |⟨j,hj,h⟩
  ·rw[h];simp
  ·have : j = 0 := by omega
   subst this;rw[h];simp
 have h7:e*(sh 0 (q:Rat)).length<=e*1:=mul_le_mul_left _ h6;exact⟨D,N,h3,le_trans h4 (bY oz),le_trans h5 (bY oz)⟩
theorem xq{n:Nat}{p:Pse}(hn:n<=5)(h:p.lok):(bK p).ok n 1000 :=
 ⟨(oy hn (qN h.t)).mono oz,(oy hn (rg h.t)).mono oz,(oy hn h.x).mono oz,(oy hn h.y).mono oz⟩
def Ls(ts:LL)(b:Pl)(w:Pq):Bool :=
  dV ts (ae ts.length (lq b.c)) (ae ts.length w.c)&&dV ts (ae ts.length (lq b.s)) (ae ts.length w.s)&&dV ts (ae ts.length (lq b.x)) (ae ts.length w.x)&&dV ts (ae ts.length (lq b.y)) (ae ts.length w.y)
def mE(a:As)(ps:List Pse):Nat :=
  if bt a.rs≠0 then bt a.rs else if B4 ps≠0 then B4 ps else if a.bs.length≠ps.length then 10 else fK (a.bs.map (fun b=>bi a.rs b.l))
def mB(a:As)(ps:List Pse):Bool:=decide (mE a ps=0)&&(a.bs.zip ps).all (fun z=>Ls (llq a.rs) z.1 (bK z.2))
theorem HK{rs:List (List Rt)}{b:Pl}{E:Nat}(h:bi rs b.l=0)(hb:∀x∈b.l,NR x E)(h5:rs.length<=5) :
  b.av=Pq.av ⟨lq b.c,lq b.s,lq b.x,lq b.y⟩/\Pq.ok rs.length E ⟨lq b.c,lq b.s,lq b.x,lq b.y⟩:=by
 have h1:=(jm h).2
 have g:∀x∈b.l,nR x=nA (lq x)/\Nm rs.length E (lq x):=fun x hx=>by
  obtain⟨e1,e2⟩:=(hb x hx).num (h1 x hx);exact⟨e1,h5,e2,(hb x hx).cb⟩
 have c:=g b.c (by simp[Pl.l]);have s:=g b.s (by simp[Pl.l]);have x:=g b.x (by simp[Pl.l]);have y:=g b.y (by simp[Pl.l]);exact⟨by unfold Pl.av Pq.av;rw[c.1,s.1,x.1,y.1],c.2,s.2,x.2,y.2⟩
instance:Inhabited Tn:=⟨⟨⟨false,[],[]⟩,false⟩⟩
def dI(n:Nat)(ok:Nat->Bool):Option Nat:=(List.range n).find? (fun i=>!ok i)
theorem ja{n i:Nat}{ok:Nat->Bool}(hi:i<n)(h:∀j,j<i->ok j=true)(he:ok i=false):dI n ok=some i:=by
 unfold dI;rw[List.find?_range_eq_some];exact⟨by rw[he];rfl,by simpa using hi,fun j hj=>by rw[h j hj];rfl⟩
theorem jc{n:Nat}{ok:Nat->Bool}(h:∀j,j<n->ok j=true):dI n ok=none:=by
 unfold dI;rw[List.find?_range_eq_none];exact fun j hj=>by rw[h j hj];rfl
theorem TP{n:Nat}{ok:Nat->Bool}(h:dI n ok=none):∀j,j<n->ok j=true:=by
 unfold dI at h;rw[List.find?_range_eq_none]at h;intro j hj;have:=h j hj;simpa using this
def mW:Option Nat->Int
  |none=>-1
  |some i=>i
def tv:Pq:=⟨[1],[],[],[]⟩
abbrev ib(ts:LL)(x:List Rt):T ts.length:=ae ts.length (lq x)
def mH(ts:LL)(b:Pl)(m:Mk):T ts.length×T ts.length:=(sP ts (ib ts b.c) (ib ts b.s) (ib ts b.x) m.x.q m.y.q,tj ts (ib ts b.c) (ib ts b.s) (ib ts b.y) m.x.q m.y.q)
def fD(l:Li)(a:As)(body pt:Int):T (llq a.rs).length×T (llq a.rs).length:=mH (llq a.rs) (a.bs.getD body.toNat default) ((cE l body).getD pt.toNat default)
def nC(l:Li)(a:As)(j:Jt):Bool :=
  if j.kind=0 then dV (llq a.rs) (fD l a j.a j.point).1 (fD l a j.b j.on).1&&dV (llq a.rs) (fD l a j.a j.point).2 (fD l a j.b j.on).2
  else decide (T.sgn (aw (llq a.rs)) (llq a.rs).length (pi (llq a.rs) (fD l a j.b j.on).1 (fD l a j.b j.on).2 (fD l a j.b j.to).1 (fD l a j.b j.to).2 (fD l a j.a j.point).1 (fD l a j.a j.point).2)=0)
def BG(ts:LL)(b:Pl)(x:Tn):Bool :=
  dV ts (ib ts b.c) (ae ts.length (sh 0 (dM x.half x.t.q:Rat)))&&dV ts (ib ts b.s) (ae ts.length (sh 0 (dP x.half x.t.q:Rat)))
def HA(l:Li)(xs:List Tn)(a:As)(i:Nat):Bool:=BG (llq a.rs) (a.bs.getD (l.dv.getD i default).body.toNat default) (xs.getD i default)
theorem dY{l:Li}(h:aO l=0):iI l=0/\eU l=0/\ir l=0/\l.bo.length<=8/\l.bo.length≠0:=by
 unfold aO at h;split at h
 ·cases h
 ·split at h
  ·cases h
  ·split at h
   ·cases h
   ·split at h
    ·rename_i h1;exact absurd h h1
    ·rename_i g1 _ h1;split at h
     ·rename_i h2;exact absurd h h2
     ·rename_i h2;exact⟨Decidable.not_not.1 h1,Decidable.not_not.1 h2,h,by omega,by omega⟩
theorem DS{l:Li}(h:aO l=0){i:Nat}{j:Jt}(hj:l.jo[i]?=some j):eF l j=0:=by
 have h1:=(dY h).2.1;unfold eU at h1;split at h1
 ·cases h1
 ·have h2:=xb h1 i (List.getElem?_eq_some_iff.1 hj).1;unfold fT at h2;rw[ao hj]at h2;split at h2
  ·cases h2
  ·split at h2
   ·cases h2
   ·exact h2
theorem dw{l:Li}(h:aO l=0){i:Nat}{j:Jt}(hj:l.jo[i]?=some j) :
  bD j.a l.bo.length=true/\bD j.b l.bo.length=true/\bD j.point (cE l j.a).length=true/\bD j.on (cE l j.b).length=true/\(j.kind≠0->bD j.to (cE l j.b).length=true):=by
 have h1:=DS h hj;unfold eF at h1;split at h1
 ·cases h1
 ·split at h1
  ·cases h1
  ·rename_i h2;split at h1
   ·cases h1
   ·split at h1
    ·cases h1
    ·rename_i h3;have a1:bD j.a l.bo.length = true:=by cases h:bD j.a l.bo.length <;> simp_all
     have a2:bD j.b l.bo.length=true:=by cases h:bD j.b l.bo.length <;> simp_all
     have a3:bD j.point (cE l j.a).length=true:=by cases h:bD j.point (cE l j.a).length <;> simp_all
     have a4:bD j.on (cE l j.b).length=true:=by cases h:bD j.on (cE l j.b).length <;> simp_all
     refine⟨a1,a2,a3,a4,fun hk=>?_⟩;rw[if_neg hk]at h1;split at h1
     ·cases h1
     ·rename_i h4;cases h:bD j.to (cE l j.b).length <;> simp_all
theorem lQ{l:Li}(h:aO l=0){i:Nat}{d:Dr}(hd:l.dv[i]?=some d):bD d.body l.bo.length=true:=by
 have h1:=(dY h).2.2.1;unfold ir at h1;split at h1
 ·cases h1
 ·have h2:=xb h1 i (List.getElem?_eq_some_iff.1 hd).1;unfold ek at h2;rw[ao hd]at h2;split at h2
  ·cases h2
  ·split at h2
   ·cases h2
   ·split at h2
    ·cases h2
    ·rename_i h3;cases h:bD d.body l.bo.length <;> simp_all
theorem HN{l:Li}(h:aO l=0){n k:Nat}{b:Bd}{m:Mk}(hb:l.bo[n]?=some b)(hm:b.pts[k]?=some m):m.x.valid=true/\m.y.valid=true:=by
 have h2:=xb (dY h).1 n (List.getElem?_eq_some_iff.1 hb).1;unfold eA at h2;rw[ao hb]at h2;split at h2
 ·cases h2
 ·split at h2
  ·cases h2
  ·split at h2
   ·cases h2
   ·have h3:=xb h2 k (List.getElem?_eq_some_iff.1 hm).1;unfold eg at h3;rw[ao hm]at h3;split at h3
    ·cases h3
    ·split at h3
     ·cases h3
     ·split at h3
      ·assumption
      ·cases h3
structure Good(l:Li)(a:As):Prop where
  lo:l.ok
  li:aO l=0
  al:AL a
  ck:bt a.rs=0
  cb:∀b∈a.bs,bi a.rs b.l=0
  ln:a.bs.length=l.bo.length
theorem Good.tw{l:Li}{a:As}(h:Good l a):Tw (llq a.rs) 40000/\cq a.rs=aR (llq a.rs)/\a.rs.length<=5/\(llq a.rs).length=a.rs.length:=by
 obtain⟨tw,hta⟩:=cI h.al.tr h.ck;have h5:a.rs.length<=5:=by have:=tw.five;rwa [length_map]at this
 exact⟨tw,hta,h5,length_map _⟩
theorem Good.pl{l:Li}{a:As}(h:Good l a){n:Nat}{b:Pl}(hb:a.bs[n]?=some b) :
  b.av=Pq.av ⟨lq b.c,lq b.s,lq b.x,lq b.y⟩/\Pq.ok (llq a.rs).length 4000 ⟨lq b.c,lq b.s,lq b.x,lq b.y⟩:=by
 have h1:=HK (h.cb b (mem_of_getElem? hb)) (h.al.nr b (mem_of_getElem? hb)) h.tw.2.2.1;rw[h.tw.2.2.2];exact h1
structure AtP(l:Li)(a:As)(body pt:Int)(n k:Nat)(bd:Bd)(m:Mk)(b:Pl):Prop where
  hn:body=n
  hk:pt=k
  gbd:l.bo[n]?=some bd
  gm:bd.pts[k]?=some m
  gb:a.bs[n]?=some b
  eq:fD l a body pt=mH (llq a.rs) b m
  mx:m.x.av=qA m.x.q
  my:m.y.av=qA m.y.q
  qx:Qb 4000 m.x.q
  qy:Qb 4000 m.y.q
theorem Good.at{l:Li}{a:As}(h:Good l a){body pt:Int}(h1:bD body l.bo.length=true)(h2:bD pt (cE l body).length=true):∃n k bd m b,AtP l a body pt n k bd m b:=by
 obtain⟨bd,g1,g2,g3,g4⟩:=oS h1;rw[g2]at h2;obtain⟨m,g5,g6,g7,g8⟩:=qH h2;obtain⟨b,hb⟩:=aG (l:=a.bs) (i:=body.toNat) (by rw[h.ln];exact(List.getElem?_eq_some_iff.1 g1).1);have hv:=HN h.li g1 g5;have ho:=(h.lo.bo bd g3).pts m g7
 exact ⟨body.toNat, pt.toNat, bd, m, b, by omega, by omega, g1, g5, hb, by unfold fD; rw [ao hb, g2, g6],
  by rw[show qA m.x.q=(rt m.x.q).av from rfl,<- Rt.eq_rt ho.x hv.1],by rw[show qA m.y.q=(rt m.y.q).av from rfl,<- Rt.eq_rt ho.y hv.2],ho.qx.mono oz,ho.qy.mono oz⟩
theorem z6{ts:LL}{r e f:Nat}(tw:Tw ts r){b:Pl}{m:Mk}(hb:Pq.ok ts.length e ⟨lq b.c,lq b.s,lq b.x,lq b.y⟩)(hx:Qb f m.x.q)(hy:Qb f m.y.q) :
  Nm ts.length (3*e+2*f+2*kB r ts.length+10) (sh ts.length (mH ts b m).1)/\Nm ts.length (3*e+2*f+2*kB r ts.length+10) (sh ts.length (mH ts b m).2):=by
 have nx:=Nm.ofQ tw.five (Cb.one hx);have ny:=Nm.ofQ tw.five (Cb.one hy);have h1:=(rI tw hb.c hb.s nx ny).add hb.x;rw[vB]at h1;have h2:=(ud tw hb.c hb.s nx ny).add hb.y;rw[xi]at h2;exact⟨h1.mono oz,h2.mono oz⟩
theorem MT{n:Nat}(hn:n<=5):tv.ok n 4000:=by
 have h1:Nm n 4000 ([1]:List Rat):=by
  have:=oy (q:=1) hn Qb.one;have e:sh 0 (1:Rat)=([1]:List Rat):=rfl;rw[e]at this;exact this.mono oz
 have h0:Nm n 4000 ([]:List Rat):=⟨hn,.inl rfl,Cb.nil.mono oz⟩
 exact⟨h1,h0,h0,h0⟩
structure DrP(l:Li)(xs:List Tn)(a:As)(i:Nat)(d:Dr)(n:Nat)(b:Pl)(x:Tn):Prop where
  hn:d.body=n
  gb:a.bs[n]?=some b
  gx:xs[i]?=some x
  ec:nR b.c=nA (lq b.c)
  es:nR b.s=nA (lq b.s)
  av:b.av=Pq.av ⟨lq b.c,lq b.s,lq b.x,lq b.y⟩
  po:Pq.ok (llq a.rs).length 4000 ⟨lq b.c,lq b.s,lq b.x,lq b.y⟩
  eq:HA l xs a i=BG (llq a.rs) b x
theorem Good.dr{l:Li}{a:As}(h:Good l a){xs:List Tn}(hx:∀x∈xs,x.t.ok/\x.err=0/\Qb 1000 x.t.q)(hxl:xs.length=l.dv.length){i:Nat}{d:Dr}(hd:l.dv[i]?=some d):∃n b x,DrP l xs a i d n b x:=by
 have h1:=dz (lQ h.li hd);obtain⟨b,hb⟩:=aG (l:=a.bs) (i:=d.body.toNat) (by rw[h.ln];omega);obtain⟨x,hxx⟩:=aG (l:=xs) (i:=i) (by rw[hxl];exact(List.getElem?_eq_some_iff.1 hd).1);obtain⟨g1,g2⟩:=h.pl hb;have g3:=(jm (h.cb b (mem_of_getElem? hb))).2;have g4:=h.al.nr b (mem_of_getElem? hb)
 exact ⟨d.body.toNat, b, x, by omega, hb, hxx, ((g4 b.c (by simp [Pl.l])).num (g3 b.c (by simp [Pl.l]))).1, ((g4 b.s (by simp [Pl.l])).num (g3 b.s (by simp [Pl.l]))).1, g1, g2,
  by unfold HA;rw[ao hd,ao hb,ao hxx]⟩
structure Gr where
  kind:Int
  bo:List Int
  jo:List Int
  driver:Int
instance:Inhabited Gr:=⟨⟨0,[],[],0⟩⟩
def Gr.av(g:Gr):AV:=.agg [i64 g.kind,.lst 1 (g.bo.map i64),.lst 1 (g.jo.map i64),i64 g.driver]
def kn(k:List Bool)(i:Int):Bool:=k.getD i.toNat false
def dg(n:Nat)(b:Int):List Bool:=(List.replicate n false).set b.toNat true
def o5(l:Li)(b:Int):Bool:=l.dv.any (fun d=>decide (d.body=b))
def freeB(l:Li)(kw:List Bool)(b:Int):Bool:=!kn kw b&&!o5 l b
def kS(kind body:Int)(oth:List Bool)(j:Jt):Bool:=decide (j.kind=kind)&&(decide (j.a=body)&&kn oth j.b||decide (j.b=body)&&kn oth j.a)
def jointI(l:Li)(kind body:Int)(oth:List Bool):Int:=mW (dI l.jo.length (fun i=>!kS kind body oth (l.jo.getD i default)))
def drHit(l:Li)(kw:List Bool)(i:Nat):Bool:=!kn kw (l.dv.getD i default).body&&decide (0<=jointI l 0 (l.dv.getD i default).body kw)
def driverG(l:Li)(kw:List Bool):Option Gr :=
  (dI l.dv.length (fun i=>!drHit l kw i)).map fun i=>⟨0,[(l.dv.getD i default).body],[jointI l 0 (l.dv.getD i default).body kw],i⟩
def prHit(l:Li)(kw:List Bool)(i k:Nat):Bool :=
  (freeB l kw i&&freeB l kw k)&&(decide (0<=jointI l 0 i kw)&&decide (0<=jointI l 0 k kw)&&decide (0<=jointI l 0 i (dg l.bo.length k)))
def prAt(l:Li)(kw:List Bool)(i:Nat):Option Nat:=(dI (l.bo.length-(i+1)) (fun k=>!prHit l kw i (i+1+k))).map (·+(i+1))
def prG(l:Li)(kw:List Bool)(i k:Nat):Gr:=⟨1,[i,k],[jointI l 0 i kw,jointI l 0 k kw,jointI l 0 i (dg l.bo.length k)],0⟩
def pairG(l:Li)(kw:List Bool):Option Gr :=
  (dI l.bo.length (fun i=>(prAt l kw i).isNone)).map fun i=>match prAt l kw i with
    |some k=>prG l kw i k
    |none=>default
def sgHit(l:Li)(kw:List Bool)(i:Nat):Bool:=freeB l kw i&&(decide (0<=jointI l 0 i kw)&&decide (0<=jointI l 1 i kw))
def sgG(l:Li)(kw:List Bool)(i:Nat):Gr :=
  ⟨if(l.jo.getD (jointI l 1 i kw).toNat default).a=i then 2 else 3,[i],[jointI l 0 i kw,jointI l 1 i kw],0⟩
def singleG(l:Li)(kw:List Bool):Option Gr:=(dI l.bo.length (fun i=>!sgHit l kw i)).map (sgG l kw)
def nextG(l:Li)(kw:List Bool):Option Gr:=(driverG l kw).or ((pairG l kw).or (singleG l kw))
def bU(kw:List Bool)(bs:List Int):List Bool:=bs.foldl (fun k b=>k.set b.toNat true) kw
def findFrom(l:Li):Nat->List Bool->List Gr->List Bool×List Gr
  |0,kw,out=>(kw,out)
  |n+1,kw,out=>match nextG l kw with
    |none=>(kw,out)
    |some g=>findFrom l n (bU kw g.bo) (out++[g])
def findG(l:Li):List Gr:=(findFrom l l.bo.length (dg l.bo.length 0) []).2
def cJ(l:Li):List Bool:=(findG l).foldl (fun k g=>bU k g.bo) (dg l.bo.length 0)
def fg(l:Li):List Bool:=(findG l).foldl (fun k g=>bU k g.jo) (List.replicate l.jo.length false)
def fU(k:List Bool):List Int:=((List.range k.length).filter (fun i=>!k.getD i false)).map (fun i:Nat=>((i:Nat):Int))
def splitE(l:Li):Nat:=if(fU (cJ l)).length+(fU (fg l)).length=0 then 0 else 7
def splitG(l:Li):List Gr:=if splitE l=0 then findG l else[]
theorem CE{kind body:Int}{oth:List Bool}{j:Jt}{va vb:Bool}(ea:kn oth j.a=va)(eb:kn oth j.b=vb) :
  cond (ac .eql j.kind kind) (cond (cond (ac .eql j.a body) vb false) true (cond (ac .eql j.b body) va false)) false=kS kind body oth j:=by
 unfold kS;rw[qJ,qJ,qJ,ea,eb,gX,gX,gX,s9]
theorem jl(n:Nat)(b:Int):(dg n b).length=n:=by unfold dg;simp
theorem kQ:∀(bs:List Int)(k:List Bool),(bU k bs).length=k.length
 |[],k=>rfl
 |b::bs,k=>by
  show(bU (k.set b.toNat true) bs).length=_;rw[kQ bs];simp
theorem iu{n i:Nat}{ok:Nat->Bool}(h:dI n ok=some i):i<n/\ok i=false:=by
 unfold dI at h;rw[List.find?_range_eq_some]at h;exact⟨by simpa using h.2.1,by simpa using h.1⟩
theorem mv{l:Li}{kind body:Int}{oth:List Bool}:-1<=jointI l kind body oth/\jointI l kind body oth<l.jo.length:=by
 unfold jointI;cases h:dI l.jo.length (fun i=>!kS kind body oth (l.jo.getD i default))with
 |none=>exact⟨by decide,by show(-1:Int)<_;omega⟩
 |some i=>have:=(iu h).1;exact⟨by show(-1:Int)<=(i:Int);omega,by show(i:Int)<_;omega⟩
structure GrOk(l:Li)(g:Gr):Prop where
  b:∀x∈g.bo,0<=x/\x<l.bo.length
  j:∀x∈g.jo,0<=x/\x<l.jo.length
  lb:g.bo.length<=2
  lj:g.jo.length<=3
theorem Tj{l:Li}(hl:aO l=0){kw:List Bool}{g:Gr}(h:driverG l kw=some g):GrOk l g:=by
 unfold driverG at h;rw[map_eq_some_iff]at h;obtain⟨i,hi,rfl⟩:=h;obtain⟨h1,h2⟩:=iu hi;obtain⟨d,hd⟩:=aG h1;have h3:=dz (lQ hl hd);unfold drHit at h2;simp only[Bool.not_eq_false',and_eq_true,decide_eq_true_eq]at h2;rw[ao hd]at h2 ⊢;have h4:=mv (l:=l) (kind:=0) (body:=d.body) (oth:=kw);refine⟨fun x hx=>?_,fun x hx=>?_,by simp,by simp⟩
 ·rw[List.mem_singleton.1 hx];exact h3
 ·rw[List.mem_singleton.1 hx];exact⟨h2.2,h4.2⟩
theorem MV{l:Li}{kw:List Bool}{g:Gr}(h:pairG l kw=some g):GrOk l g:=by
 unfold pairG at h;rw[map_eq_some_iff]at h;obtain⟨i,hi,h⟩:=h;obtain⟨h1,h2⟩:=iu hi;split at h
 ·rename_i k hk;subst h;unfold prAt at hk;rw [map_eq_some_iff] at hk;obtain ⟨k',hk',rfl⟩:=hk;obtain ⟨h3,h4⟩:=iu hk';rw [show i + 1 + k' = k' + (i + 1) by omega] at h4;unfold prHit at h4;simp only [Bool.not_eq_false',and_eq_true,decide_eq_true_eq] at h4;obtain ⟨_,⟨j1,j2⟩,j3⟩:=h4;refine ⟨fun x hx=>?_,fun x hx=>?_,by simp [prG],by simp [prG]⟩
  ·simp only[prG,mem_cons,not_mem_nil,or_false]at hx;rcases hx with rfl |rfl <;> constructor <;> omega
  ·simp only[prG,mem_cons,not_mem_nil,or_false]at hx;rcases hx with rfl |rfl |rfl
   ·exact⟨j1,mv.2⟩
   ·exact⟨j2,mv.2⟩
   ·exact⟨j3,mv.2⟩
 ·rename_i hk;rw[hk]at h2;cases h2
theorem RA{l:Li}{kw:List Bool}{g:Gr}(h:singleG l kw=some g):GrOk l g:=by
 unfold singleG at h;rw[map_eq_some_iff]at h;obtain⟨i,hi,rfl⟩:=h;obtain⟨h1,h2⟩:=iu hi;unfold sgHit at h2;simp only[Bool.not_eq_false',and_eq_true,decide_eq_true_eq]at h2;obtain⟨_,j1,j2⟩:=h2;refine⟨fun x hx=>?_,fun x hx=>?_,by simp[sgG],by simp[sgG]⟩
 ·simp only[sgG,mem_cons,not_mem_nil,or_false]at hx;subst hx;constructor <;> omega
 ·simp only[sgG,mem_cons,not_mem_nil,or_false]at hx;rcases hx with rfl |rfl
  ·exact⟨j1,mv.2⟩
  ·exact⟨j2,mv.2⟩
theorem Bp{l:Li}(hl:aO l=0){kw:List Bool}{g:Gr}(h:nextG l kw=some g):GrOk l g:=by
 unfold nextG at h;cases h1:driverG l kw with
 |some g'=>rw[h1]at h;cases h;exact Tj hl h1
 |none =>
  rw[h1]at h;cases h2:pairG l kw with
  |some g'=>rw[h2]at h;cases h;exact MV h2
  |none=>rw[h2]at h;exact RA h
theorem HH{l:Li}(hl:aO l=0):∀(n:Nat)(kw:List Bool)(out:List Gr),(∀g∈out,GrOk l g)->(∀g∈(findFrom l n kw out).2,GrOk l g)/\(findFrom l n kw out).2.length<=out.length+n
 |0,kw,out,h=>⟨h,by simp[findFrom]⟩
 |n+1,kw,out,h=>by
  unfold findFrom;cases hg:nextG l kw with
  |none=>exact⟨h,by simp⟩
  |some g =>
   have h1:=HH hl n (bU kw g.bo) (out++[g]) (fun x hx=>by
    rcases List.mem_append.1 hx with hx |hx
    ·exact h x hx
    ·rw[List.mem_singleton.1 hx];exact Bp hl hg)
   refine⟨h1.1,?_⟩;have:=h1.2;rw[length_append]at this;show(findFrom l n (bU kw g.bo) (out++[g])).2.length<=_;simp only[length_cons,length_nil]at this;omega
theorem tc{l:Li}(hl:aO l=0):(∀g∈findG l,GrOk l g)/\(findG l).length<=8:=by
 have h:=HH hl l.bo.length (dg l.bo.length 0) [] (fun g hg=>by cases hg);have h8:=(dY hl).2.2.2.1;exact⟨h.1,by have:=h.2;simp only[length_nil]at this;unfold findG;omega⟩
def jW(j:Jt)(b:Int):Int:=if b=j.a then j.b else if b=j.b then j.a else -1
def wI(kind body:Int)(p:Int->Bool)(j:Jt):Bool:=decide (j.kind=kind)&&(decide (0<=jW j body)&&p (jW j body))
def gJ(l:Li)(kind body:Int)(p:Int->Bool):Int:=mW (dI l.jo.length (fun i=>!wI kind body p (l.jo.getD i default)))
theorem US{b:Bool}{z:Int}(h:cond b (ac .geq z 0) false=true):0<=z:=by
 cases b
 ·cases h
 ·exact of_decide_eq_true h
theorem IW{a k z:Int}{q:Bool}:cond (cond (ac .eql a k) (ac .geq z 0) false) q false=(decide (a=k)&&(decide (0<=z)&&q)):=by
 rw[qJ,show ac .geq z 0=decide (0<=z)from rfl,gX,gX,Bool.and_assoc]
theorem Us{l:Li}(hli:aO l=0){i:Nat}{j:Jt}(hj:l.jo[i]?=some j)(b:Int):jW j b<l.bo.length:=by
 obtain⟨i1,i2,_⟩:=dw hli hj;have b1:=dz i1;have b2:=dz i2;unfold jW;split
 ·omega
 ·split <;> omega
theorem Jg{n:Nat}{ok ok':Nat->Bool}(h:∀i,i<n->ok i=ok' i):dI n ok=dI n ok':=by
 unfold dI
 have:∀l:List Nat,(∀i∈l,i<n)->l.find? (fun i=>!ok i)=l.find? (fun i=>!ok' i):=by
  intro l
  induction l with
  |nil=>intro _;rfl
  |cons a l ih =>
   intro hl;simp only[List.find?_cons,h a (hl a (by simp)),ih (fun i hi=>hl i (by simp[hi]))]
 exact this _ (fun i hi=>List.mem_range.1 hi)
theorem Bc{l:Li}(hli:aO l=0){kind body:Int}{p:Int->Bool}{oth:List Bool}(h:∀o:Int,0<=o->o<l.bo.length->p o=kn oth o):gJ l kind body p=jointI l kind body oth:=by
 unfold gJ jointI;rw[Jg];intro i hi;obtain⟨j,hj⟩:=aG hi;rw[ao hj];obtain⟨i1,i2,_⟩:=dw hli hj;have b1:=dz i1;have b2:=dz i2;congr 1;unfold wI kS;congr 1;unfold jW
 by_cases h1:body=j.a
 ·subst h1;rw[if_pos rfl,h _ b2.1 b2.2]
  by_cases h2:j.b=j.a
  ·simp[h2,b1.1]
  ·simp[h2,b2.1]
 ·rw[if_neg h1]
  by_cases h2:body=j.b
  ·subst h2;rw[if_pos rfl,h _ b1.1 b1.2];have h3:¬j.a=j.b:=fun e=>h1 e.symm
   simp[h3,b1.1]
  ·rw[if_neg h2];have h3:¬j.a=body:=fun e=>h1 e.symm
   have h4:¬j.b=body:=fun e=>h2 e.symm
   simp[h3,h4]
theorem Cr{k:List Bool}{i:Nat}{b:Int}(h0:0<=b)(hi:i<k.length):kn (k.set i true) b=(decide (b=i)||kn k b):=by
 unfold kn;rw[getD_eq_getElem?_getD,List.getElem?_set,getD_eq_getElem?_getD]
 by_cases h:b=i
 ·rw[decide_eq_true h,Bool.true_or,if_pos oz];rw[if_pos oz];rfl
 ·rw[decide_eq_false h,Bool.false_or,if_neg oz]
theorem GO:∀{bs:List Int}{k:List Bool}{b:Int},0<=b->(∀x∈bs,0<=x/\x<k.length)->kn (bU k bs) b=(bs.any (fun x=>decide (x=b))||kn k b)
 |[],k,b,h0,h=>by simp[bU]
 |x::bs,k,b,h0,h=>by
  show kn (bU (k.set x.toNat true) bs) b=_;obtain⟨hx0,hx1⟩:=h x (by simp);rw[GO h0 (fun y hy=>by rw[length_set];exact h y (by simp[hy])),Cr h0 oz,List.any_cons];have e:decide (b=(x.toNat:Int))=decide (x=b):=decide_eq_decide.2 oz;rw[e];cases decide (x=b) <;> simp
theorem BN(n:Nat)(b:Int):kn (List.replicate n false) b=false:=by
 unfold kn;rw[getD_eq_getElem?_getD,List.getElem?_replicate];split <;> rfl
def b7(l:Li):List Bool:=bU (List.replicate l.bo.length false) (l.dv.map Dr.body)
theorem ul(l:Li):(b7 l).length=l.bo.length:=by unfold b7;rw[kQ,length_replicate]
theorem LA{l:Li}(hli:aO l=0){b:Int}(h0:0<=b):kn (b7 l) b=o5 l b:=by
 unfold b7 o5;rw[GO h0,BN,Bool.or_false,List.any_map]
 ·rfl
 ·intro x hx;obtain⟨d,hd,rfl⟩:=List.mem_map.1 hx;obtain⟨i,hi⟩:=List.mem_iff_getElem?.1 hd;have:=dz (lQ hli hi);rw[length_replicate];omega
theorem yJ{n:Nat}{b o:Int}(h0:0<=o)(hb0:0<=b)(hb:b<n):kn (dg n b) o=decide (o=b):=by
 unfold dg;rw[Cr h0 (by rw[length_replicate];omega),BN,Bool.or_false];exact decide_eq_decide.2 oz
def dL(k:List Bool):Nat:=k.countP (fun x=>!x)
theorem L1{k:List Bool}{i:Nat}(h:k[i]?=some false):dL (k.set i true)+1=dL k:=by
 unfold dL;have hi:=(List.getElem?_eq_some_iff.1 h).1;have he:=(List.getElem?_eq_some_iff.1 h).2;rw[List.countP_set hi,he];have:0<k.countP (fun x=>!x):=List.countP_pos_iff.2 ⟨false,mem_of_getElem? h,rfl⟩;simp;omega
theorem Sn(k:List Bool)(i:Nat):dL (k.set i true)<=dL k:=by
 by_cases hi:i<k.length
 ·unfold dL;rw[List.countP_set hi];simp
 ·rw[List.set_eq_of_length_le oz];exact le_refl _
theorem IE:∀(bs:List Int)(k:List Bool),dL (bU k bs)<=dL k
 |[],k=>le_refl _
 |x::bs,k=>le_trans (IE bs (k.set x.toNat true)) (Sn k _)
theorem VI{x:Int}{bs:List Int}{k:List Bool}(h:k[x.toNat]?=some false):dL (bU k (x::bs))<dL k:=by
 have h1:=IE bs (k.set x.toNat true);have h2:=L1 h;show dL (bU (k.set x.toNat true) bs)<_;omega
theorem zp{k:List Bool}{b:Int}(h:kn k b=false)(h1:b.toNat<k.length):k[b.toNat]?=some false:=by
 unfold kn at h;rw[getD_eq_getElem?_getD,getElem?_eq_getElem h1]at h;rw[getElem?_eq_getElem h1];simpa using h
theorem PV{l:Li}(hl:aO l=0){kw:List Bool}(hk:kw.length=l.bo.length){g:Gr}(h:nextG l kw=some g):∃x bs,g.bo=x::bs/\kw[x.toNat]?=some false:=by
 unfold nextG at h;cases h1:driverG l kw with
 |some g' =>
  rw[h1]at h;cases h
  unfold driverG at h1;rw[map_eq_some_iff]at h1;obtain⟨i,hi,rfl⟩:=h1;obtain⟨h2,h3⟩:=iu hi;obtain⟨d,hd⟩:=aG h2;have h4:=dz (lQ hl hd);rw[ao hd]at *;unfold drHit at h3;rw[ao hd]at h3;simp only[Bool.not_eq_false',and_eq_true,Bool.not_eq_true',decide_eq_true_eq]at h3;exact⟨_,_,rfl,zp h3.1 oz⟩
 |none =>
  rw[h1]at h;cases h2:pairG l kw with
  |some g' =>
   rw[h2]at h;cases h
   unfold pairG at h2;rw[map_eq_some_iff]at h2;obtain⟨i,hi,h2⟩:=h2;obtain⟨h3,h4⟩:=iu hi;split at h2
   ·rename_i k hk';subst h2;unfold prAt at hk';rw[map_eq_some_iff]at hk';obtain⟨k',hk',rfl⟩:=hk';obtain⟨h5,h6⟩:=iu hk';unfold prHit freeB at h6;simp only[Bool.not_eq_false',and_eq_true,Bool.not_eq_true',decide_eq_true_eq]at h6;exact⟨_,_,rfl,zp h6.1.1.1 oz⟩
   ·rename_i hk';rw[hk']at h4;cases h4
  |none =>
   rw[h2]at h;have h:singleG l kw=some g:=h;unfold singleG at h;rw[map_eq_some_iff]at h;obtain⟨i,hi,rfl⟩:=h;obtain⟨h3,h4⟩:=iu hi;unfold sgHit freeB at h4;simp only[Bool.not_eq_false',and_eq_true,Bool.not_eq_true',decide_eq_true_eq]at h4;exact⟨_,_,rfl,zp h4.1.1 oz⟩
theorem tJ{l:Li}(hl:aO l=0){kw:List Bool}(hk:kw.length=l.bo.length){g:Gr}(h:nextG l kw=some g):dL (bU kw g.bo)<dL kw:=by
 obtain⟨x,bs,e,h1⟩:=PV hl hk h;rw[e];exact VI h1
theorem Al{l:Li}(hl:aO l=0):∀(n m:Nat)(kw:List Bool)(out:List Gr),kw.length=l.bo.length->dL kw<=n->dL kw<=m->findFrom l n kw out=findFrom l m kw out
 |0,0,kw,out,hk,h1,h2=>rfl
 |0,m+1,kw,out,hk,h1,h2=>by
  unfold findFrom;cases hg:nextG l kw with
  |none=>rfl
  |some g=>have:=tJ hl hk hg;omega
 |n+1,0,kw,out,hk,h1,h2=>by
  unfold findFrom;cases hg:nextG l kw with
  |none=>rfl
  |some g=>have:=tJ hl hk hg;omega
 |n+1,m+1,kw,out,hk,h1,h2=>by
  unfold findFrom;cases hg:nextG l kw with
  |none=>rfl
  |some g =>
   have:=tJ hl hk hg;exact Al hl n m _ _ (by rw[kQ];exact hk) oz oz
theorem xB{l:Li}:∀(n:Nat)(kw:List Bool)(out:List Gr),∃gs,findFrom l n kw out=(gs.foldl (fun k g=>bU k g.bo) kw,out++gs)
 |0,kw,out=>⟨[],by simp[findFrom]⟩
 |n+1,kw,out=>by
  unfold findFrom;cases hg:nextG l kw with
  |none=>exact⟨[],by simp⟩
  |some g =>
   obtain⟨gs,e⟩:=xB n (bU kw g.bo) (out++[g]);exact⟨g::gs,by show findFrom l n _ _=_;rw[e];simp⟩
theorem Ni(l:Li):findFrom l l.bo.length (dg l.bo.length 0) []=(cJ l,findG l):=by
 obtain⟨gs,e⟩:=xB (l:=l) l.bo.length (dg l.bo.length 0) [];unfold cJ findG;rw[e];simp
theorem H4{k:List Bool}:(fU k).length=0↔k.contains false=false:=by
 unfold fU;rw[length_map,List.length_eq_zero_iff,List.filter_eq_nil_iff];constructor
 ·intro h;rw[<- Bool.not_eq_true,List.contains_iff_mem];intro hm;obtain⟨i,hi⟩:=List.mem_iff_getElem?.1 hm;have hlt:=(List.getElem?_eq_some_iff.1 hi).1;have:=h i (List.mem_range.2 hlt);rw[getD_eq_getElem?_getD,hi]at this;simp at this
 ·intro h i hi;rw[<- Bool.not_eq_true,List.contains_iff_mem]at h;intro hc;have hlt:=List.mem_range.1 hi;rw[getD_eq_getElem?_getD,getElem?_eq_getElem hlt]at hc;simp at hc;exact h (hc▸List.getElem_mem hlt)
theorem qK:Sub (.agg [.v (.int .i64 0),.v (.slice none 0 0),.v (.slice none 0 0),.v (.int .i64 0)]) (Gr.av default):=.agg (.cons (.refl _) (.cons (.nil _ _ _) (.cons (.nil _ _ _) (.cons (.refl _) .nil)))) rfl
theorem IL{z:Int}(h:ac .geq z 0=true):0<=z:=of_decide_eq_true h
theorem Cn{z:Int}(h:ac .geq z 0=false):¬0<=z:=of_decide_eq_false h
theorem wz{a b c:Int}:cond (cond (ac .geq a 0) (ac .geq b 0) false) (ac .geq c 0) false=(decide (0<=a)&&decide (0<=b)&&decide (0<=c)):=by
 have e:∀z:Int,ac .geq z 0=decide (0<=z):=fun z=>rfl
 rw[e,e,e,gX,gX]
theorem F6{a b:Int}:cond (ac .lss a 0) true (ac .lss b 0)=!(decide (0<=a)&&decide (0<=b)):=by
 have e:∀z:Int,ac .lss z 0=!decide (0<=z):=fun z=>by rw[<- decide_not];exact decide_eq_decide.2 oz
 rw[e,e,s9,Bool.not_and]
theorem Fs{a b:Int}(h:cond (ac .lss a 0) true (ac .lss b 0)=true):(decide (0<=a)&&decide (0<=b))=false:=by rw[F6]at h;exact dH h
theorem Dg{a b:Int}(h:cond (ac .lss a 0) true (ac .lss b 0)=false):0<=a/\0<=b:=by
 rw[F6]at h;have:=dC h;simpa using this
structure TieO(l:Li)(kind:Int)(bs:List Int)(z b:Int)(j:Jt):Prop where
  hz:0<=z
  hj:l.jo[z.toNat]?=some j
  kd:j.kind=kind
  tie:(j.a=b/\j.b∉bs)\/(j.b=b/\j.a∉bs)
inductive DyK(l:Li):Gr->Prop where
  |drv {b z d:Int} {j:Jt} {x:Dr} (t:TieO l 0 [b] z b j) (d0:0<=d) (hd:l.dv[d.toNat]?=some x) (hb:x.body=b):DyK l ⟨0,[b],[z],d⟩
  |rrr {i k z0 z1 z2:Int} {j0 j1 j2:Jt} (ne:i≠k) (t0:TieO l 0 [i,k] z0 i j0) (t1:TieO l 0 [i,k] z1 k j1) (h0:0<=z2) (h2:l.jo[z2.toNat]?=some j2) (kd:j2.kind=0)
      (tie:(j2.a=i/\j2.b=k)\/(j2.b=i/\j2.a=k)):DyK l ⟨1,[i,k],[z0,z1,z2],0⟩
  |pr {i z0 z1:Int} {j0 j1:Jt} (t0:TieO l 0 [i] z0 i j0) (t1:TieO l 1 [i] z1 i j1) (ha:j1.a=i):DyK l ⟨2,[i],[z0,z1],0⟩
  |rp {i z0 z1:Int} {j0 j1:Jt} (t0:TieO l 0 [i] z0 i j0) (t1:TieO l 1 [i] z1 i j1) (ha:j1.a≠i):DyK l ⟨3,[i],[z0,z1],0⟩
theorem BC{l:Li}{kind b:Int}{oth:List Bool}(h:0<=jointI l kind b oth) :
  ∃(i:Nat)(j:Jt),jointI l kind b oth=(i:Int)/\l.jo[i]?=some j/\j.kind=kind/\((j.a=b/\kn oth j.b=true)\/(j.b=b/\kn oth j.a=true)):=by
 unfold jointI at h ⊢;cases hf:dI l.jo.length (fun i=>!kS kind b oth (l.jo.getD i default))with
 |none=>rw[hf]at h;exact absurd h (by decide)
 |some i =>
  obtain⟨h1,h2⟩:=iu hf;obtain⟨j,hj⟩:=aG h1;rw[ao hj]at h2;unfold kS at h2;simp only[Bool.not_eq_false',and_eq_true,or_eq_true,decide_eq_true_eq]at h2;exact⟨i,j,rfl,hj,h2.1,h2.2⟩
theorem tf{l:Li}{kind b:Int}{kw:List Bool}{bs:List Int}(hb:∀x∈bs,kn kw x=false)(h:0<=jointI l kind b kw):∃j,TieO l kind bs (jointI l kind b kw) b j:=by
 obtain⟨i,j,e,hj,hk,ht⟩:=BC h;have hn:∀x,kn kw x=true->x∉bs:=fun x hx hm=>by rw[hb x hm]at hx;cases hx
 refine⟨j,h,by rw[e,toNat_natCast];exact hj,hk,?_⟩;rcases ht with⟨h1,h2⟩ |⟨h1,h2⟩
 ·exact .inl ⟨h1,hn _ h2⟩
 ·exact .inr ⟨h1,hn _ h2⟩
theorem uK{l:Li}{kw:List Bool}{b:Int}(h:freeB l kw b=true):kn kw b=false:=by
 unfold freeB at h;simp only[and_eq_true,Bool.not_eq_true']at h;exact h.1
theorem AJ{kw:List Bool}{b:Int}(h:kn kw b=false):∀x∈[b],kn kw x=false:=fun x hx=>by rw[List.mem_singleton.1 hx];exact h
theorem PP{l:Li}(hl:aO l=0){kw:List Bool}{g:Gr}(h:driverG l kw=some g):DyK l g:=by
 unfold driverG at h;rw[map_eq_some_iff]at h;obtain⟨i,hi,rfl⟩:=h;obtain⟨h1,h2⟩:=iu hi;obtain⟨d,hd⟩:=aG h1;unfold drHit at h2;simp only[Bool.not_eq_false',and_eq_true,decide_eq_true_eq,Bool.not_eq_true']at h2;rw[ao hd]at h2 ⊢;obtain⟨j,hj⟩:=tf (AJ h2.1) h2.2;exact .drv hj oz (by rw[toNat_natCast];exact hd) rfl
theorem Vf{l:Li}(hl:aO l=0){kw:List Bool}{g:Gr}(h:pairG l kw=some g):DyK l g:=by
 unfold pairG at h;rw[map_eq_some_iff]at h;obtain⟨i,hi,h⟩:=h;obtain⟨h1,h2⟩:=iu hi;split at h
 ·rename_i k hk;subst h;unfold prAt at hk;rw [map_eq_some_iff] at hk;obtain ⟨k',hk',rfl⟩:=hk;obtain ⟨h3,h4⟩:=iu hk';rw [show i + 1 + k' = k' + (i + 1) by omega] at h4;unfold prHit at h4;simp only [Bool.not_eq_false',and_eq_true,decide_eq_true_eq] at h4;obtain ⟨⟨f1,f2⟩,⟨j1,j2⟩,j3⟩:=h4
  have hb:∀x∈[(i:Int),((k'+(i+1):Nat):Int)],kn kw x=false:=fun x hx=>by
   simp only[mem_cons,not_mem_nil,or_false]at hx;rcases hx with rfl |rfl
   ·exact uK f1
   ·exact uK f2
  obtain⟨a0,t0⟩:=tf hb j1;obtain⟨a1,t1⟩:=tf hb j2;obtain⟨n,a2,e,hj,hkd,ht⟩:=BC j3;obtain⟨i1,i2,_⟩:=dw hl hj;have i1:=(dz i1).1;have i2:=(dz i2).1;refine .rrr oz t0 t1 j3 (by rw[e,toNat_natCast];exact hj) hkd ?_;rcases ht with⟨e1,e2⟩ |⟨e1,e2⟩
  ·rw[yJ i2 oz oz]at e2;exact .inl ⟨e1,of_decide_eq_true e2⟩
  ·rw[yJ i1 oz oz]at e2;exact .inr ⟨e1,of_decide_eq_true e2⟩
 ·rename_i hk;rw[hk]at h2;cases h2
theorem KN{l:Li}{kw:List Bool}{g:Gr}(h:singleG l kw=some g):DyK l g:=by
 unfold singleG at h;rw[map_eq_some_iff]at h;obtain⟨i,hi,rfl⟩:=h;obtain⟨h1,h2⟩:=iu hi;unfold sgHit at h2;simp only[Bool.not_eq_false',and_eq_true,decide_eq_true_eq]at h2;obtain⟨f1,j1,j2⟩:=h2;obtain⟨a0,t0⟩:=tf (AJ (uK f1)) j1;obtain⟨a1,t1⟩:=tf (AJ (uK f1)) j2;unfold sgG;rw[ao t1.hj]
 by_cases e:a1.a=i
 ·rw[if_pos e];exact .pr t0 t1 e
 ·rw[if_neg e];exact .rp t0 t1 e
theorem UC{l:Li}(hl:aO l=0){kw:List Bool}{g:Gr}(h:nextG l kw=some g):DyK l g:=by
 unfold nextG at h;cases h1:driverG l kw with
 |some g'=>rw[h1]at h;cases h;exact PP hl h1
 |none =>
  rw[h1]at h;cases h2:pairG l kw with
  |some g'=>rw[h2]at h;cases h;exact Vf hl h2
  |none=>rw[h2]at h;exact KN h
theorem Dm{l:Li}(hl:aO l=0):∀(n:Nat)(kw:List Bool)(out:List Gr),(∀g∈out,DyK l g)->∀g∈(findFrom l n kw out).2,DyK l g
 |0,kw,out,h=>h
 |n+1,kw,out,h=>by
  unfold findFrom;cases hg:nextG l kw with
  |none=>exact h
  |some g=>exact Dm hl n (bU kw g.bo) (out++[g]) (fun x hx=>by
    rcases List.mem_append.1 hx with hx |hx
    ·exact h x hx
    ·rw[List.mem_singleton.1 hx];exact UC hl hg)
theorem nV{l:Li}(hl:aO l=0){g:Gr}(h:g∈splitG l):DyK l g/\GrOk l g:=by
 unfold splitG at h;split at h
 ·exact⟨Dm hl _ _ _ (fun g hg=>by cases hg) g h,(tc hl).1 g h⟩
 ·cases h
open Lean.Grind
def E(r:(k:Nat)->T k)(n:Nat):Type:=T n
namespace T
theorem ofQ_zero:∀n,ofQ n 0=zero n
 |0=>rfl
 |n+1=>by simp only[ofQ,zero,ofQ_zero n]
theorem ofQ_add:∀n (p q:Rat),ofQ n (p+q)=add n (ofQ n p) (ofQ n q)
 |0,p,q=>rfl
 |n+1,p,q=>by simp only[ofQ,add,ofQ_add n,add_zero]
theorem ofQ_neg:∀n (p:Rat),ofQ n (-p)=neg n (ofQ n p)
 |0,p=>rfl
 |n+1,p=>by simp only[ofQ,neg,ofQ_neg n,neg_zero]
end T
structure Laws(r:(k:Nat)->T k)(n:Nat):Prop where
  assoc:∀x y z,T.mul r n (T.mul r n x y) z=T.mul r n x (T.mul r n y z)
  dist:∀x y z,T.mul r n x (T.add n y z)=T.add n (T.mul r n x y) (T.mul r n x z)
  one:∀x,T.mul r n (T.ofQ n 1) x=x
theorem T.neg_mul'{r:(k:Nat)->T k}{n:Nat}(h:Laws r n)(x y:T n):T.mul r n (T.neg n x) y=T.neg n (T.mul r n x y):=by
 have h1:T.add n (T.mul r n x y) (T.mul r n (T.neg n x) y)=T.zero n:=by
  rw[T.mul_comm r n x,T.mul_comm r n (T.neg n x),<- h.dist,T.add_neg,T.mul_zero]
 have h2:=congrArg (fun z=>T.add n (T.neg n (T.mul r n x y)) z) h1;simp only[T.add_zero]at h2;rw[<- T.add_assoc,T.add_comm n (T.neg n _),T.add_neg,T.zero_add]at h2;exact h2
theorem T.mul_addr{r:(k:Nat)->T k}{n:Nat}(h:Laws r n)(a b c:T n):T.mul r n (T.add n a b) c=T.add n (T.mul r n a c) (T.mul r n b c):=by
 rw[T.mul_comm r n _ c,h.dist,T.mul_comm r n c,T.mul_comm r n c]
instance (r:(k:Nat)->T k)(n:Nat):Add (E r n):=⟨T.add n⟩
instance (r:(k:Nat)->T k)(n:Nat):Mul (E r n):=⟨T.mul r n⟩
instance (r:(k:Nat)->T k)(n:Nat):Neg (E r n):=⟨T.neg n⟩
instance (r:(k:Nat)->T k)(n:Nat):_root_.Sub (E r n):=⟨fun x y=>T.add n x (T.neg n y)⟩
instance (r:(k:Nat)->T k)(n c:Nat):OfNat (E r n) c:=⟨T.ofQ n (c:Rat)⟩
instance (r:(k:Nat)->T k)(n:Nat):NatCast (E r n):=⟨fun c=>T.ofQ n (c:Rat)⟩
instance (r:(k:Nat)->T k)(n:Nat):IntCast (E r n):=⟨fun c=>T.ofQ n (c:Rat)⟩
instance (r:(k:Nat)->T k)(n:Nat):SMul Nat (E r n):=⟨fun c x=>T.mul r n (T.ofQ n (c:Rat)) x⟩
instance (r:(k:Nat)->T k)(n:Nat):SMul Int (E r n):=⟨fun c x=>T.mul r n (T.ofQ n (c:Rat)) x⟩
def E.pow{r:(k:Nat)->T k}{n:Nat}(x:E r n):Nat->E r n
  |0=>T.ofQ n 1
  |c+1=>T.mul r n (E.pow x c) x
instance (r:(k:Nat)->T k)(n:Nat):HPow (E r n) Nat (E r n):=⟨E.pow⟩
@[reducible] def Laws.ring {r:(k:Nat)->T k} {n:Nat} (h:Laws r n):CommRing (E r n) where
  add_zero a:=by
    show T.add n a (T.ofQ n ((0:Nat):Rat))=a;rw[show(((0:Nat):Rat))=0 from rfl,T.ofQ_zero];exact T.add_zero n a
  add_comm a b:=T.add_comm n a b
  add_assoc a b c:=T.add_assoc n a b c
  mul_assoc a b c:=h.assoc a b c
  mul_one a:=(T.mul_comm r n a _).trans (h.one a)
  one_mul a:=h.one a
  left_distrib a b c:=h.dist a b c
  right_distrib a b c:=T.mul_addr h a b c
  zero_mul a:=by
    show T.mul r n (T.ofQ n ((0:Nat):Rat)) a=T.ofQ n ((0:Nat):Rat);rw[show(((0:Nat):Rat))=0 from rfl,T.ofQ_zero];exact T.zero_mul r n a
  mul_zero a:=by
    show T.mul r n a (T.ofQ n ((0:Nat):Rat))=T.ofQ n ((0:Nat):Rat);rw[show(((0:Nat):Rat))=0 from rfl,T.ofQ_zero];exact T.mul_zero r n a
  pow_zero a:=rfl
  pow_succ a c:=rfl
  ofNat_succ c:=by
    show T.ofQ n ((c+1:Nat):Rat)=T.add n (T.ofQ n (c:Rat)) (T.ofQ n ((1:Nat):Rat));rw[<- T.ofQ_add];congr 1;exact Rat.natCast_add c 1
  ofNat_eq_natCast c:=rfl
  nsmul_eq_natCast_mul c a:=rfl
  neg_add_cancel a:=(T.add_comm n (T.neg n a) a).trans ((T.add_neg n a).trans (T.ofQ_zero n).symm)
  sub a b:=T.add n a (T.neg n b)
  sub_eq_add_neg a b:=rfl
  neg_zsmul i a:=(congrArg (fun z=>T.mul r n z a) (show T.ofQ n ((-i:Int):Rat)=T.neg n (T.ofQ n (i:Rat)) by rw[Rat.intCast_neg,T.ofQ_neg])).trans (T.neg_mul' h _ a)
  zsmul_natCast_eq_nsmul c a:=rfl
  intCast_ofNat c:=rfl
  intCast_neg i:=by
    show T.ofQ n ((-i:Int):Rat)=T.neg n (T.ofQ n (i:Rat));rw[Rat.intCast_neg,T.ofQ_neg]
  mul_comm a b:=T.mul_comm r n a b
section
variable{R:Type}[CommRing R](x y u v p q d:R)
theorem TE:(x*u+y*v*d)*p+(x*v+y*u)*q*d=x*(u*p+v*q*d)+y*(u*q+v*p)*d:=by grind
theorem Qq:(x*u+y*v*d)*q+(x*v+y*u)*p=x*(u*q+v*p)+y*(u*p+v*q*d):=by grind
theorem PK:x*(u+p)+y*(v+q)*d=(x*u+y*v*d)+(x*p+y*q*d):=by grind
theorem Rr:x*(v+q)+y*(u+p)=(x*v+y*u)+(x*q+y*p):=by grind
end
theorem mw(r:(k:Nat)->T k):∀n,Laws r n
 |0=>⟨fun x y z=>Rat.mul_assoc x y z,fun x y z=>Rat.mul_add x y z,fun x=>Rat.one_mul x⟩
 |n+1=>by
  have I:=(mw r n).ring;have h1:=(mw r n).one;refine⟨?_,?_,?_⟩
  ·rintro⟨x,y⟩ ⟨u,v⟩ ⟨p,q⟩;exact Prod.ext (@TE (E r n) (mw r n).ring x y u v p q (r n)) (@Qq (E r n) (mw r n).ring x y u v p q (r n))
  ·rintro⟨x,y⟩ ⟨u,v⟩ ⟨p,q⟩;exact Prod.ext (@PK (E r n) (mw r n).ring x y u v p q (r n)) (@Rr (E r n) (mw r n).ring x y u v p q)
  ·rintro⟨u,v⟩;refine Prod.ext ?_ ?_
   ·show T.add n (T.mul r n (T.ofQ n 1) u) (T.mul r n (T.mul r n (T.zero n) v) (r n))=u;rw[h1,T.zero_mul,T.zero_mul,T.add_zero]
   ·show T.add n (T.mul r n (T.ofQ n 1) v) (T.mul r n (T.zero n) u)=v;rw[h1,T.zero_mul,T.add_zero]
instance eRing(r:(k:Nat)->T k)(n:Nat):CommRing (E r n):=(mw r n).ring
structure Sg(R:Type)[CommRing R](s:R->Int):Prop where
  cs:∀x,s x=-1\/s x=0\/s x=1
  one:s 1=1
  neg:∀x,s (-x)=-s x
  mul:∀x y,s (x*y)=s x*s y
  add:∀x y,0<=s x->0<=s y->0<=s (x+y)
namespace Sg
variable{R:Type}[CommRing R]{s:R->Int}
theorem zero(h:Sg R s):s 0=0:=by
 have h1:=h.neg 0;rw[show -(0:R)=0 by grind]at h1;omega
theorem zadd(h:Sg R s){x y:R}(hx:s x=0):s (x+y)=s y:=by
 have h1:=h.cs y;have h2:=h.cs (x+y);have n1:=h.neg x;have n2:=h.neg y;have n3:=h.neg (x+y);have a1:=h.add x y;have a2:=h.add (-x) (-y);have a3:=h.add (-x) (x+y);have a4:=h.add x (-(x+y));rw[show -x+-y=-(x+y) by grind]at a2;rw[show -x+(x+y)=y by grind]at a3;rw[show x+-(x+y)=-y by grind]at a4;omega
theorem padd(h:Sg R s){x y:R}(hx:s x=1)(hy:0<=s y):s (x+y)=1:=by
 have h2:=h.cs (x+y);have a1:=h.add x y;have n2:=h.neg y;have n3:=h.neg (x+y);have a4:=h.add (-(x+y)) y;have e:-(x+y)+y=-x:=by grind
 have n1:=h.neg x;rw[e]at a4;rcases h2 with h2 |h2 |h2
 ·omega
 ·have:=h.zadd (x:=-(x+y)) (y:=y) oz;rw[e]at this;omega
 ·exact h2
theorem sq(h:Sg R s)(x:R):0<=s (x*x):=by
 rw[h.mul];rcases h.cs x with e |e |e <;> rw[e] <;> decide
theorem sub0(h:Sg R s){x y:R}(hx:s (x-y)=0):s x=s y:=by
 have:=h.zadd (y:=y) hx
 rwa [show x-y+y=x by grind]at this
theorem sqle(h:Sg R s){a b:R}(ha:0<=s a)(hb:0<=s (a*a-b*b)):0<=s (a+b):=by
 have c1:=h.cs (a+b);rcases c1 with c1 |c1 |c1
 ·exfalso;have n1:=h.neg (a+b);have p1:s (-(a+b)+a)=1:=h.padd oz ha;rw[show -(a+b)+a=-b by grind]at p1;have p2:s (-b+a)=1:=h.padd p1 ha;have m:=h.mul (-b+a) (a+b);rw[show(-b+a)*(a+b)=a*a-b*b by grind,p2,c1]at m;omega
 ·omega
 ·omega
theorem cancel(h:Sg R s){p x:R}(hp:s p=1)(hx:0<=s (p*x)):0<=s x:=by
 rw[h.mul,hp]at hx;omega
end Sg
def bM{r:(k:Nat)->T k}{n:Nat}(x y:E r n):E r (n+1):=((x,y):T n×T n)
def sg(r:(k:Nat)->T k)(n:Nat)(x:E r n):Int:=T.sgn r n x
def bI(r:(k:Nat)->T k)(n:Nat):E r n:=r n
variable{r:(k:Nat)->T k}{n:Nat}
theorem ka(z:E r (n+1)):∃x y:E r n,z=bM x y:=⟨z.1,z.2,rfl⟩
theorem oG(x y u v:E r n):bM x y+bM u v=bM (x+u) (y+v):=rfl
theorem rV(x y:E r n):-bM x y=bM (-x) (-y):=rfl
theorem kt(x y u v:E r n):bM x y*bM u v=bM (x*u+y*v*bI r n) (x*v+y*u):=rfl
theorem E.zero_def:(0:E r n)=T.zero n:=T.ofQ_zero n
theorem uV:(1:E r (n+1))=bM 1 0:=by
 show T.ofQ (n+1) ((1:Nat):Rat)=(T.ofQ n ((1:Nat):Rat),T.ofQ n ((0:Nat):Rat));rw[show(((0:Nat):Rat))=0 from rfl,T.ofQ_zero];rfl
def aV(x y:E r n):E r n:=x*x+-(y*y*bI r n)
theorem kz(x y:E r n):sg r (n+1) (bM x y)=T.sgn3 (sg r n x) (sg r n y) (sg r n (bI r n)) (sg r n (aV x y)):=rfl
def PE(x y:E r n):Prop:=(0<=sg r n x/\0<=sg r n (aV x y))\/(0<=sg r n y/\0 <= -sg r n (aV x y))
theorem qj(h:Sg (E r n) (sg r n))(hd:sg r n (bI r n)=1)(x y:E r n):0<=sg r (n+1) (bM x y)↔PE x y:=by
 rw[kz,hd];unfold PE
 have f1:sg r n y=0->sg r n (aV x y)=sg r n x*sg r n x:=by
  intro hy;have h1:sg r n (-(y*y*bI r n))=0:=by rw[h.neg,h.mul,h.mul,hy];simp
  have:=h.zadd (y:=x*x) h1;unfold aV;rw[show x*x+-(y*y*bI r n)=-(y*y*bI r n)+x*x by grind,this,h.mul]
 have f2:sg r n x=0->sg r n (aV x y)=-(sg r n y*sg r n y):=by
  intro hx;have h1:sg r n (x*x)=0:=by rw[h.mul,hx];simp
  have:=h.zadd (y:=-(y*y*bI r n)) h1;unfold aV;rw[this,h.neg,h.mul,h.mul,hd];simp
 have c1:=h.cs x;have c2:=h.cs y;have c3:=h.cs (aV x y)
 revert f1 f2 c1 c2 c3
 generalize sg r n x=a;generalize sg r n y=b;generalize sg r n (aV x y)=c;intro f1 f2 c1 c2 c3;rcases c1 with rfl |rfl |rfl <;> rcases c2 with rfl |rfl |rfl <;> rcases c3 with rfl |rfl |rfl <;> first |decide |(exfalso;revert f1 f2;decide)
theorem LE(h:Sg (E r n) (sg r n))(hd:sg r n (bI r n)=1){x y u v:E r n}(h1:PE x y)(h2:PE u v):PE (x*u+y*v*bI r n) (x*v+y*u):=by
 have nm:aV (x*u+y*v*bI r n) (x*v+y*u)=aV x y*aV u v:=by unfold aV;grind
 have hn:=h.mul (aV x y) (aV u v);have d0:0<=sg r n (bI r n):=by omega
 unfold PE;rw[nm,hn];rcases h1 with⟨a1,a2⟩ |⟨a1,a2⟩ <;> rcases h2 with⟨b1,b2⟩ |⟨b1,b2⟩
 ·refine .inl ⟨h.sqle ?_ ?_,Int.mul_nonneg a2 b2⟩
  ·rw[h.mul];exact Int.mul_nonneg a1 b1
  ·have e : x * u * (x * u) - y * v * bI r n * (y * v * bI r n) = aV x y * (u * u) + y * y * bI r n * aV u v := by unfold aV; grind
   rw[e];refine h.add _ _ ?_ ?_
   ·rw[h.mul];exact Int.mul_nonneg a2 (h.sq u)
   ·rw[h.mul,h.mul];exact Int.mul_nonneg (Int.mul_nonneg (h.sq y) d0) b2
 ·refine .inr ⟨h.sqle ?_ ?_,?_⟩
  ·rw[h.mul];exact Int.mul_nonneg a1 b1
  ·have e : x * v * (x * v) - y * u * (y * u) = aV x y * (v * v) + y * y * -aV u v := by unfold aV; grind
   rw[e];refine h.add _ _ ?_ ?_
   ·rw[h.mul];exact Int.mul_nonneg a2 (h.sq v)
   ·rw[h.mul,h.neg];exact Int.mul_nonneg (h.sq y) b2
  ·rw[<- Int.mul_neg];exact Int.mul_nonneg a2 b2
 ·refine .inr ⟨?_,?_⟩
  ·rw [show x * v + y * u = y * u + x * v by grind];refine h.sqle ?_ ?_
   ·rw[h.mul];exact Int.mul_nonneg a1 b1
   ·have e : y * u * (y * u) - x * v * (x * v) = aV u v * (y * y) + v * v * -aV x y := by unfold aV; grind
    rw[e];refine h.add _ _ ?_ ?_
    ·rw[h.mul];exact Int.mul_nonneg b2 (h.sq y)
    ·rw[h.mul,h.neg];exact Int.mul_nonneg (h.sq v) a2
  ·rw[<- Int.neg_mul];exact Int.mul_nonneg a2 b2
 ·refine .inl ⟨?_,?_⟩
  ·rw [show x * u + y * v * bI r n = y * v * bI r n + x * u by grind];refine h.sqle ?_ ?_
   ·rw[h.mul,h.mul];exact Int.mul_nonneg (Int.mul_nonneg a1 b1) d0
   ·have e : y * v * bI r n * (y * v * bI r n) - x * u * (x * u) = -aV x y * (v * v * bI r n) + x * x * -aV u v := by unfold aV; grind
    rw[e];refine h.add _ _ ?_ ?_
    ·rw[h.mul,h.neg,h.mul];exact Int.mul_nonneg a2 (Int.mul_nonneg (h.sq v) d0)
    ·rw[h.mul,h.neg];exact Int.mul_nonneg (h.sq x) b2
  ·rw[<- Int.neg_mul_neg];exact Int.mul_nonneg a2 b2
theorem Hl(h:Sg (E r n) (sg r n))(hd:sg r n (bI r n)=1){x y u v:E r n}(a1:0<=sg r n x)(a2:0<=sg r n (aV x y))(b1:0<=sg r n v)(b2:0 <= -sg r n (aV u v)):PE (x+u) (y+v):=by
  have cX:=h.cs (x+u);have cY:=h.cs (y+v);have cN:=h.cs (aV (x+u) (y+v));unfold PE
  by_cases hX:0<=sg r n (x+u)
  · by_cases hN:0<=sg r n (aV (x+u) (y+v))
    · exact .inl ⟨hX,hN⟩
    · by_cases hY:0<=sg r n (y+v)
      · exact .inr ⟨hY,by omega⟩
      · -- Y < 0: then N is at least 0
        exfalso;have hY':sg r n (-(y+v))=1:=by rw[h.neg];omega
        have ny:sg r n (-y)=1:=by
          have:=h.padd hY' b1
          rwa [show -(y+v)+v=-y by grind]at this
        have k1:0<=sg r n (x*v+y*u):=by
          refine h.sqle (by rw[h.mul];exact Int.mul_nonneg a1 b1) ?_;have e:x*v*(x*v)-y*u*(y*u)=aV x y*(v*v)+y*y*-aV u v:=by unfold aV;grind
          rw[e];refine h.add _ _ ?_ ?_
          · rw[h.mul];exact Int.mul_nonneg a2 (h.sq v)
          · rw[h.mul,h.neg];exact Int.mul_nonneg (h.sq y) b2
        have k2:0<=sg r n (x*v+-(y*u)):=by
          refine h.sqle (by rw[h.mul];exact Int.mul_nonneg a1 b1) ?_;have e:x*v*(x*v) - -(y*u)*-(y*u)=aV x y*(v*v)+y*y*-aV u v:=by unfold aV;grind
          rw[e];refine h.add _ _ ?_ ?_
          · rw[h.mul];exact Int.mul_nonneg a2 (h.sq v)
          · rw[h.mul,h.neg];exact Int.mul_nonneg (h.sq y) b2
        have k3:0<=sg r n (-y*(x+u)-x*-(y+v)):=by
          rw[show -y*(x+u)-x*-(y+v)=x*v+-(y*u) by grind];exact k2
        have k4:0<=sg r n (-y*(x+u)+x*-(y+v)):=by
          rw[show -y*(x+u)+x*-(y+v)=(-y*(x+u)-x*-(y+v))+(x*-(y+v)+x*-(y+v)) by grind];refine h.add _ _ k3 (h.add _ _ ?_ ?_) <;> (rw[h.mul,hY'];omega)
        have k5:0<=sg r n ((y*y)*aV (x+u) (y+v)):=by
          have e:(y*y)*aV (x+u) (y+v)=(-y*(x+u)-x*-(y+v))*(-y*(x+u)+x*-(y+v))+aV x y*(-(y+v)*-(y+v)):=by unfold aV;grind
          rw[e];refine h.add _ _ (by rw[h.mul];exact Int.mul_nonneg k3 k4) (by rw[h.mul];exact Int.mul_nonneg a2 (h.sq _))
        have k6 := h.cancel (by rw [h.mul]; rw [h.neg] at ny; have : sg r n y = -1 := by omega
                                rw[this];rfl) k5
        exact hN k6
  · have hX' : sg r n (-(x + u)) = 1 := by rw [h.neg]; omega
    have nu:sg r n (-u)=1:=by
      have:=h.padd hX' a1
      rwa [show -(x+u)+x=-u by grind]at this
    have su:sg r n u=-1:=by rw[h.neg]at nu;omega
    have hv:sg r n v=1:=by
      rcases h.cs v with e |e |e
      · omega
      · exfalso
        have h1:sg r n (-(v*v*bI r n))=0:=by rw[h.neg,h.mul,h.mul,e];simp
        have:=h.zadd (y:=u*u) h1;rw[show -(v*v*bI r n)+u*u=aV u v by unfold aV;grind,h.mul,su]at this;omega
      · exact e
    have k1:0<=sg r n (x*v+y*-u):=by
      refine h.sqle (by rw[h.mul];exact Int.mul_nonneg a1 b1) ?_;have e:x*v*(x*v)-y*-u*(y*-u)=aV x y*(v*v)+y*y*-aV u v:=by unfold aV;grind
      rw[e];refine h.add _ _ ?_ ?_
      · rw[h.mul];exact Int.mul_nonneg a2 (h.sq v)
      · rw[h.mul,h.neg];exact Int.mul_nonneg (h.sq y) b2
    have k3:0<=sg r n (-u*(y+v)-v*-(x+u)):=by
      rw[show -u*(y+v)-v*-(x+u)=x*v+y*-u by grind];exact k1
    have k4:0<=sg r n (v*-(x+u)):=by rw[h.mul,hv,hX'];decide
    have kY:0<=sg r n (y+v):=by
      refine h.cancel nu ?_;rw[show -u*(y+v)=(-u*(y+v)-v*-(x+u))+v*-(x+u) by grind];exact h.add _ _ k3 k4
    refine .inr ⟨kY,?_⟩
    have k5:0<=sg r n ((v*v)*-aV (x+u) (y+v)):=by
      have e:(v*v)*-aV (x+u) (y+v)=(-u*(y+v)-v*-(x+u))*(-u*(y+v)+v*-(x+u))+-aV u v*((y+v)*(y+v)):=by unfold aV;grind
      rw[e];have k6:0<=sg r n (-u*(y+v)+v*-(x+u)):=h.add _ _ (by rw[h.mul,nu];omega) k4;refine h.add _ _ (by rw[h.mul];exact Int.mul_nonneg k3 k6) (by rw[h.mul,h.neg];exact Int.mul_nonneg b2 (h.sq _))
    have k7:=h.cancel (by rw[h.mul,hv];rfl) k5
    rwa [h.neg]at k7
theorem SK(h:Sg (E r n) (sg r n))(hd:sg r n (bI r n)=1){x y u v:E r n}(h1:PE x y)(h2:PE u v):PE (x+u) (y+v):=by
 have d0:0<=sg r n (bI r n):=by omega
 rcases h1 with⟨a1,a2⟩ |⟨a1,a2⟩ <;> rcases h2 with⟨b1,b2⟩ |⟨b1,b2⟩
 ·refine .inl ⟨h.add _ _ a1 b1,?_⟩
  have k:0<=sg r n (x*u+-(y*v*bI r n)):=by
   refine h.sqle (by rw[h.mul];exact Int.mul_nonneg a1 b1) ?_;have e:x*u*(x*u) - -(y*v*bI r n)*-(y*v*bI r n)=aV x y*(u*u)+y*y*bI r n*aV u v:=by unfold aV;grind
   rw[e];refine h.add _ _ ?_ ?_
   ·rw[h.mul];exact Int.mul_nonneg a2 (h.sq u)
   ·rw[h.mul,h.mul];exact Int.mul_nonneg (Int.mul_nonneg (h.sq y) d0) b2
  rw[show aV (x+u) (y+v)=(aV x y+aV u v)+((x*u+-(y*v*bI r n))+(x*u+-(y*v*bI r n))) by unfold aV;grind];exact h.add _ _ (h.add _ _ a2 b2) (h.add _ _ k k)
 ·exact Hl h hd a1 a2 b1 b2
 ·rw[show x+u=u+x by grind,show y+v=v+y by grind];exact Hl h hd b1 b2 a1 a2
 ·refine .inr ⟨h.add _ _ a1 b1,?_⟩
  have k:0<=sg r n (y*v*bI r n+-(x*u)):=by
   refine h.sqle (by rw[h.mul,h.mul];exact Int.mul_nonneg (Int.mul_nonneg a1 b1) d0) ?_;have e:y*v*bI r n*(y*v*bI r n) - -(x*u)*-(x*u)=-aV x y*(v*v*bI r n)+x*x*-aV u v:=by unfold aV;grind
   rw[e];refine h.add _ _ ?_ ?_
   ·rw[h.mul,h.neg,h.mul];exact Int.mul_nonneg a2 (Int.mul_nonneg (h.sq v) d0)
   ·rw[h.mul,h.neg];exact Int.mul_nonneg (h.sq x) b2
  have k2:0<=sg r n (-aV (x+u) (y+v)):=by
   rw[show -aV (x+u) (y+v)=(-aV x y+-aV u v)+((y*v*bI r n+-(x*u))+(y*v*bI r n+-(x*u))) by unfold aV;grind];exact h.add _ _ (h.add _ _ (by rw[h.neg];exact a2) (by rw[h.neg];exact b2)) (h.add _ _ k k)
  rwa [h.neg]at k2
theorem NY(a b c d:Int):T.sgn3 (-a) (-b) c d=-T.sgn3 a b c d:=by
 unfold T.sgn3;have e:(-a=-b \/ -b=0)↔(a=b\/b=0):=by omega
 simp only[e];split
 ·rfl
 ·split
  ·rfl
  ·by_cases h:a=0
   ·rw[if_pos oz,if_pos h]
   ·rw[if_neg oz,if_neg h,Int.neg_mul]
theorem Mg(h:Sg (E r n) (sg r n))(hd:0<=sg r n (bI r n)):Sg (E r (n+1)) (sg r (n+1)):=by
 have hcs:∀z:E r (n+1),sg r (n+1) z=-1\/sg r (n+1) z=0\/sg r (n+1) z=1:=fun z=>T.sgn_cases r (n+1) z
 have hone:sg r (n+1) 1=1:=by
  rw[uV,kz,h.one,h.zero];unfold T.sgn3;split
  ·rfl
  ·simp
 have hneg:∀z:E r (n+1),sg r (n+1) (-z)=-sg r (n+1) z:=by
  intro z;obtain⟨x,y,rfl⟩:=ka z;rw[rV,kz,kz,h.neg,h.neg,show aV (-x) (-y)=aV x y by unfold aV;grind,NY]
 by_cases hd0:sg r n (bI r n)=0
 ·have e0:∀x y:E r n,sg r (n+1) (bM x y)=sg r n x:=by
   intro x y;rw[kz,hd0];unfold T.sgn3;rw[if_pos rfl]
  refine⟨hcs,hone,hneg,?_,?_⟩
  ·intro z w;obtain ⟨x,y,rfl⟩:=ka z;obtain ⟨u,v,rfl⟩:=ka w;rw [kt,e0,e0,e0];have h1:sg r n (y * v * bI r n) = 0:=by rw [h.mul,hd0]; simp
   have:=h.zadd (y:=x*u) h1;rw[show x*u+y*v*bI r n=y*v*bI r n+x*u by grind,this,h.mul]
  ·intro z w;obtain⟨x,y,rfl⟩:=ka z;obtain⟨u,v,rfl⟩:=ka w;rw[oG,e0,e0,e0];exact h.add x u
 ·have hd1 : sg r n (bI r n) = 1 := by rcases h.cs (bI r n) with e | e | e <;> omega
  have hadd:∀z w:E r (n+1),0<=sg r (n+1) z->0<=sg r (n+1) w->0<=sg r (n+1) (z+w):=by
   intro z w;obtain⟨x,y,rfl⟩:=ka z;obtain⟨u,v,rfl⟩:=ka w;rw[oG,qj h hd1,qj h hd1,qj h hd1];exact SK h hd1
  have hpm:∀z w:E r (n+1),0<=sg r (n+1) z->0<=sg r (n+1) w->0<=sg r (n+1) (z*w):=by
   intro z w;obtain⟨x,y,rfl⟩:=ka z;obtain⟨u,v,rfl⟩:=ka w;rw[kt,qj h hd1,qj h hd1,qj h hd1];exact LE h hd1
  have hzm:∀z w:E r (n+1),sg r (n+1) z=0->sg r (n+1) (w*z)=0:=by
   intro z w hz;have n1:=hneg z;have n2:=hneg w;have n3:=hneg (w*z);have m1:=hpm w z;have m2:=hpm w (-z);have m3:=hpm (-w) z;have m4:=hpm (-w) (-z);rw[show w*-z=-(w*z) by grind]at m2;rw[show -w*z=-(w*z) by grind]at m3;rw[show -w*-z=w*z by grind]at m4;rcases hcs w with e |e |e <;> omega
  have hsc:∀(a u v:E r n),sg r (n+1) (bM (a*u) (a*v))=sg r n a*sg r (n+1) (bM u v):=by
   intro a u v;rw[kz,kz,show aV (a*u) (a*v)=a*a*aV u v by unfold aV;grind,h.mul,h.mul,h.mul,h.mul,hd1]
   have f1:sg r n v=0->sg r n (aV u v)=sg r n u*sg r n u:=by
    intro hy;have h1:sg r n (-(v*v*bI r n))=0:=by rw[h.neg,h.mul,h.mul,hy];simp
    have:=h.zadd (y:=u*u) h1;unfold aV;rw[show u*u+-(v*v*bI r n)=-(v*v*bI r n)+u*u by grind,this,h.mul]
   have c1:=h.cs u;have c2:=h.cs v;have c3:=h.cs (aV u v);have c4:=h.cs a
   revert c1 c2 c3 c4
   generalize sg r n u=a1;generalize sg r n v=b1;generalize sg r n (aV u v)=c1;generalize sg r n a=e1;intro c1 c2 c3 c4;rcases c1 with rfl |rfl |rfl <;> rcases c2 with rfl |rfl |rfl <;> rcases c3 with rfl |rfl |rfl <;> rcases c4 with rfl |rfl |rfl <;> decide
  have hpadd:∀z w:E r (n+1),sg r (n+1) z=1->0<=sg r (n+1) w->sg r (n+1) (z+w)=1:=by
   intro z w hz hw;have a1:=hadd z w oz hw;rcases hcs (z+w)with e |e |e
   ·omega
   ·exfalso;have n1:=hneg z;have n2:=hneg (z+w);have a2:=hadd (-(z+w)) w oz hw;rw[show -(z+w)+w=-z by grind]at a2;omega
   ·exact e
  have hpp:∀z w:E r (n+1),sg r (n+1) z=1->sg r (n+1) w=1->sg r (n+1) (z*w)=1:=by
   intro z w hz hw;obtain⟨x,y,rfl⟩:=ka z;obtain⟨u,v,rfl⟩:=ka w;have p0:=hpm _ _ (by omega:0<=sg r (n+1) (bM x y)) (by omega:0<=sg r (n+1) (bM u v));rcases hcs (bM x y*bM u v)with e |e |e
   ·omega
   ·exfalso
    by_cases hN:sg r n (aV x y)=0
    ·have hxy:sg r n x=1/\sg r n y=1:=by
      rw[kz,hd1,hN]at hz
      have f1:sg r n y=0->sg r n (aV x y)=sg r n x*sg r n x:=by
       intro hy;have h1:sg r n (-(y*y*bI r n))=0:=by rw[h.neg,h.mul,h.mul,hy];simp
       have:=h.zadd (y:=x*x) h1;unfold aV;rw[show x*x+-(y*y*bI r n)=-(y*y*bI r n)+x*x by grind,this,h.mul]
      have f2:sg r n x=0->sg r n (aV x y)=-(sg r n y*sg r n y):=by
       intro hx;have h1:sg r n (x*x)=0:=by rw[h.mul,hx];simp
       have:=h.zadd (y:=-(y*y*bI r n)) h1;unfold aV;rw[this,h.neg,h.mul,h.mul,hd1];simp
      rw[hN]at f1 f2;have c1:=h.cs x;have c2:=h.cs y
      revert hz f1 f2 c1 c2
      generalize sg r n x=a;generalize sg r n y=b;intro hz f1 f2 c1 c2;rcases c1 with rfl |rfl |rfl <;> rcases c2 with rfl |rfl |rfl <;> revert hz f1 f2 <;> decide
     have k1:sg r (n+1) (bM (x*u) (x*v))=1:=by rw[hsc,hxy.1,hw];rfl
     have k2:0<=sg r (n+1) (bM 0 y):=by
      rw[kz,h.zero,hxy.2,hd1];unfold T.sgn3;simp
     have k3:=hpm _ _ k2 (by omega:0<=sg r (n+1) (bM u v));have k4:=hpadd _ _ k1 k3;rw[kt,oG]at k4;rw[kt]at e;rw[show x*u+(0*u+y*v*bI r n)=x*u+y*v*bI r n by grind,show x*v+(0*v+y*u)=x*v+y*u by grind]at k4;omega
    ·have k1:=hzm _ (bM x (-y)) e;rw[show bM x (-y)*(bM x y*bM u v)=bM (aV x y*u) (aV x y*v) by rw[kt,kt];unfold aV;congr 1 <;> grind,hsc,hw]at k1;omega
   ·exact e
  refine⟨hcs,hone,hneg,?_,hadd⟩;intro z w;rcases hcs w with e |e |e
  ·rcases hcs z with e' |e' |e'
   ·have := hpp (-z) (-w) (by rw[hneg];omega) (by rw[hneg];omega);rw[show -z*-w=z*w by grind]at this;rw[this,e,e'];rfl
   ·have:=hzm z w e';rw[show w*z=z*w by grind]at this;rw[this,e'];simp
   ·have := hpp z (-w) e' (by rw[hneg];omega);rw[show z*-w=-(z*w) by grind,hneg]at this;rw[e,e'];omega
  ·rw[hzm w z e,e];simp
  ·rcases hcs z with e' |e' |e'
   ·have := hpp (-z) w (by rw[hneg];omega) e;rw[show -z*w=-(z*w) by grind,hneg]at this;rw[e,e'];omega
   ·have:=hzm z w e';rw[show w*z=z*w by grind]at this;rw[this,e'];simp
   ·rw[hpp z w e' e,e,e'];rfl
theorem mK(q:Rat):bN q=-1/\q<0\/bN q=0/\q=0\/bN q=1/\0<q:=by
 unfold bN;split
 ·exact .inl ⟨rfl,by assumption⟩
 ·split
  ·exact .inr (.inr ⟨rfl,by assumption⟩)
  ·exact .inr (.inl ⟨rfl,by grind⟩)
theorem tE{q:Rat}(h:0<q):bN q=1:=by
 rcases mK q with⟨_,h'⟩ |⟨_,h'⟩ |⟨e,_⟩
 ·grind
 ·grind
 ·exact e
theorem xZ{q:Rat}(h:q<0):bN q=-1:=by
 rcases mK q with⟨e,_⟩ |⟨_,h'⟩ |⟨_,h'⟩
 ·exact e
 ·grind
 ·grind
theorem TA(q:Rat):bN (-q)=-bN q:=by
 rcases mK q with⟨e,h⟩ |⟨e,h⟩ |⟨e,h⟩
 ·rw[e,tE (by grind)];rfl
 ·rw[h];rfl
 ·rw[e,xZ (by grind)]
theorem TO(p q:Rat):bN (p*q)=bN p*bN q:=by
 have h0:bN 0=0:=rfl;rcases mK p with⟨e,h⟩ |⟨e,h⟩ |⟨e,h⟩ <;> rcases mK q with⟨e',h'⟩ |⟨e',h'⟩ |⟨e',h'⟩
 ·have := Rat.mul_pos (a := -p) (b := -q) (by grind) (by grind);rw[e,e',tE (by grind)];rfl
 ·rw[h',Rat.mul_zero,h0];simp
 ·have := Rat.mul_pos (a := -p) (b := q) (by grind) h';rw[e,e',xZ (by grind)];rfl
 ·rw[h,Rat.zero_mul,h0];simp
 ·rw[h,Rat.zero_mul,h0];simp
 ·rw[h,Rat.zero_mul,h0];simp
 ·have := Rat.mul_pos (a := p) (b := -q) h (by grind);rw[e,e',xZ (by grind)];rfl
 ·rw[h',Rat.mul_zero,h0];simp
 ·rw[e,e',tE (Rat.mul_pos h h')];rfl
theorem M5(p q:Rat)(h1:0<=bN p)(h2:0<=bN q):0<=bN (p+q):=by
 rcases mK (p+q)with⟨e,h⟩ |⟨e,h⟩ |⟨e,h⟩
 ·exfalso;rcases mK p with⟨e1,g1⟩ |⟨e1,g1⟩ |⟨e1,g1⟩ <;> rcases mK q with⟨e2,g2⟩ |⟨e2,g2⟩ |⟨e2,g2⟩ <;> first |omega |grind
 ·omega
 ·omega
theorem TU(r:(k:Nat)->T k):Sg (E r 0) (sg r 0) :=
 ⟨fun q=>T.sgnQ_cases q,rfl,fun q=>TA q,fun p q=>TO p q,fun p q=>M5 p q⟩
def ff(r:(k:Nat)->T k)(n:Nat):Prop:=∀j,j<n->0<=T.sgn r j (r j)
theorem du(r:(k:Nat)->T k):∀n,ff r n->Sg (E r n) (sg r n)
 |0,_=>TU r
 |n+1,h=>Mg (du r n (fun j hj=>h j oz)) (h n oz)
end Go.Lw
namespace Go.Lw
def xA{r:(k:Nat)->T k}{n:Nat}(x:E r n):AV:=nA (sh n x)
abbrev Pn(r:(k:Nat)->T k)(n:Nat):Type:=E r n×E r n
def lS(r:(k:Nat)->T k)(n:Nat):LL:=(List.range n).map fun k=>enc k (r k)
def qE{r:(k:Nat)->T k}{n:Nat}(q:Rat):E r n:=T.ofQ n q
theorem xX:∀(n:Nat)(q:Rat),sh n (T.ofQ n q)=sh 0 (q:Rat)
 |0,q=>rfl
 |n+1,q=>by
  show(if T.isZ n (T.zero n)=true then sh n (T.ofQ n q)else _)=_;rw[if_pos ((T.isZ_iff n _).2 rfl),xX n q]
theorem DO:∀n:Nat,sh n (T.zero n)=[]
 |0=>rfl
 |n+1=>by
  show(if T.isZ n (T.zero n)=true then sh n (T.zero n)else _)=_;rw[if_pos ((T.isZ_iff n _).2 rfl),DO n]
theorem sr(r:(k:Nat)->T k)(n:Nat):(lS r n).length=n:=by simp[lS]
theorem Fx{r:(k:Nat)->T k}{n j:Nat}(h:j<n):(lS r n).getD j []=enc j (r j):=by
 unfold lS;rw[getD_eq_getElem?_getD,getElem?_map,List.getElem?_range h];rfl
theorem JQ{r:(k:Nat)->T k}{n j:Nat}(h:j<n):aw (lS r n) j=r j:=by
 unfold aw;rw[Fx h,xh]
theorem DG{ts:LL}{R:Nat}(tw:Tw ts R):ts=lS (aw ts) ts.length:=by
 apply List.ext_getElem?;intro j
 by_cases hj:j<ts.length
 ·have h1:=Fx (r:=aw ts) hj;have h2:=tw.len j hj;rw[getD_eq_getElem?_getD]at h1;rw[getElem?_eq_getElem (show j<(lS (aw ts) ts.length).length by rw[sr];exact hj)]at h1 ⊢;rw[Option.getD_some]at h1;rw[h1,getElem?_eq_getElem hj];unfold aw;rw[qw _ _ h2,getD_eq_getElem?_getD,getElem?_eq_getElem hj];rfl
 ·rw[getElem?_eq_none oz,getElem?_eq_none (by rw[sr];omega)]
class Cx(r:(k:Nat)->T k)(n:Nat)(u k:outParam Nat):Prop where
  ex:∃R,Tw (lS r n) R/\eB R n<=k
  k1:1<=k
  u3:3<=u
class Zu(u k:Nat){r:(k:Nat)->T k}{n:Nat}(x:E r n)(w v:outParam Nat):Prop where
  nm:Nm n (w*u+v*k) (sh n x)
class Zp(u k:Nat){r:(k:Nat)->T k}{n:Nat}(p:Pn r n)(w v:outParam Nat):Prop where
  x:Nm n (w*u+v*k) (sh n p.1)
  y:Nm n (w*u+v*k) (sh n p.2)
class Qz(u:Nat)(q:Rat)(w:outParam Nat):Prop where
  cb:Cb (w*u) [q]
section
variable{r:(k:Nat)->T k}{n u k:Nat}
theorem Cx.five(c:Cx r n u k):n<=5:=by obtain⟨R,tw,_⟩:=c.ex;have:=tw.five;rwa [sr]at this
theorem Cx.three(c:Cx r n u k):n<=3:=by obtain⟨R,tw,_⟩:=c.ex;have:=tw.three;rwa [sr]at this
theorem wU(w v w' v' u k:Nat):(w*u+v*k)+(w'*u+v'*k)=(w+w')*u+(v+v')*k:=by
 rw[Nat.add_mul,Nat.add_mul];omega
theorem Nm.eq{n e f:Nat}{l:List Rat}(h:Nm n e l)(hf:e=f):Nm n f l:=hf▸h
theorem Nm.addT{e f:Nat}{x y:T n}(hx:Nm n e (sh n x))(hy:Nm n f (sh n y)):Nm n (e+f+1) (sh n (T.add n x y)):=by
 have h:=hx.add hy
 rwa [bc,bc]at h
theorem Nm.subT{e f:Nat}{x y:T n}(hx:Nm n e (sh n x))(hy:Nm n f (sh n y)):Nm n (e+f+1) (sh n (T.add n x (T.neg n y))):=by
 have h:=hx.sub hy
 rwa [bc,bc]at h
theorem Nm.negT{e:Nat}{x:T n}(hx:Nm n e (sh n x)):Nm n e (sh n (T.neg n x)):=by
 have h:=hx.neg
 rwa [bc]at h
theorem Nm.mulT{R e f:Nat}(tw:Tw (lS r n) R){x y:T n}(hx:Nm n e (sh n x))(hy:Nm n f (sh n y)):Nm n (e+f+eB R n) (sh n (T.mul r n x y)):=by
 have h:=Nm.mul tw (sr r n).symm hx hy
 rwa [bc,bc,T.mul_congr n (fun j hj=>JQ hj)]at h
instance Zu.add[c:Cx r n u k]{x y:E r n}{w v w' v':Nat}[hx:Zu u k x w v][hy:Zu u k y w' v']:Zu u k (x+y) (w+w') (v+v'+1) :=
  ⟨(Nm.addT hx.nm hy.nm).mono (by rw[wU,Nat.add_mul _ 1];have:=c.k1;omega)⟩
instance Zu.sub[c:Cx r n u k]{x y:E r n}{w v w' v':Nat}[hx:Zu u k x w v][hy:Zu u k y w' v']:Zu u k (x-y) (w+w') (v+v'+1) :=
  ⟨(Nm.subT hx.nm hy.nm).mono (by rw[wU,Nat.add_mul _ 1];have:=c.k1;omega)⟩
instance Zu.neg{x:E r n}{w v:Nat}[hx:Zu u k x w v]:Zu u k (-x) w v:=⟨Nm.negT hx.nm⟩
instance Zu.mul[c:Cx r n u k]{x y:E r n}{w v w' v':Nat}[hx:Zu u k x w v][hy:Zu u k y w' v']:Zu u k (x*y) (w+w') (v+v'+1):=by
  obtain⟨R,tw,hk⟩:=c.ex;exact⟨(Nm.mulT tw hx.nm hy.nm).mono (by rw[wU,Nat.add_mul _ 1];omega)⟩
instance Zu.qE[c:Cx r n u k]{q:Rat}{w:Nat}[h:Qz u q w]:Zu u k (qE q:E r n) w 0:=⟨by
  show Nm n _ (sh n (T.ofQ n q));rw[xX];exact(Nm.ofQ c.five h.cb).eq oz⟩
theorem Cb.int{e:Nat}{z:Int}(h:z.natAbs<=2^e):Cb e [(z:Rat)] :=
 ⟨1,z.natAbs,⟨by omega,fun q hq=>⟨z,by rw[List.mem_singleton.1 hq];exact Rat.mul_one _,le_refl _⟩⟩,Nat.one_le_two_pow,h⟩
theorem Qz.int[c:Cx r n u k]{z:Int}(h:z.natAbs<=8):Qz u (z:Rat) 1:=⟨Cb.int (le_trans h (show 2^3<=_ from bY (by have:=c.u3;omega)))⟩
instance Zu.c0[c:Cx r n u k]:Zu u k (0:E r n) 0 0:=⟨by
  show Nm n _ (sh n (T.ofQ n ((0:Nat):Rat)));rw[show(((0:Nat):Rat))=0 from rfl,T.ofQ_zero,DO];exact⟨c.five,.inl rfl,Cb.nil.mono (zero_le _)⟩⟩
instance Zu.c1[c:Cx r n u k]:Zu u k (1:E r n) 1 0:=by
  haveI:Qz u ((1:Nat):Rat) 1:=Qz.int (c:=c) (z:=1) (by decide);exact(inferInstance:Zu u k (Go.Lw.qE ((1:Nat):Rat):E r n) 1 0)
instance Zu.c2[c:Cx r n u k]:Zu u k (2:E r n) 1 0:=by
  haveI:Qz u ((2:Nat):Rat) 1:=Qz.int (c:=c) (z:=2) (by decide);exact(inferInstance:Zu u k (Go.Lw.qE ((2:Nat):Rat):E r n) 1 0)
instance Zu.c4[c:Cx r n u k]:Zu u k (4:E r n) 1 0:=by
  haveI:Qz u ((4:Nat):Rat) 1:=Qz.int (c:=c) (z:=4) (by decide);exact(inferInstance:Zu u k (Go.Lw.qE ((4:Nat):Rat):E r n) 1 0)
instance Zu.px{p:Pn r n}{w v:Nat}[h:Zp u k p w v]:Zu u k p.1 w v:=⟨h.x⟩
instance Zu.py{p:Pn r n}{w v:Nat}[h:Zp u k p w v]:Zu u k p.2 w v:=⟨h.y⟩
theorem Ba{w v w' v' u k:Nat}(h:w<=w')(h':v<=v'):w*u+v*k<=w'*u+v'*k:=Nat.add_le_add (mul_le_mul_right _ h) (mul_le_mul_right _ h')
instance Zp.mk'{x y:E r n}{w v w' v':Nat}[hx:Zu u k x w v][hy:Zu u k y w' v']:Zp u k ((x,y):Pn r n) (max w w') (max v v') :=
  ⟨hx.nm.mono (Ba (Nat.le_max_left ..) (Nat.le_max_left ..)),hy.nm.mono (Ba (Nat.le_max_right ..) (Nat.le_max_right ..))⟩
def Oj(p q:Pn r n):Pn r n:=(p.1+q.1,p.2+q.2)
def Ki(p q:Pn r n):Pn r n:=(p.1-q.1,p.2-q.2)
def Tp(c:E r n)(p:Pn r n):Pn r n:=(c*p.1,c*p.2)
def IT(p q:Pn r n):E r n:=p.1*q.1+p.2*q.2
def Nr(p q:Pn r n):E r n:=p.1*q.2-p.2*q.1
def JW(c s:E r n)(p:Pn r n):Pn r n:=(c*p.1-s*p.2,s*p.1+c*p.2)
def pQ(x y:Rat):Pn r n:=(qE x,qE y)
def NQ(p:Pn r n):Pn r n:=(-p.2,p.1)
instance Zp.add[c:Cx r n u k]{p q:Pn r n}{w v w' v':Nat}[hp:Zp u k p w v][hq:Zp u k q w' v']:Zp u k (Oj p q) (w+w') (v+v'+1) :=
  ⟨(inferInstance:Zu u k (p.1+q.1) (w+w') (v+v'+1)).nm,(inferInstance:Zu u k (p.2+q.2) (w+w') (v+v'+1)).nm⟩
instance Zp.sub[c:Cx r n u k]{p q:Pn r n}{w v w' v':Nat}[hp:Zp u k p w v][hq:Zp u k q w' v']:Zp u k (Ki p q) (w+w') (v+v'+1) :=
  ⟨(inferInstance:Zu u k (p.1-q.1) (w+w') (v+v'+1)).nm,(inferInstance:Zu u k (p.2-q.2) (w+w') (v+v'+1)).nm⟩
instance Zp.scale[c:Cx r n u k]{a:E r n}{q:Pn r n}{w v w' v':Nat}[hp:Zu u k a w v][hq:Zp u k q w' v']:Zp u k (Tp a q) (w+w') (v+v'+1) :=
  ⟨(inferInstance:Zu u k (a*q.1) (w+w') (v+v'+1)).nm,(inferInstance:Zu u k (a*q.2) (w+w') (v+v'+1)).nm⟩
instance Zu.dot[c:Cx r n u k]{p q:Pn r n}{w v w' v':Nat}[hp:Zp u k p w v][hq:Zp u k q w' v']:Zu u k (IT p q) (w+w'+(w+w')) (v+v'+1+(v+v'+1)+1) :=
  (inferInstance:Zu u k (p.1*q.1+p.2*q.2) _ _)
instance Zu.cross[c:Cx r n u k]{p q:Pn r n}{w v w' v':Nat}[hp:Zp u k p w v][hq:Zp u k q w' v']:Zu u k (Nr p q) (w+w'+(w+w')) (v+v'+1+(v+v'+1)+1) :=
  (inferInstance:Zu u k (p.1*q.2-p.2*q.1) _ _)
instance Zp.turn[c:Cx r n u k]{a b:E r n}{p:Pn r n}{w v w' v' w2 v2:Nat}[ha:Zu u k a w v][hb:Zu u k b w' v'][hp:Zp u k p w2 v2] :
    Zp u k (JW a b p) (w+w2+(w'+w2)) (v+v2+1+(v'+v2+1)+1) :=
  ⟨(inferInstance:Zu u k (a*p.1-b*p.2) _ _).nm,by
    have h:=(inferInstance:Zu u k (b*p.1+a*p.2) _ _).nm;exact h.eq (by rw[Nat.add_comm (w'+w2),Nat.add_comm (v'+v2+1)])⟩
instance Zp.ofQ[c:Cx r n u k]{x y:Rat}{w w':Nat}[hx:Qz u x w][hy:Qz u y w']:Zp u k (pQ x y:Pn r n) (max w w') (max 0 0) :=
  (inferInstance:Zp u k ((qE x,qE y):Pn r n) _ _)
instance Zp.quart{p:Pn r n}{w v:Nat}[hp:Zp u k p w v]:Zp u k (NQ p) w v:=⟨(inferInstance:Zu u k (-p.2) w v).nm,hp.x⟩
end
theorem CW(rs:List (List Rt)):(llq rs).length=rs.length:=by simp[llq]
abbrev Et(ts:LL):Type:=E (aw ts) ts.length
def dE(ts:LL)(a:List Rat):Et ts:=ae ts.length a
def sX{ts:LL}(x:Et ts):List Rat:=sh ts.length x
def ak{ts:LL}(x:Et ts):Int:=T.sgn (aw ts) ts.length x
class Ct(ts:LL)(u k:outParam Nat):Prop where
  ex:∃R,Tw ts R/\eB R ts.length<=k
  k1:1<=k
  u3:3<=u
  ub:u<=1000000
  kb:k<=1000000
instance Ct.cx{ts:LL}{u k:Nat}[c:Ct ts u k]:Cx (aw ts) ts.length u k:=by
  obtain⟨R,tw,h⟩:=c.ex;exact⟨⟨R,DG tw▸tw,h⟩,c.k1,c.u3⟩
class Zl(ts:LL)(u k:Nat)(a:List Rat)(x:outParam (Et ts))(w v:outParam Nat):Prop where
  eq:ae ts.length a=x
  nm:Nm ts.length (w*u+v*k) a
section
variable{ts:LL}{u k:Nat}
instance Zl.sX{x:Et ts}{w v:Nat}[h:Zu u k x w v]:Zl ts u k (sX x) x w v:=⟨bc _ _,h.nm⟩
instance Zl.q[c:Ct ts u k]{q:Rat}{w:Nat}[h:Qz u q w]:Zl ts u k (sh 0 (q:Rat)) (qE q:Et ts) w 0:=⟨ik _ q,by
  obtain⟨R,tw,_⟩:=c.ex;exact(Nm.ofQ tw.five h.cb).eq oz⟩
instance Zl.nil [c : Ct ts u k] : Zl ts u k [] (0 : Et ts) 0 0 := ⟨by rw [gQ]; exact E.zero_def.symm, by
  obtain⟨R,tw,_⟩:=c.ex;exact⟨tw.five,.inl rfl,Cb.nil.mono (zero_le _)⟩⟩
theorem Zl.zu{a:List Rat}{x:Et ts}{w v:Nat}(h:Zl ts u k a x w v):Zu u k x w v:=⟨by
 have h1:=h.nm;have h2:=Cb.sh h1.cb h1.nl;rw[h.eq]at h2;exact⟨h1.five,di _ _,h2⟩⟩
theorem Zl.at{a:List Rat}{e:Nat}(h:Nm ts.length e a)(he:e<=u):Zl ts u k a (dE ts a) 1 0:=⟨rfl,h.mono oz⟩
theorem G1(c:Ct ts u k){w v m:Nat}(h:w+v<=m):w*u+v*k<=m*1000000:=by
 have h1:w*u<=w*1000000:=mul_le_mul_left _ c.ub;have h2:v*k<=v*1000000:=mul_le_mul_left _ c.kb;omega
theorem Zl.up(c:Ct ts u k){a:List Rat}{x:Et ts}{w v m:Nat}(h:Zl ts u k a x w v)(hm:w+v<=m):Nm ts.length (m*1000000) a:=h.nm.mono (G1 c hm)
theorem Ct.kk(c:Ct ts u k){R:Nat}(h:eB R ts.length<=k):kB R ts.length<=1000000:=le_trans h c.kb
def dotE(x y z t:Et ts):Et ts:=x*z+y*t
def crsE(x y z t:Et ts):Et ts:=x*t-y*z
instance Zu.dotE[c:Ct ts u k]{x y z t:Et ts}{w1 v1 w2 v2 w3 v3 w4 v4:Nat}[Zu u k x w1 v1][Zu u k y w2 v2][Zu u k z w3 v3][Zu u k t w4 v4]:Zu u k (dotE x y z t) (w1+w3+(w2+w4)) (v1+v3+1+(v2+v4+1)+1) :=
  (inferInstance:Zu u k (x*z+y*t) _ _)
instance Zu.crsE[c:Ct ts u k]{x y z t:Et ts}{w1 v1 w2 v2 w3 v3 w4 v4:Nat}[Zu u k x w1 v1][Zu u k y w2 v2][Zu u k z w3 v3][Zu u k t w4 v4]:Zu u k (crsE x y z t) (w1+w4+(w2+w3)) (v1+v4+1+(v2+v3+1)+1) :=
  (inferInstance:Zu u k (x*t-y*z) _ _)
end
def eI(xs:List Int):List Int:=xs.mergeSort (fun a b=>decide (a<=b))
theorem Bu(xs:List Int):(eI xs).Perm xs:=List.mergeSort_perm _ _
theorem I2(xs:List Int):(eI xs).Pairwise (· <= ·):=by
 have h:=List.pairwise_mergeSort (le:=fun a b:Int=>decide (a<=b)) (fun a b c h1 h2=>by simp only[decide_eq_true_eq]at *;omega) (fun a b=>by simp only[or_eq_true,decide_eq_true_eq];omega) xs;exact h.imp (fun h=>of_decide_eq_true h)
theorem SU{xs ys:List Int}(hp:ys.Perm xs)(hs:ys.Pairwise (· <= ·)):ys=eI xs :=
 List.Perm.eq_of_pairwise (le:=fun a b:Int=>a<=b) (fun a b _ _ h1 h2=>by omega) hs (I2 xs) (hp.trans (Bu xs).symm)
theorem GF(xs:List Int):(eI xs).length=xs.length:=(Bu xs).length_eq
theorem wG{xs:List Int}{b:Int}:b∈eI xs↔b∈xs:=(Bu xs).mem_iff
theorem CJ(e:Nat)(l:List Nat):fK (e::l)=if e≠0 then e else fK l:=rfl
theorem qi{α:Type}{f:α->Nat}{L:List α}(h:∀x∈L,f x=0):fK (L.map f)=0:=by
 induction L with
 |nil=>rfl
 |cons x L ih =>
  rw[map_cons,CJ,if_neg (by rw[h x (mem_cons_self ..)];simp)];exact ih (fun y hy=>h y (mem_cons_of_mem _ hy))
def jd(g:Gr)(j:Jt):Int:=if g.bo.contains j.a=true then(if g.bo.contains j.b=true then -1 else j.b)else j.a
def fJ(l:Li)(g:Gr):List Int:=g.jo.map (fun j=>jd g (l.jo.getD j.toNat default))
theorem re(l:Li)(g:Gr):(fJ l g).length=g.jo.length:=by unfold fJ;rw[length_map]
theorem Lu{l:Li}(hl:aO l=0){g:Gr}(hg:GrOk l g):∀b∈fJ l g,b<l.bo.length:=by
 intro b hb;unfold fJ at hb;obtain⟨z,hz,rfl⟩:=List.mem_map.1 hb;obtain⟨z0,z1⟩:=hg.j z hz;obtain⟨j,hj⟩:=aG (l:=l.jo) (i:=z.toNat) oz;rw[ao hj];obtain⟨i1,i2,_⟩:=dw hl hj;have i1:=dz i1;have i2:=dz i2;unfold jd;split
 ·split
  ·omega
  ·omega
 ·omega
def cM(l:Li)(g:Gr)(own:Bool):List Int:=fJ l g++(if own=true then g.bo else[])
theorem yz{l:Li}(hl:aO l=0){g:Gr}(hg:GrOk l g){own:Bool}:∀b∈cM l g own,b<l.bo.length:=by
 intro b hb;rcases List.mem_append.1 hb with hb |hb
 ·exact Lu hl hg b hb
 ·split at hb
  ·exact(hg.b b hb).2
  ·cases hb
theorem I3{l:Li}{g:Gr}(hg:GrOk l g){own:Bool}:(cM l g own).length<=5:=by
 unfold cM;have h1:=hg.lb;have h2:=hg.lj;rw[length_append,re];split
 ·omega
 ·simp only[length_nil];omega
def fZ(a:As)(b:Int):Nat:=if b<0 then 0 else bi a.rs (a.bs.getD b.toNat default).l
def eH(l:Li)(k:Int):Gr:=(splitG l).getD k.toNat default
def jJ(l:Li)(k:Int)(a:As)(own:Bool):Nat :=
  if splitE l≠0 then splitE l else if k<0\/((splitG l).length:Int)<=k then 9 else if a.bs.length≠l.bo.length then 10 else if bt a.rs≠0 then bt a.rs
  else fK ((eI (cM l (eH l k) own)).map (fZ a))
def eJ(l:Li)(k:Int)(a:As)(own:Bool):Nat:=if aO l≠0 then aO l else jJ l k a own
section
variable{l:Li}{k:Int}{a:As}{own:Bool}
theorem ra(h:aO l=0):eJ l k a own=jJ l k a own:=by unfold eJ;rw[if_neg oz]
theorem Jq{e:Nat}(he:(if aO l=0 then splitE l else aO l)=e)(h:e≠0):eJ l k a own=e:=by
 by_cases h1:aO l=0
 ·rw[if_pos h1]at he;rw[ra h1];unfold jJ;rw[if_pos oz];exact he
 ·rw[if_neg h1]at he;unfold eJ;rw[if_pos h1];exact he
theorem R9(h:(if aO l=0 then splitE l else aO l)=0):aO l=0/\splitE l=0:=by
 by_cases h1:aO l=0
 ·rw[if_pos h1]at h;exact⟨h1,h⟩
 ·rw[if_neg h1]at h;exact absurd h h1
theorem K8(hs:splitE l=0)(hk:k<0\/((splitG l).length:Int)<=k):jJ l k a own=9:=by unfold jJ;rw[if_neg oz,if_pos hk]
theorem Mv(hs:splitE l=0)(hk:¬(k<0\/((splitG l).length:Int)<=k))(hb:a.bs.length≠l.bo.length):jJ l k a own=10:=by
 unfold jJ;rw[if_neg oz,if_neg hk,if_pos hb]
theorem ND(hs:splitE l=0)(hk:¬(k<0\/((splitG l).length:Int)<=k))(hb:a.bs.length=l.bo.length)(hc:bt a.rs≠0):jJ l k a own=bt a.rs:=by
 unfold jJ;rw[if_neg oz,if_neg hk,if_neg oz,if_pos hc]
theorem FU(hs:splitE l=0)(hk:¬(k<0\/((splitG l).length:Int)<=k))(hb:a.bs.length=l.bo.length)(hc:bt a.rs=0):jJ l k a own=fK ((eI (cM l (eH l k) own)).map (fZ a)):=by
 unfold jJ;rw[if_neg oz,if_neg hk,if_neg oz,if_neg oz]
end
structure DyOk(E:Nat)(l:Li)(k:Int)(a:As)(own:Bool)(i:Nat)(g:Gr):Prop where
  li:aO l=0
  sp:splitE l=0
  hk:k=(i:Int)
  hg:(splitG l)[i]?=some g
  ok:GrOk l g
  dy:DyK l g
  ln:a.bs.length=l.bo.length
  chk:bt a.rs=0
  nd:∀b∈cM l g own,fZ a b=0
  sm:∀b∈cM l g own,0<=b->∀p,a.bs[b.toNat]?=some p->∀x∈p.l,NR x E
def qQ(E:Nat)(l:Li)(k:Int)(a:As)(own:Bool):Prop:=∀b∈cM l (eH l k) own,0<=b->∀p,a.bs[b.toNat]?=some p->∀x∈p.l,NR x E
theorem zJ{l:Li}{k:Int}{a:As}{own:Bool}{E:Nat}(hs:qQ E l k a own)(h:eJ l k a own=0):∃i g,DyOk E l k a own i g:=by
 unfold eJ at h;split at h
 ·rename_i h1;exact absurd h h1
 ·rename_i h1;have h1:=Decidable.not_not.1 h1;unfold jJ at h;split at h
  ·rename_i h2;exact absurd h h2
  ·rename_i h2;split at h
   ·cases h
   ·rename_i h3;split at h
    ·cases h
    ·rename_i h4;split at h
     ·rename_i h5;exact absurd h h5
     ·rename_i h5;obtain⟨g,hg⟩:=aG (l:=splitG l) (i:=k.toNat) oz;have e:eH l k=g:=ao hg;rw[e]at h;obtain⟨d1,d2⟩:=nV h1 (mem_of_getElem? hg);refine⟨k.toNat,g,h1,by omega,by omega,hg,d2,d1,by omega,by omega,fun b hb=>?_,e▸hs⟩;exact qM h _ (List.mem_map.2 ⟨b,wG.2 hb,rfl⟩)
theorem DyOk.body{E:Nat}{l:Li}{k:Int}{a:As}{own:Bool}{i:Nat}{g:Gr}(h:DyOk E l k a own i g){b:Int}(hb:b∈cM l g own)(h0:0<=b):∃p,a.bs[b.toNat]?=some p/\bi a.rs p.l=0/\∀x∈p.l,NR x E:=by
 have h1:=yz h.li h.ok b hb;obtain⟨p,hp⟩:=aG (l:=a.bs) (i:=b.toNat) (by have:=h.ln;omega);have h2:=h.nd b hb;unfold fZ at h2;rw[if_neg oz,ao hp]at h2;exact⟨p,hp,h2,h.sm b hb h0 p hp⟩
theorem Jv(n:Nat):50000000000<=lm n:=kZ n
theorem Vt{k:Int}{n:Nat}(h:cond (ac .lss k 0) true (ac .geq k (n:Int))=true):k<0\/(n:Int)<=k:=by
 by_cases h1:k<0
 ·exact .inl h1
 ·refine .inr ?_;have h2:ac .lss k 0=false:=decide_eq_false h1;rw[h2]at h;exact of_decide_eq_true (p:=k>=n) h
theorem UZ{k:Int}{n:Nat}(h:cond (ac .lss k 0) true (ac .geq k (n:Int))=false):¬(k<0\/(n:Int)<=k):=by
 intro h1
 by_cases h2:k<0
 ·rw[show ac .lss k 0=true from decide_eq_true h2]at h;cases h
 ·rw[show ac .lss k 0=false from decide_eq_false h2]at h;have h3:¬(k>=n):=of_decide_eq_false h;omega
theorem UB{k:Int}{n:Nat}(h:¬(k<0\/(n:Int)<=k)):∃i:Nat,k=i/\i<n:=⟨k.toNat,by omega,by omega⟩
theorem S8{a b:Nat}(h:ac .neq (a:Int) (b:Int)=true):a≠b:=by
 have h1:((a:Int) != (b:Int))=true:=h;have h2:=bne_iff_ne.1 h1;omega
theorem Pu{a b:Nat}(h:ac .neq (a:Int) (b:Int)=false):a=b:=by
 have h1:((a:Int) != (b:Int))=false:=h;have h2:(a:Int)=b:=by simpa only[bne_eq_false_iff_eq]using h1
 omega
theorem lc{r:(k:Nat)->T k}{n:Nat}(p q:Rat):(qE (p+q):E r n)=qE p+qE q:=T.ofQ_add n p q
theorem Oz{r:(k:Nat)->T k}{n:Nat}(p:Rat):(qE (-p):E r n)=-qE p:=T.ofQ_neg n p
theorem kj{r:(k:Nat)->T k}{n:Nat}(p q:Rat):(qE (p-q):E r n)=qE p-qE q:=by
 rw[Rat.sub_eq_add_neg,lc,Oz];grind
theorem fH{r:(k:Nat)->T k}{n:Nat}(p q:Rat):(qE (p*q):E r n)=qE p*qE q:=(T.mul_ofQ r n p q).symm
def aB(l:Li)(body pt:Int):Rat×Rat:=(((cE l body).getD pt.toNat default).x.q,((cE l body).getD pt.toNat default).y.q)
abbrev qC(p:Rat×Rat):List AV:=[bl (rt p.1).neg,ws (rt p.1).num,ws (rt p.1).den,bl (rt p.2).neg,ws (rt p.2).num,ws (rt p.2).den]
abbrev qP(p:Rat×Rat):AV:=.agg (qC p)
structure Sm(e:Nat)(p:Rat×Rat):Prop where
  x:Qb e p.1
  y:Qb e p.2
structure MkP(l:Li)(body pt:Int)(n k:Nat)(bd:Bd)(m:Mk):Prop where
  hn:body=n
  hk:pt=k
  gbd:l.bo[n]?=some bd
  gm:bd.pts[k]?=some m
  ex:m.x=rt (aB l body pt).1
  ey:m.y=rt (aB l body pt).2
  sm:Sm 1000 (aB l body pt)
theorem qD{l:Li}(hl:l.ok)(hli:aO l=0){body pt:Int}(h1:bD body l.bo.length=true)(h2:bD pt (cE l body).length=true):∃n k bd m,MkP l body pt n k bd m:=by
 obtain⟨bd,g1,g2,g3,g4⟩:=oS h1;rw[g2]at h2;obtain⟨m,g5,g6,g7,g8⟩:=qH h2;have hv:=HN hli g1 g5;have ho:=(hl.bo bd g3).pts m g7;have e:aB l body pt=(m.x.q,m.y.q):=by unfold aB;rw[g2,g6]
 exact⟨body.toNat,pt.toNat,bd,m,by omega,by omega,g1,g5,by rw[e];exact Rt.eq_rt ho.x hv.1,by rw[e];exact Rt.eq_rt ho.y hv.2,by rw[e];exact⟨ho.qx.mono oz,ho.qy.mono oz⟩⟩
theorem jQ{l:Li}(hl:l.ok)(hli:aO l=0){body pt:Int}(h1:bD body l.bo.length=true)(h2:bD pt (cE l body).length=true):Sm 1000 (aB l body pt):=by
 obtain⟨n,k,bd,m,h⟩:=qD hl hli h1 h2;exact h.sm
def aA(l:Li)(a:As)(body pt:Int):Et (llq a.rs)×Et (llq a.rs):=fD l a body pt
structure PlP(E:Nat)(l:Li)(a:As)(body pt:Int)(n k:Nat)(bd:Bd)(m:Mk)(b:Pl):Prop where
  mp:MkP l body pt n k bd m
  gb:a.bs[n]?=some b
  eq:fD l a body pt=mH (llq a.rs) b m
  av:b.av=Pq.av ⟨lq b.c,lq b.s,lq b.x,lq b.y⟩
  ok:Pq.ok (llq a.rs).length E ⟨lq b.c,lq b.s,lq b.x,lq b.y⟩
def Pd(E:Nat)(a:As)(body:Int):Prop:=∃p,a.bs[body.toNat]?=some p/\bi a.rs p.l=0/\∀x∈p.l,NR x E
theorem wl{E:Nat}{l:Li}(hl:l.ok)(hli:aO l=0){a:As}(al:AB a)(hc:bt a.rs=0){body pt:Int}(h1:bD body l.bo.length=true)(h2:bD pt (cE l body).length=true)(hb:Pd E a body):∃n k bd m b,PlP E l a body pt n k bd m b:=by
 obtain⟨n,k,bd,m,h⟩:=qD hl hli h1 h2;obtain⟨b,gb,hb,hbn⟩:=hb;obtain⟨tw,_⟩:=cI al.tr hc;have h5:a.rs.length<=5:=by have:=tw.five;rwa [CW]at this
 have h9:=HK hb hbn h5;have e:body.toNat=n:=by have:=h.hn;omega
 have e2:pt.toNat=k:=by have:=h.hk;omega
 rw[e]at gb;obtain⟨bd',g1,g2,_,_⟩:=oS h1;rw[e]at g1;have:bd'=bd:=Option.some.inj (g1.symm.trans h.gbd);subst this;refine⟨n,k,bd',m,b,h,gb,?_,h9.1,by rw[CW];exact h9.2⟩;unfold fD;rw[e,e2,ao gb,g2,ao h.gm]
structure DyS(a:As):Prop where
  tr:TR a.rs 64990
  one:bt a.rs=0->(llq a.rs).length<=1
theorem DyS.ct{a:As}(h:DyS a)(hc:bt a.rs=0):Ct (llq a.rs) 310000 65000:=by
 obtain⟨tw,_⟩:=cI h.tr hc;refine⟨⟨64990,tw,?_⟩,by omega,by omega,by omega,by omega⟩;have h1:=g9 64990 (h.one hc);have h2:eB 64990 1=64992:=by simp only[eB]
 omega
theorem lF{l:Li}(hl:l.ok)(hli:aO l=0){a:As}(al:AB a)(S:DyS a)(hc:bt a.rs=0){body pt:Int}(h1:bD body l.bo.length=true)(h2:bD pt (cE l body).length=true)(hb:Pd 3900000 a body) :
  Zu 310000 65000 (aA l a body pt).1 40 40/\Zu 310000 65000 (aA l a body pt).2 40 40:=by
 obtain⟨n,k,bd,m,b,hp⟩:=wl hl hli al hc h1 h2 hb;obtain⟨tw,_⟩:=cI S.tr hc
 have kb:kB 64990 (llq a.rs).length<=65000:=by
  have h1:=g9 64990 (S.one hc);have h2:eB 64990 1=64992:=by simp only[eB]
  show eB 64990 _<=_;omega
 have qx:Qb 1000 m.x.q:=by rw[hp.mp.ex,bP];exact hp.mp.sm.x
 have qy:Qb 1000 m.y.q:=by rw[hp.mp.ey,bP];exact hp.mp.sm.y
 have h:=z6 tw hp.ok qx qy;unfold aA;rw[hp.eq];exact⟨⟨h.1.mono oz⟩,⟨h.2.mono oz⟩⟩
theorem oV{rs:List (List Rt)}{r:Nat}(h:TR rs r)(hc:bt rs=0):aR (llq rs)=.agg [.lst 1 (rs.map nR)]:=(cI h hc).2.symm
theorem U3{x y:Option Blk}{k:Nat}{z:Blk}(h:lk [(1000,x),(1001,y)] k=some z):1000<=k:=by
 rw[aU]at h;split at h
 ·omega
 ·rw[aU]at h;split at h
  ·omega
  ·cases h
theorem Jb{s:AS}{k k':Nat}{x y:Blk}(h:lk s.hp k=some x)(h':lk s.hp k'=some y):∀q z,lk [(k,some x),(k',some y)] q=some z->lk s.hp q=some z:=by
 intro q z hz;rw[aU]at hz;split at hz
 ·rename_i e;cases hz;rw[e];exact h
 ·rw[aU]at hz;split at hz
  ·rename_i e;cases hz;rw[e];exact h'
  ·cases hz
def bw(p q:Rat×Rat):Rat×Rat:=(p.1-q.1,p.2-q.2)
def bJ(p q:Rat×Rat):Rat:=p.1*q.1+p.2*q.2
def p4(p q:Rat×Rat):Rat:=p.1*q.2-p.2*q.1
theorem Sm.sub{e f:Nat}{p q:Rat×Rat}(hp:Sm e p)(hq:Sm f q):Sm (e+f+1) (bw p q):=⟨hp.x.sub hq.x,hp.y.sub hq.y⟩
theorem Sm.dot{e f:Nat}{p q:Rat×Rat}(hp:Sm e p)(hq:Sm f q):Qb (e+f+(e+f)+1) (bJ p q):=(hp.x.mul hq.x).add (hp.y.mul hq.y)
theorem Sm.cross{e f:Nat}{p q:Rat×Rat}(hp:Sm e p)(hq:Sm f q):Qb (e+f+(e+f)+1) (p4 p q):=(hp.x.mul hq.y).sub (hp.y.mul hq.x)
theorem Sm.mono{e f:Nat}{p:Rat×Rat}(hp:Sm e p)(h:e<=f):Sm f p:=⟨hp.x.mono h,hp.y.mono h⟩
theorem oL{q:Rat}{e w:Nat}(h:Qb e q)(he:e<=w*310000):Qz 310000 q w:=⟨(Cb.one h).mono he⟩
def ai(l:Li)(j:Jt)(b:Int):Rat×Rat:=if j.a=b then aB l b j.point else aB l b j.on
def ax(l:Li)(a:As)(j:Jt)(b:Int):Et (llq a.rs)×Et (llq a.rs):=if j.a=b then aA l a j.b j.on else aA l a j.a j.point
structure PinP(E:Nat)(l:Li)(a:As)(j:Jt)(b:Int):Prop where
  tie:(j.a=b/\Pd E a j.b)\/(j.a≠b/\j.b=b/\Pd E a j.a)
theorem PinP.or{E:Nat}{l:Li}{a:As}{j:Jt}{b:Int}(h:PinP E l a j b):j.a=b\/j.b=b:=by
 rcases h.tie with h9 |h9
 ·exact .inl h9.1
 ·exact .inr h9.2.1
theorem jU{l:Li}(hl:l.ok)(hli:aO l=0){a:As}(al:AB a)(S:DyS a)(hc:bt a.rs=0){i:Nat}{j:Jt}(hj:l.jo[i]?=some j){b:Int}(h:PinP 3900000 l a j b) :
  Zu 310000 65000 (ax l a j b).1 40 40/\Zu 310000 65000 (ax l a j b).2 40 40:=by
 obtain⟨i1,i2,i3,i4,_⟩:=dw hli hj;unfold ax;rcases h.tie with⟨e,hb⟩ |⟨e,e2,hb⟩
 ·rw[if_pos e];exact lF hl hli al S hc i2 i4 hb
 ·rw[if_neg e];exact lF hl hli al S hc i1 i3 hb
theorem ft{l:Li}(hl:l.ok)(hli:aO l=0){i:Nat}{j:Jt}(hj:l.jo[i]?=some j){b:Int}(h:j.a=b\/j.b=b):Sm 1000 (ai l j b):=by
 obtain⟨i1,i2,i3,i4,_⟩:=dw hli hj;unfold ai
 by_cases e:j.a=b
 ·rw[if_pos e];subst e;exact jQ hl hli i1 i3
 ·rw[if_neg e];rcases h with h |h
  ·exact absurd h e
  ·subst h;exact jQ hl hli i2 i4
theorem Ly{bs:List Int}{b:Int}(h:b∈bs):bs.contains b=true:=List.contains_iff_mem.2 h
theorem E1{bs:List Int}{b:Int}(h:b∉bs):bs.contains b=false:=by
 cases hc:bs.contains b with
 |false=>rfl
 |true=>exact absurd (List.contains_iff_mem.1 hc) h
theorem DyOk.ancs{E:Nat}{l:Li}{k:Int}{a:As}{own:Bool}{n:Nat}{g:Gr}(h:DyOk E l k a own n g){z b:Int}{j:Jt}(hz:z∈g.jo)(hj:l.jo[z.toNat]?=some j)(hb:jd g j=b)(h0:0<=b):Pd E a b:=by
 refine h.body ?_ h0;unfold cM fJ;refine List.mem_append_left _ (List.mem_map.2 ⟨z,hz,?_⟩);rw[ao hj];exact hb
theorem DyOk.pin{E:Nat}{l:Li}{k:Int}{a:As}{own:Bool}{n:Nat}{g:Gr}(h:DyOk E l k a own n g){kd z b:Int}{j:Jt}{bs:List Int}(hbs:g.bo=bs)(t:TieO l kd bs z b j)(hz:z∈g.jo)(hb:b∈bs):PinP E l a j b:=by
 subst hbs;obtain⟨i1,i2,_⟩:=dw h.li t.hj;have i1:=dz i1;have i2:=dz i2;rcases t.tie with⟨e,hn⟩ |⟨e,hn⟩
 ·refine⟨.inl ⟨e,h.ancs hz t.hj ?_ i2.1⟩⟩;unfold jd;rw[if_pos (Ly (e▸hb)),if_neg (by rw[E1 hn];simp)]
 ·refine⟨.inr ⟨fun e2=>hn (e2▸hb),e,h.ancs hz t.hj ?_ i1.1⟩⟩;unfold jd;rw[if_neg (by rw[E1 hn];simp)]
theorem DyOk.own{E:Nat}{l:Li}{k:Int}{a:As}{n:Nat}{g:Gr}(h:DyOk E l k a true n g){b:Int}(hb:b∈g.bo):Pd E a b:=by
 refine h.body ?_ (h.ok.b b hb).1;unfold cM;rw[if_pos rfl];exact List.mem_append_right _ hb
structure RrrP(E:Nat)(l:Li)(a:As)(g:Gr)(i k z0 z1 z2:Int)(j0 j1 j2:Jt):Prop where
  eq:g=⟨1,[i,k],[z0,z1,z2],0⟩
  h0:l.jo[z0.toNat]?=some j0
  h1:l.jo[z1.toNat]?=some j1
  h2:l.jo[z2.toNat]?=some j2
  p0:PinP E l a j0 i
  p1:PinP E l a j1 k
  t1:j2.a=i\/j2.b=i
  t2:j2.a=k\/j2.b=k
structure SlP(E:Nat)(l:Li)(a:As)(g:Gr)(kd i z0 z1:Int)(j0 j:Jt):Prop where
  eq:g=⟨kd,[i],[z0,z1],0⟩
  h0:l.jo[z0.toNat]?=some j0
  h1:l.jo[z1.toNat]?=some j
  p0:PinP E l a j0 i
  p1:PinP E l a j i
  hk:j.kind≠0
theorem DyOk.rrr{E:Nat}{l:Li}{k:Int}{a:As}{own:Bool}{n:Nat}{g:Gr}(h:DyOk E l k a own n g)(hk:g.kind=1):∃i k z0 z1 z2 j0 j1 j2,RrrP E l a g i k z0 z1 z2 j0 j1 j2:=by
 have hd:=h.dy;cases hd with
 |drv _ _ _ _=>exact absurd hk (by simp)
 |pr _ _ _=>exact absurd hk (by simp)
 |rp _ _ _=>exact absurd hk (by simp)
 | @rrr i k z0 z1 z2 j0 j1 j2 ne t0 t1 h0 h2 kd tie =>
  refine⟨i,k,z0,z1,z2,j0,j1,j2,rfl,t0.hj,t1.hj,h2,h.pin rfl t0 (by simp) (by simp),h.pin rfl t1 (by simp) (by simp),?_,?_⟩
  ·rcases tie with h9 |h9
   ·exact .inl h9.1
   ·exact .inr h9.1
  ·rcases tie with h9 |h9
   ·exact .inr h9.2
   ·exact .inl h9.2
theorem DyOk.pr{E:Nat}{l:Li}{k:Int}{a:As}{own:Bool}{n:Nat}{g:Gr}(h:DyOk E l k a own n g)(hk:g.kind=2):∃i z0 z1 j0 j,SlP E l a g 2 i z0 z1 j0 j/\j.a=i/\Pd E a j.b:=by
 have hd:=h.dy;cases hd with
 |drv _ _ _ _=>exact absurd hk (by simp)
 |rrr _ _ _ _ _ _ _=>exact absurd hk (by simp)
 |rp _ _ _=>exact absurd hk (by simp)
 | @pr i z0 z1 j0 j1 t0 t1 ha =>
  have p1:PinP E l a j1 i:=h.pin rfl t1 (by simp) (by simp);refine⟨i,z0,z1,j0,j1,⟨rfl,t0.hj,t1.hj,h.pin rfl t0 (by simp) (by simp),p1,by rw[t1.kd];decide⟩,ha,?_⟩;rcases p1.tie with h9 |h9
  ·exact h9.2
  ·exact absurd ha h9.1
theorem DyOk.rp{E:Nat}{l:Li}{k:Int}{a:As}{own:Bool}{n:Nat}{g:Gr}(h:DyOk E l k a own n g)(h0:g.kind≠0)(h1:g.kind≠1)(h2:g.kind≠2):∃i z0 z1 j0 j,SlP E l a g 3 i z0 z1 j0 j/\j.a≠i/\j.b=i/\Pd E a j.a:=by
 have hd:=h.dy;cases hd with
 |drv _ _ _ _=>exact absurd rfl h0
 |rrr _ _ _ _ _ _ _=>exact absurd rfl h1
 |pr _ _ _=>exact absurd rfl h2
 | @rp i z0 z1 j0 j1 t0 t1 ha =>
  have p1:PinP E l a j1 i:=h.pin rfl t1 (by simp) (by simp);refine⟨i,z0,z1,j0,j1,⟨rfl,t0.hj,t1.hj,h.pin rfl t0 (by simp) (by simp),p1,by rw[t1.kd];decide⟩,ha,?_⟩;rcases p1.tie with h9 |h9
  ·exact absurd h9.1 ha
  ·exact⟨h9.2.1,h9.2.2⟩
theorem Vk{ts:LL}{r e f:Nat}(tw:Tw ts r){b:Pl}{q:Rat×Rat}(hb:Pq.ok ts.length e ⟨lq b.c,lq b.s,lq b.x,lq b.y⟩)(hq:Sm f q) :
  Nm ts.length (3*e+2*f+2*kB r ts.length+10) (sh ts.length (sP ts (ib ts b.c) (ib ts b.s) (ib ts b.x) q.1 q.2))/\Nm ts.length (3*e+2*f+2*kB r ts.length+10) (sh ts.length (tj ts (ib ts b.c) (ib ts b.s) (ib ts b.y) q.1 q.2)):=by
 have nx:=Nm.ofQ tw.five (Cb.one hq.x);have ny:=Nm.ofQ tw.five (Cb.one hq.y);have h1:=(rI tw hb.c hb.s nx ny).add hb.x;rw[vB]at h1;have h2:=(ud tw hb.c hb.s nx ny).add hb.y;rw[xi]at h2;exact⟨h1.mono oz,h2.mono oz⟩
def aZ(c p:Rat×Rat):Rat:=bJ (bw c p) (bw c p)
theorem P6{e f:Nat}{c p:Rat×Rat}(hc:Sm e c)(hp:Sm f p):Qb (e+f+1+(e+f+1)+(e+f+1+(e+f+1))+1) (aZ c p):=(hc.sub hp).dot (hc.sub hp)
def ah(l:Li)(g:Gr)(n:Nat):Jt:=l.jo.getD (g.jo.getD n 0).toNat default
def au(g:Gr)(n:Nat):Int:=g.bo.getD n 0
section
variable(l:Li)(a:As)
def b9(i:Int)(j:Jt):Rat×Rat:=bw (aB l i j.to) (aB l i j.on)
def bV(i:Int)(j0 j:Jt):Rat:=p4 (b9 l i j) (bw (aB l i j.on) (ai l j0 i))
def fV(i:Int)(j:Jt):Rat:=bJ (b9 l i j) (b9 l i j)
def aE{ts:LL}(p q:Et ts×Et ts):Et ts×Et ts:=(p.1-q.1,p.2-q.2)
def co{ts:LL}(p q:Et ts×Et ts):Et ts:=dotE p.1 p.2 q.1 q.2
def f7{ts:LL}(p q:Et ts×Et ts):Et ts:=crsE p.1 p.2 q.1 q.2
def bS(i:Int)(j0 j:Jt):Et (llq a.rs)×Et (llq a.rs):=aE (aA l a j.a j.point) (ax l a j0 i)
def bX(i:Int)(j0 j:Jt):Et (llq a.rs):=co (bS l a i j0 j) (bS l a i j0 j)
def gh(g:Gr):Et (llq a.rs) :=
  if g.kind=0 then qE 1
  else if g.kind=1 then
    qE 4*(qE (aZ (ai l (ah l g 2) (au g 0)) (ai l (ah l g 0) (au g 0)))*co (aE (ax l a (ah l g 0) (au g 0)) (ax l a (ah l g 1) (au g 1))) (aE (ax l a (ah l g 0) (au g 0)) (ax l a (ah l g 1) (au g 1))))
      - ((qE (aZ (ai l (ah l g 2) (au g 0)) (ai l (ah l g 0) (au g 0)))+co (aE (ax l a (ah l g 0) (au g 0)) (ax l a (ah l g 1) (au g 1))) (aE (ax l a (ah l g 0) (au g 0)) (ax l a (ah l g 1) (au g 1))))-qE (aZ (ai l (ah l g 2) (au g 1)) (ai l (ah l g 1) (au g 1))))
        * ((qE (aZ (ai l (ah l g 2) (au g 0)) (ai l (ah l g 0) (au g 0)))+co (aE (ax l a (ah l g 0) (au g 0)) (ax l a (ah l g 1) (au g 1))) (aE (ax l a (ah l g 0) (au g 0)) (ax l a (ah l g 1) (au g 1))))-qE (aZ (ai l (ah l g 2) (au g 1)) (ai l (ah l g 1) (au g 1))))
  else if g.kind=2 then
    co (aE (aA l a (ah l g 1).b (ah l g 1).to) (aA l a (ah l g 1).b (ah l g 1).on)) (aE (aA l a (ah l g 1).b (ah l g 1).to) (aA l a (ah l g 1).b (ah l g 1).on))*qE (aZ (aB l (au g 0) (ah l g 1).point) (ai l (ah l g 0) (au g 0)))
      - f7 (aE (aA l a (ah l g 1).b (ah l g 1).to) (aA l a (ah l g 1).b (ah l g 1).on)) (aE (ax l a (ah l g 0) (au g 0)) (aA l a (ah l g 1).b (ah l g 1).on))
        * f7 (aE (aA l a (ah l g 1).b (ah l g 1).to) (aA l a (ah l g 1).b (ah l g 1).on)) (aE (ax l a (ah l g 0) (au g 0)) (aA l a (ah l g 1).b (ah l g 1).on))
  else qE (fV l (au g 0) (ah l g 1))*bX l a (au g 0) (ah l g 0) (ah l g 1)-qE (bV l (au g 0) (ah l g 0) (ah l g 1))*qE (bV l (au g 0) (ah l g 0) (ah l g 1))
end
section
variable{E:Nat}{l:Li}{a:As}{g:Gr}
theorem RrrP.at{i k z0 z1 z2:Int}{j0 j1 j2:Jt}(h:RrrP E l a g i k z0 z1 z2 j0 j1 j2):ah l g 0=j0/\ah l g 1=j1/\ah l g 2=j2/\au g 0=i/\au g 1=k/\g.kind=1:=by
 rw[h.eq];exact⟨ao h.h0,ao h.h1,ao h.h2,rfl,rfl,rfl⟩
theorem SlP.at{kd i z0 z1:Int}{j0 j:Jt}(h:SlP E l a g kd i z0 z1 j0 j):ah l g 0=j0/\ah l g 1=j/\au g 0=i/\g.kind=kd:=by
 rw[h.eq];exact⟨ao h.h0,ao h.h1,rfl,rfl⟩
end
section
variable{ts:LL}
def qv(p:Rat×Rat):Et ts×Et ts:=(qE p.1,qE p.2)
theorem U6(p q:Rat×Rat):aE (qv p:Et ts×Et ts) (qv q)=qv (bw p q):=by
 unfold aE qv bw;rw[kj,kj]
theorem KB(p q:Rat×Rat):co (qv p:Et ts×Et ts) (qv q)=qE (bJ p q):=by
 unfold co dotE qv bJ;rw[lc,fH,fH]
def az(p q:Et ts×Et ts):Et ts:=co (aE p q) (aE p q)
theorem qu(p q:Rat×Rat):az (qv p:Et ts×Et ts) (qv q)=qE (aZ p q):=by
 unfold az aZ;rw[U6,KB]
theorem vU(q:Rat):ak (qE q:Et ts)=bN q:=T.sgn_ofQ _ _ q
theorem mh(x:Rat):0<=x*x:=by
 rcases(Rat.le_total:0<=x\/x<=0)with h |h
 ·exact Rat.mul_nonneg h h
 ·have h1 : 0 <= -x := by grind
  have h2:=Rat.mul_nonneg h1 h1;grind
theorem UA(p q:Rat×Rat):0<=aZ p q:=by
 unfold aZ bJ bw;have h1:=mh (p.1-q.1);have h2:=mh (p.2-q.2);dsimp only;grind
theorem rU(p q:Rat×Rat):0<=ak (qE (aZ p q):Et ts):=by
 rw[vU];have h:=UA p q;unfold bN;split
 ·grind
 ·split <;> omega
def bg(p:Et ts×Et ts)(r:Et ts)(q:Et ts×Et ts)(s:Et ts):Et ts:=qE 4*(r*az p q)-((r+az p q)-s)*((r+az p q)-s)
end
section
variable{E:Nat}{l:Li}{a:As}{g:Gr}
theorem LP{i k z0 z1 z2:Int}{j0 j1 j2:Jt}(h:RrrP E l a g i k z0 z1 z2 j0 j1 j2) :
  gh l a g=bg (ax l a j0 i) (az (qv (ai l j2 i)) (qv (ai l j0 i))) (ax l a j1 k) (az (qv (ai l j2 k)) (qv (ai l j1 k))):=by
 obtain⟨e0,e1,e2,b0,b1,hk⟩:=h.at;unfold gh bg;rw[if_neg oz,if_pos hk,e0,e1,e2,b0,b1,qu,qu];rfl
theorem U0{i z0 z1:Int}{j0 j:Jt}(h:SlP E l a g 2 i z0 z1 j0 j) :
  gh l a g=co (aE (aA l a j.b j.to) (aA l a j.b j.on)) (aE (aA l a j.b j.to) (aA l a j.b j.on))*az (qv (aB l i j.point)) (qv (ai l j0 i))
   - f7 (aE (aA l a j.b j.to) (aA l a j.b j.on)) (aE (ax l a j0 i) (aA l a j.b j.on))*f7 (aE (aA l a j.b j.to) (aA l a j.b j.on)) (aE (ax l a j0 i) (aA l a j.b j.on)):=by
 obtain⟨e0,e1,b0,hk⟩:=h.at;unfold gh;rw[if_neg oz,if_neg oz,if_pos hk,e0,e1,b0,qu]
end
theorem DyOk.ne{E:Nat}{l:Li}{k:Int}{a:As}{own:Bool}{n:Nat}{i k2 z0 z1 z2:Int}(h:DyOk E l k a own n ⟨1,[i,k2],[z0,z1,z2],0⟩):i≠k2:=by
 have hd:=h.dy;generalize hg:(⟨1,[i,k2],[z0,z1,z2],0⟩:Gr)=g at hd;cases hd with
 |drv _ _ _ _=>simp at hg
 |pr _ _ _=>simp at hg
 |rp _ _ _=>simp at hg
 |rrr ne _ _ _ _ _ _=>simp at hg;obtain⟨⟨rfl,rfl⟩,_⟩:=hg;exact ne
def EA(a:As):Bool:=a.bs.all (fun b=>kI a.rs b.l)&&(decide (a.bs.length<=20)&&kI a.rs []&&decide (a.rs.length<=1\/5<a.rs.length))
theorem RR{a:As}(h:EA a=true)(ha:a.ok):AL a:=by
 unfold EA at h;simp only[and_eq_true,decide_eq_true_eq,all_eq_true]at h;obtain⟨h1,⟨h2,h3⟩,_⟩:=h;have hlt:=DM h3 ha.rs x8;exact⟨hlt.tr,fun b hb=>(DM (h1 b hb) ha.rs (ha.bs b hb)).nr,hlt.ll,h2⟩
structure Bulk{H:Type}(bk:DataW H->Nat)(bka:List (DataW H)->Nat):Prop where
  one:∀d,1<=bk d
  nil:bka []=0
  cons:∀d l,bka (d::l)=bk d+bka l
  slice:∀e s,bka e+1<=bk (.slice e s)
  agg:∀l,bka l<=bk (.agg l)
section
variable{P:Program}{W:World}{H:Type}{enc:TypeId×Value->H}{bk:DataW H->Nat}{bka:List (DataW H)->Nat}
theorem Bulk.pick(B:Bulk bk bka){α:Type}{m:α->Nat}:∀{l:List α}{xs:List (DataW H)},l.length<=xs.length->(∀(i:Nat)(a:α),l[i]?=some a->∃x,xs[i]?=some x/\m a<=bk x)->(l.map m).sum<=bka xs
 |[],xs,_,_=>by simp
 |a::l,[],hl,_=>by simp at hl
 |a::l,x::xs,hl,h=>by
  obtain⟨y,hy,h1⟩:=h 0 a rfl;cases hy;have h2:=B.pick (l:=l) (xs:=xs) (by simpa using hl) (fun i b hb=>h (i+1) b hb);rw[B.cons,map_cons,List.sum_cons];omega
def s7(P:Program)(W:World)(enc:TypeId×Value->H)(bk:DataW H->Nat)(t:TypeId){α:Type}(f:α->AV)(p:α->Prop)(m:α->Nat):Prop :=
  ∀(sp:Nat->Bool)(fuel:Nat)(cs:List Value)(x:DataW H×List MemPlace),DataW.trod enc P W 0 sp true fuel t cs=some x->(∀n∈x.1.weights P t,n<=reachBytes)->∃a,p a/\mz W cs (f a).cells/\m a<=bk x.1
theorem cQ.m{t:TypeId}{α:Type}{f:α->AV}{p:α->Prop}(h:cQ P W enc t f p):s7 P W enc bk t f p (fun _=>0):=by
 intro sp fuel cs x hx hw;obtain⟨a,h1,h2⟩:=h sp fuel cs x hx hw;exact⟨a,h1,h2,zero_le _⟩
theorem cQ.m1(B:Bulk bk bka){t:TypeId}{α:Type}{f:α->AV}{p:α->Prop}(h:cQ P W enc t f p):s7 P W enc bk t f p (fun _=>1):=by
 intro sp fuel cs x hx hw;obtain⟨a,h1,h2⟩:=h sp fuel cs x hx hw;exact⟨a,h1,h2,B.one _⟩
theorem s7.map{α β:Type}{t:TypeId}{f:α->AV}{p:α->Prop}{m:α->Nat}(h:s7 P W enc bk t f p m)(g:α->β)(f':β->AV)(p':β->Prop)(m':β->Nat)(hg:∀a,p a->p' (g a)/\f' (g a)=f a/\m' (g a)<=m a):s7 P W enc bk t f' p' m':=by
 intro sp fuel cs x hx hwt;obtain⟨a,ha,hc,hm⟩:=h sp fuel cs x hx hwt;obtain⟨h1,h2,h3⟩:=hg a ha;exact⟨g a,h1,by rw[h2];exact hc,le_trans h3 hm⟩
end
open Go.Proofs
section
variable{W:World}{H:Type}{enc:TypeId×Value->H}
theorem TL:cQ prog W enc 350 (fun n:Nat=>u32 n) (fun n=>n<4294967296) :=
 (yV (k:=.u32) Tryz.underlying350).map Int.toNat _ _ (fun n h=>by
  have h1:0<=n/\n<=4294967295:=by simpa[Lit.wf,IntKind.min,IntKind.max,IntKind.signed,IntKind.bits]using h
  have h2:((n.toNat:Nat):Int)=n:=by omega
  exact⟨by omega,by unfold u32;rw[h2]⟩)
theorem GG:cQ prog W enc 43 ws (fun l=>Ws l/\l.length<=281474976710656) :=
 (qI Tryz.underlying43 (n:=1) (by kernel_rfl) oz (by kernel_rfl) TL (fun _=>rfl)).map id _ _ (fun l h=>⟨⟨fun x hx=>h.1 x hx,h.2⟩,rfl⟩)
theorem C6:cQ prog W enc 4 bl (fun _=>True):=Ke Tryz.underlying4
theorem oH:cQ prog W enc 3 i64 (fun _=>True):=(yV (k:=.i64) Tryz.underlying3).map id _ _ (fun n h=>⟨trivial,rfl⟩)
theorem tW:cQ prog W enc 9 (fun s:ByteArray=>AV.v (.string s)) (fun s=>s.size<=281474976710656):=Lv Tryz.underlying9
theorem ut:cQ prog W enc 45 Rt.av Rt.wok :=
 (kV (n := 3) Tryz.underlying45 (by kernel_rfl)
  (.cons rfl (n:=1) (by kernel_rfl) C6 (fun _=>rfl) (.cons rfl (n:=1) (by kernel_rfl) GG (fun _=>rfl) (.cons rfl (n:=1) (by kernel_rfl) GG (fun _=>rfl) (.nil _)))) (fun _=>rfl)).map
  (fun z=>⟨z.1,z.2.1,z.2.2.1⟩) _ _ (fun z h=>⟨⟨h.2.1.1,h.2.2.1.1⟩,rfl⟩)
theorem QP:cQ prog W enc 47 Tn.av (fun x=>x.t.wok) :=
 (kV (n := 4) Tryz.underlying47 (by kernel_rfl) (.cons rfl (n := 3) (by kernel_rfl) ut (fun _ => rfl) (.cons rfl (n := 1) (by kernel_rfl) C6 (fun _ => rfl) (.nil _))) (fun _ => rfl)).map
  (fun z=>⟨z.1,z.2.1⟩) _ _ (fun z h=>⟨h.1,rfl⟩)
theorem Q1:cQ prog W enc 175 Mk.av (fun m=>m.name.size<=281474976710656/\m.x.wok/\m.y.wok) :=
 (kV (n := 7) Tryz.underlying175 (by kernel_rfl)
  (.cons rfl (n:=1) (by kernel_rfl) tW (fun _=>rfl) (.cons rfl (n:=3) (by kernel_rfl) ut (fun _=>rfl) (.cons rfl (n:=3) (by kernel_rfl) ut (fun _=>rfl) (.nil _)))) (fun _=>rfl)).map
  (fun z=>⟨z.1,z.2.1,z.2.2.1⟩) _ _ (fun z h=>⟨⟨h.1,h.2.1,h.2.2.1⟩,rfl⟩)
theorem Vm:cQ prog W enc 173 Bd.av (fun b=>b.name.size<=281474976710656/\b.pts.length<=281474976710656/\∀m∈b.pts,m.name.size<=281474976710656/\m.x.wok/\m.y.wok) :=
 (kV (n := 2) Tryz.underlying173 (by kernel_rfl)
  (.cons rfl (n:=1) (by kernel_rfl) tW (fun _=>rfl) (.cons rfl (n:=1) (by kernel_rfl) (qI Tryz.underlying171 (n:=7) (by kernel_rfl) oz (by kernel_rfl) Q1 (fun _=>rfl)) (fun _=>rfl) (.nil _))) (fun _=>rfl)).map
  (fun z=>⟨z.1,z.2.1⟩) _ _ (fun z h=>⟨⟨h.1,h.2.1.2,h.2.1.1⟩,rfl⟩)
theorem Q9:cQ prog W enc 75 Jt.av (fun j=>j.name.size<=281474976710656) :=
 (kV (n := 7) Tryz.underlying75 (by kernel_rfl)
  (.cons rfl (n := 1) (by kernel_rfl) tW (fun _ => rfl) (.cons rfl (n := 1) (by kernel_rfl) oH (fun _ => rfl) (.cons rfl (n := 1) (by kernel_rfl) oH (fun _ => rfl) (.cons rfl (n := 1) (by kernel_rfl) oH (fun _ => rfl)
   (.cons rfl (n:=1) (by kernel_rfl) oH (fun _=>rfl) (.cons rfl (n:=1) (by kernel_rfl) oH (fun _=>rfl) (.cons rfl (n:=1) (by kernel_rfl) oH (fun _=>rfl) (.nil _)))))))) (fun _=>rfl)).map
  (fun z=>⟨z.1,z.2.1,z.2.2.1,z.2.2.2.1,z.2.2.2.2.1,z.2.2.2.2.2.1,z.2.2.2.2.2.2.1⟩) _ _ (fun z h=>⟨h.1,rfl⟩)
theorem UN:cQ prog W enc 185 Dr.av (fun d=>d.name.size<=281474976710656) :=
 (kV (n := 2) Tryz.underlying185 (by kernel_rfl) (.cons rfl (n := 1) (by kernel_rfl) tW (fun _ => rfl) (.cons rfl (n := 1) (by kernel_rfl) oH (fun _ => rfl) (.nil _))) (fun _ => rfl)).map
  (fun z=>⟨z.1,z.2.1⟩) _ _ (fun z h=>⟨h.1,rfl⟩)
abbrev KV(l:Li):List AV:=[.v (.string l.name),.lst 2 (l.bo.map Bd.av),.lst 7 (l.jo.map Jt.av),.lst 2 (l.dv.map Dr.av)]
theorem OH:cQ prog W enc 26 (fun l:Li=>.agg (KV l)) Li.okw :=
 (kV (n := 4) Tryz.underlying26 (by kernel_rfl)
  (.cons rfl (n := 1) (by kernel_rfl) tW (fun _ => rfl)
   (.cons rfl (n := 1) (by kernel_rfl) (qI Tryz.underlying22 (n := 2) (by kernel_rfl) oz (by kernel_rfl) Vm (fun _ => rfl)) (fun _ => rfl)
    (.cons rfl (n := 1) (by kernel_rfl) (qI Tryz.underlying23 (n := 7) (by kernel_rfl) oz (by kernel_rfl) Q9 (fun _ => rfl)) (fun _ => rfl)
     (.cons rfl (n:=1) (by kernel_rfl) (qI Tryz.underlying24 (n:=2) (by kernel_rfl) oz (by kernel_rfl) UN (fun _=>rfl)) (fun _=>rfl) (.nil _))))) (fun _=>rfl)).map
  (fun z=>⟨z.1,z.2.1,z.2.2.1,z.2.2.2.1⟩) _ _ (fun z h=>⟨⟨h.1,h.2.1.1,h.2.2.1.1,h.2.2.2.1.1,h.2.1.2,h.2.2.1.2,h.2.2.2.1.2⟩,rfl⟩)
theorem Kj:cQ prog W enc 49 Plc.av (fun x=>x.x.wok/\x.y.wok) :=
 (kV (n := 6) Tryz.underlying49 (by kernel_rfl) (.cons rfl (n := 3) (by kernel_rfl) ut (fun _ => rfl) (.cons rfl (n := 3) (by kernel_rfl) ut (fun _ => rfl) (.nil _))) (fun _ => rfl)).map
  (fun z=>⟨z.1,z.2.1⟩) _ _ (fun z h=>⟨⟨h.1,h.2.1⟩,rfl⟩)
theorem NG:cQ prog W enc 51 Pse.av Pse.wok :=
 (kV (n := 10) Tryz.underlying51 (by kernel_rfl) (.cons rfl (n := 4) (by kernel_rfl) QP (fun _ => rfl) (.cons rfl (n := 6) (by kernel_rfl) Kj (fun _ => rfl) (.nil _))) (fun _ => rfl)).map
  (fun z=>⟨z.1,z.2.1⟩) _ _ (fun z h=>⟨⟨h.1,h.2.1.1,h.2.1.2⟩,rfl⟩)
theorem KC:cQ prog W enc 27 (fun l:List Pse=>.lst 10 (l.map Pse.av)) (fun l=>(∀x∈l,x.wok)/\l.length<=281474976710656) :=
 qI Tryz.underlying27 (n:=10) (by kernel_rfl) oz (by kernel_rfl) NG (fun _=>rfl)
theorem Rd:cQ prog W enc 5 (fun n:Nat=>AV.v (.int .u8 n)) (fun n=>n<256) :=
 (yV (k:=.u8) Tryz.underlying5).map Int.toNat _ _ (fun n h=>by
  have h1:0<=n/\n<=255:=by simpa[Lit.wf,IntKind.min,IntKind.max,IntKind.signed,IntKind.bits]using h
  have h2:((n.toNat:Nat):Int)=n:=by omega
  exact⟨by omega,by rw[h2]⟩)
abbrev Rh(z:Li×List Pse):List AV:=[.v (.string z.1.name),.lst 2 (z.1.bo.map Bd.av),.lst 7 (z.1.jo.map Jt.av),.lst 2 (z.1.dv.map Dr.av),.lst 10 (z.2.map Pse.av)]
theorem Nu:cQ prog W enc 29 (fun z:Li×List Pse=>.agg (Rh z)) (fun z=>z.1.okw/\(∀p∈z.2,p.wok)/\z.2.length<=281474976710656) :=
 (kV (n := 5) Tryz.underlying29 (by kernel_rfl) (.cons rfl (n := 4) (by kernel_rfl) OH (fun _ => rfl) (.cons rfl (n := 1) (by kernel_rfl) KC (fun _ => rfl) (.nil _))) (fun _ => rfl)).map
  (fun z=>⟨z.1,z.2.1⟩) _ _ (fun z h=>⟨⟨h.1,h.2.1.1,h.2.1.2⟩,rfl⟩)
end
open Go.Proofs Go.Proofs.YtpdiojikejnehaaGreat
open Go.ChangeShapes Go.WideShapes Go.ChangeAt Go.RowKit
theorem own:ownKnob prog.godebug=none:=by kernel_rfl
theorem Do:laidOutB prog=true:=by kernel_rfl
theorem MX:prog.stopsHeard=true:=by kernel_rfl
theorem Lp:prog.plainKeys=true:=by kernel_rfl
theorem RJ:mapsRowed prog=true:=by kernel_rfl
theorem Rj:prog.mayEnter=true:=by kernel_rfl
theorem Vs:prog.liftsFinal=false:=by kernel_rfl
theorem Rg{v:Value}(h:∀cs,v≠.agg cs):v.cells=#[v]:=by
 cases v <;> first |rfl |exact absurd rfl (h _)
theorem Oa{P:Program}{W:World}{r:Reach}{b0:Nat}{t:TypeId}{k:IntKind}{v:Value}(ht:P.underlying t=some (.int k))(hval:Value.okWide P W r b0 t v):v.cells=#[v]:=by
 refine Rg (fun cs h=>?_);subst h;unfold Value.okWide at hval;rw[ht]at hval;unfold Cell.okWide at hval;rw[ht]at hval;unfold Cell.ok at hval;rw[ht]at hval;exact hval
theorem Ix{H:Type}{enc:TypeId×Value->H}{W W':World}{t:TypeId}{v:Value}{d:DataW H}{ps:List MemPlace}{sp':Nat->Bool}(hr:prog.readableRec t=true)(ht:t<prog.types.size)
  (h:DataW.Trod enc prog W 0 (fun _=>true) true t v d ps) (hb:Below W.heap.size W W') (hlt:∀x∈ps,x.block<W.heap.size) (hs:∀p∈ps,sp' p.block=true):DataW.Trod enc prog W' 0 sp' true t v d ps :=
 WideElems.Trod_stays Do hr ht h (fun x hx=>hb.same (hlt x hx)) hs
end Go.Lw
