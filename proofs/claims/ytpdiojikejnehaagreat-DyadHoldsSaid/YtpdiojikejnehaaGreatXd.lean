/- DyadHolds: for anything drawn and any group the law returns true and leaves its arguments as they were. No other condition. Part 4 of 8: what the later parts need -/
import Derived.Test.YtpdiojikejnehaaGreatXc
import Derived.Test.YtpdiojikejnehaaGreatRows
set_option linter.unusedVariables false
open List (mem_of_getElem? mem_cons_of_mem mem_append map_cons mem_cons length_cons mem_cons_self length_append length_nil getD_eq_getElem?_getD getElem?_eq_none all_eq_true getElem?_take getElem?_map getElem?_eq_getElem drop_eq_nil_of_le nil_append map_append length_take take_of_length_le drop_zero take_length not_mem_nil length_map drop_drop map_take length_replicate map_replicate map_set length_set)
open Nat (le_refl lt_of_lt_of_le lt_or_ge le_trans mul_le_mul_right mul_le_mul_left zero_le pow_add lt_of_le_of_lt)
open Option (map_eq_some_iff)
open Bool (and_eq_true or_eq_true)
open Int (toNat_natCast natAbs_natCast)
open Go.Proofs.Tryz
namespace Go.Lw
open Go.Proofs
theorem Gn(a b:List Nat)(ha:Ws a)(hb:Ws b)(na:Nz a)(nb:Nz b)(hb0:b≠[])(la:a.length<aD)(lb:b.length<aD) :
  FP 367 [ws a,ws b] (.tup [ws (ofNat (val a/val b)),ws (ofNat (val a%val b))]):=by
 have la':=la;unfold aD at la lb;refine aj func367 ?_;refine gc (Bj a b ha hb na nb) ?_;refine gC (fun t22=>?_) (fun t22=>?_)
 ·have h1:val a<val b:=by
   simp only[aa]at t22;split at t22
   ·assumption
   ·split at t22 <;> simp at t22
  refine gc (mg a ha oz) ?_;refine gR ?_;exact KL (by rw[Nat.div_eq_of_lt h1];exact Sub.nil _ _ _) (by rw[Nat.mod_eq_of_lt h1];exact Sub.refl _)
 have h1:val b<=val a:=by
  simp only[aa]at t22;split at t22
  ·simp at t22
  ·omega
 refine gl ?_;refine gC (fun t27=>?_) (fun t27=>?_)
 ·have hl : b.length = 1 := by have := t27; simp [aa] at this; omega
  obtain⟨x,rfl⟩:∃x,b=[x]:=List.length_eq_one_iff.1 hl;have hx:x≠0:=nb x rfl;have hxB:x<4294967296:=hb x (by simp);have hv:val [x]=x:=by simp[val]
  have hm:=Nat.mod_lt (val a) (show 0<x by omega);refine gi (show _=some (u32 x)from rfl) ?_;refine gc (Lh a x ha oz oz hxB) ?_;refine gc (mg [val a%x] (uc oz) (by simp[aD])) ?_;refine bE ?_;rw[hv];simp[val]
 have hl:b.length≠1:=by have:=t27;simp[aa]at this;omega
 obtain⟨n,hn⟩:∃n,b.length=n+2:=⟨b.length-2,by have:=List.length_pos_iff.2 hb0;omega⟩
 obtain⟨sh,v,hsh,hsh2,hv,wv,lv,vv,hvt,htop,hlo⟩:=K7 hb nb hn
 have hab:b.length<=a.length:=by
  rcases lt_or_ge a.length b.length with h2 |h2
  ·have:=uu ha nb h2;omega
  ·exact h2
 obtain⟨lq,hlq⟩:∃lq,a.length+1=lq+(n+2):=⟨a.length+1-(n+2),by omega⟩
 have hbt:=bY hb (n+1);refine gl ?_;refine ga (show _=((n+1:Nat):Int) by rw[dL oz];omega) ?_;refine gi (gI (n:=n+1) oz (by first |omega |(simp;omega))) ?_;refine gc (show i9 _ _ _ (i64 (sh:Nat)) by rw[hsh];exact J6 _ hbt) ?_;refine gt (aI (CF 900 rfl b sh hb (by unfold aD;omega) hsh2) (bO rfl rfl) aL rfl rfl) ?_;refine gl ?_;refine gs (wI (.tmp rfl) (.none _) (.some _ (.tmp rfl) oz) T43 rfl T350 rfl oz oz rfl) ?_;refine gt (aI (CF 901 rfl a sh ha (by unfold aD;omega) hsh2) (bO rfl rfl) aL rfl rfl) ?_;refine gD ?_ (8,0);refine gW ((Wk.freeze (k:=900) rfl).trans<|Wk.of (sl:=[(0,some (ws a)),(1,some (ws b)),(8,some (i64 sh)),(9,some (ws v)),(10,some (.ms 901 1 0 (a.length+1)))]) (hp:=[(901,some (.row 1 ((bj (a.length+1) (2^sh*val a)).map u32)))]) (.k (.k (.k (.cons rfl (Sub.of (Vi hn hv)) (.k .nil))))) (.k .nil)) ?_;refine gl ?_;refine ga (show _=(lq:Int) by rw[lv,dL oz];omega) ?_;refine gs (iL (.tmp rfl) T43 rfl T350 rfl rfl oz (by dsimp only;omega) rfl) ?_;refine gl ?_;refine ga (show _=((n+1:Nat):Int) by rw[lv,dL oz];omega) ?_;refine gi (gI (n:=n+1) oz (by first |omega |(simp;omega))) ?_;refine gv (u64_in (by have:=bY wv (n+1);omega)) ?_;refine gl ?_;refine ga (show _=(n:Int) by rw[lv,dL oz];omega) ?_;refine gi (gI (n:=n) oz (by first |omega |(simp;omega))) ?_;refine gv (u64_in (by have:=bY wv n;omega)) ?_;refine gD ?_;refine ga (dL oz) ?_;refine jb [8,9,12,13] [] (fun(q u:List Nat)(j:Nat)=>[(10,some (.ms 901 1 0 (a.length+1))),(11,some (.ms 61 1 0 lq)),(14,some (i64 ((j:Int)-1)))]) (fun q u _=>[(901,some (.row 1 (u.map u32))),(61,some (.row 1 (q.map u32)))]) (fun q u j=>q.length=lq/\u.length=a.length+1/\Ws q/\Ws u/\j<=lq/\val (u.drop j)<val v/\2^sh*val a=val v*(4294967296^j*val (q.drop j))+val u) (fun _ _ j=>j) (List.replicate lq 0) (bj (a.length+1) (2^sh*val a)) lq ⟨by simp,fg _ _,lh _,kg _ _,le_refl _,by rw[vv];exact(DX ha hsh2 hlq hlo).2,by rw[(DX ha hsh2 hlq hlo).1];simp[val]⟩ ?_ (h2:=(.k (.cons rfl (BlkSub.of (by rw[map_replicate];rfl)) .nil)))
 rintro q u j ⟨hql,hul,wq,wu,hj,hlt,hU⟩ K1 J1;refine gC (fun t80=>?_) (fun t80=>?_) (st2:=(23,0))
 ·have hj0 : 1 <= j := by have := t80; simp [aa] at this; omega
  obtain⟨k,rfl⟩:∃k,j=k+1:=⟨j-1,by omega⟩
  obtain⟨W,hW⟩:∃W,W=val (bB u k (n+3)):=⟨_,rfl⟩
  have hVl:val v<4294967296^(n+2):=by have:=ci v wv;rwa [lv]at this
  obtain⟨e1,e2,e3⟩:=MO (u:=u) (q:=q) (k:=k) (lv:=n+2) wu oz oz hVl hlt hU;simp only[show n+2+1=n+3 from rfl]at e1 e2 e3;have hdig:=TS wv (mW wu k (n+3)) lv (oR oz) hvt e1;rw[<- hW]at e1 e2 e3 hdig;have wp:=mW wu k (n+3);have b1:=bY wp n;have b2:=bY wp (n+1);have b3:=bY wp (n+2);have b4:=hdig.htop;have b5:=hdig.htopB;have b6:=hdig.hnext;obtain⟨top,htop'⟩:∃top,top=ak v (n+1):=⟨_,rfl⟩
  obtain⟨nx,hnx⟩:∃nx,nx=ak v n:=⟨_,rfl⟩
  obtain⟨hd,hhd⟩:∃hd,hd=ak (bB u k (n+3)) (n+2)*4294967296+ak (bB u k (n+3)) (n+1):=⟨_,rfl⟩
  obtain⟨th,hth⟩:∃th,th=ak (bB u k (n+3)) n:=⟨_,rfl⟩
  rw[<- htop',<- hnx,<- hhd,<- hth]at hdig;rw[<- htop']at b4 b5 ⊢;rw[<- hnx]at b6 ⊢;rw[<- hth]at b1;have hdB:hd<18446744073709551616:=by omega
  refine gl ?_;refine ga (show _=((k+n+2:Nat):Int) by rw[lv,db oz];omega) ?_;refine ga (show _=((k+n+3:Nat):Int) by rw[db oz];omega) ?_;refine gs (wI (.tmp rfl) (.some _ (.tmp rfl) oz) (.some _ (.tmp rfl) oz) T43 rfl T350 rfl oz oz rfl) ?_ (14,0);refine gW (Wk.of (sl:=[(8,some (i64 sh)),(9,some (ws v)),(10,some (.ms 901 1 0 (a.length+1))),(11,some (.ms 61 1 0 lq)),(12,some (u64 top)),(13,some (u64 nx)),(14,some (i64 k)),(15,some (.ms 901 1 k (n+3)))]) (hp:=[(901,some (.row 1 (u.map u32))),(61,some (.row 1 (q.map u32)))]) (.k (.k (.k (.k (.k (.k (.cons rfl (Sub.int oz) (.cons rfl (Sub.of (by congr 1 <;> omega)) .nil)))))))) (.k (.k .nil))) ?_
  refine gl ?_;refine gs (n6 (n:=n+2) (.tmp rfl) (.tmp rfl) T43 rfl T350 rfl oz oz rfl) ?_;refine gs (ek (.tmp rfl) rfl (z9 (n:=n+3) (i:=n+2) oz oz) T350 rfl rfl rfl) ?_;refine gv (u64_in oz) ?_;refine gs (gH (.tmp rfl) (.const _) oz (rE (n:=32) oz oz) rfl) ?_;refine gl ?_;refine ga (show _=((n+1:Nat):Int) by rw[lv,dL oz];omega) ?_;refine gs (n6 (n:=n+1) (.tmp rfl) (.tmp rfl) T43 rfl T350 rfl oz oz rfl) ?_;refine gs (ek (.tmp rfl) rfl (z9 (n:=n+3) (i:=n+1) oz oz) T350 rfl rfl rfl) ?_;refine gv (u64_in oz) ?_;refine gs (jF (.tmp rfl) (.tmp rfl) rfl ((tE oz oz).trans (show _=(hd:Int) by rw[sL oz,hhd])) rfl) ?_;refine gD ?_;refine gs (eQ (.tmp rfl) (.tmp rfl) oz (HK hdB) rfl) ?_;refine gs (tV (.tmp rfl) (.tmp rfl) oz DY rfl) ?_;refine gD ?_;refine ic [8,9,12,13,14] [901,61] (fun(g r:Nat)=>[(10,some (.ms 901 1 0 (a.length+1))),(11,some (.ms 61 1 0 lq)),(15,some (.ms 901 1 k (n+3))),(17,some (u64 g)),(18,some (u64 r))]) (fun _ _=>[]) (fun g r=>W/val v<=g/\g*top+r=hd/\g<18446744073709551616/\r<8589934592) (fun g _=>g) (hd/top) (hd%top) ⟨hdig.first,by rw[Nat.mul_comm];exact Nat.div_add_mod _ _,by have:=Nat.div_le_self hd top;omega,by have:=Nat.mod_lt hd (show 0<top by omega);omega⟩ ?_
  rintro g r ⟨hg,hgr,hgB,hrB⟩ K2 J2;refine od (fun⟨h,h2⟩=>(u9 (by simp[aa]at h2;have:=wg (x:=g) (y:=nx) oz b6;omega))) ?_;refine gs (r7 rfl rfl rfl (fun h h2=>gH (.opt rfl (o2 h h2)) (.const _) oz (rE (n:=32) oz (by simp[aa]at h;omega)) rfl)) ?_;refine cE ?_;refine od (fun _=>(show _=(n:Int) by rw[lv,dL oz];omega)) ?_;refine gs (r7 rfl rfl rfl (fun h h2=>n6 (n:=n) (.opt rfl (o2 h h2)) (.opt rfl (o2 h h2)) T43 rfl T350 rfl oz oz rfl)) ?_;refine gs (r7 rfl rfl rfl (fun h h2=>ek (.opt rfl (o2 h h2)) rfl (z9 (n:=n+3) (i:=n) oz oz) T350 rfl rfl rfl)) ?_;refine NY (fun _=>(u64_in oz)) ?_;refine gs (r7 rfl rfl rfl (fun h h2=>jF (.opt rfl (o2 h h2)) (.opt rfl (o2 h h2)) rfl ((tE (by simp[aa]at h;omega) oz).trans (by rw[sL oz])) rfl)) ?_;refine gC (fun t133=>?_) (fun t133=>?_)
  ·have hc:r<4294967296/\(4294967296<=g\/r*4294967296+th<g*nx):=by
    rw[hth];have h9:=B8.1 t133
    rwa [show r*2^32=r*4294967296 from rfl]at h9
   have hg1:=hdig.step hg hgr hc.2;have hg0:1<=g:=Nat.succ_le_of_lt (lt_of_le_of_lt (zero_le _) hg1);refine ga (FB oz oz) ?_;refine ga (jf oz) ?_;exact hO J2 (g-1) (r+top) ⟨Nat.le_sub_one_of_lt hg1,by rw[Nat.sub_mul];have:=mul_le_mul_right top (show 1<=g by omega);omega,by omega,by omega⟩
  have hc:¬(r<4294967296/\(4294967296<=g\/r*4294967296+th<g*nx)):=by
   rw[hth];intro hh;rw[show r*4294967296=r*2^32 from rfl]at hh;exact Bool.eq_false_iff.1 t133 (B8.2 hh)
  obtain⟨hgB2,hgq⟩:=hdig.last hgr hc;have hVp:=hdig.vpos;have hWl:val (bB u k (n+3))<4294967296^(n+3):=by have:=ci _ wp;rwa [oR oz]at this
  obtain⟨p1,p2⟩:=RF hVp (show val v<=4294967296^(n+3) by have:=Nat.pow_le_pow_right (show 0<4294967296 by omega) (show n+2<=n+3 by omega);omega) (hW▸hWl) hg hgq;have hwul:k+(n+3)<=u.length:=by omega
  have hwr:(wr u k (bj (n+3) (j7 g (val v) W (n+3)))).length=a.length+1:=by rw[mz (by rw[fg];omega),hul]
  refine gt (aI (Con.rk 901 rfl rfl (Tv u v k (n+3) g wu wv oz hwul hgB2 (by unfold a7;omega))) (aF rfl rfl rfl) aL rfl rfl) ?_;refine gC (fun t142=>?_) (fun t142=>?_)
  ·have hlt2 : W < g * val v := by rw [hW]; simpa using t142
   obtain⟨q1,q2,q3⟩:=p1 hlt2;have hrl:j7 g (val v) W (n+3)<4294967296^(n+3):=by unfold j7;rw[if_neg oz];rw[<- hW]at hWl;omega
   refine ga (FB oz oz) ?_;refine gt (aI (Con.rk 901 rfl rfl (Ti (wr u k (bj (n+3) (j7 g (val v) (val (bB u k (n+3))) (n+3)))) v k (n+3) (qK wu (kg _ _)) wv oz (by rw[<- hW,hwr];omega) (by rw[<- hW,hwr];unfold a7;omega))) (bO rfl rfl) aL rfl rfl) ?_;refine gv ((dC _).trans (by rw[Nat.mod_eq_of_lt oz])) ?_;refine gs (cg (n:=k) (.tmp rfl) (.tmp rfl) T43 rfl T350 rfl oz oz rfl) ?_;refine gs (dA (.tmp rfl) rfl (cC (i:=k) oz) rfl (.tmp rfl) rfl rfl T350 rfl rfl) ?_;refine ga (dL oz) ?_;exact gQ J1 (q.set k (W/val v)) (wr u k (bj (n+3) (W%val v))) k ⟨by simp[hql],by rw[mz (by rw[fg];omega),hul],f8 wq hdig.q_lt,qK wu (kg _ _),by omega,e2,e3⟩ (hw:=Wk.of bg (.cons rfl (BlkSub.of (by rw[<- hW];first |(rw[q1];done) |(rw[Ew (r:=W%val v) hwul (fg _ _) (by rw[lB _ _ hrl];exact q1)];done))) (.cons rfl (BlkSub.of (by rw[map_set,q2];rfl)) .nil)))
  have hlt2:¬W<g*val v:=by rw[hW];simpa using t142
  obtain⟨q1,q2⟩:=p2 hlt2;refine gv ((dC _).trans (by rw[Nat.mod_eq_of_lt oz])) ?_;refine gs (cg (n:=k) (.tmp rfl) (.tmp rfl) T43 rfl T350 rfl oz oz rfl) ?_;refine gs (dA (.tmp rfl) rfl (cC (i:=k) oz) rfl (.tmp rfl) rfl rfl T350 rfl rfl) ?_;refine ga (dL oz) ?_;exact gQ J1 (q.set k (W/val v)) (wr u k (bj (n+3) (W%val v))) k ⟨by simp[hql],by rw[mz (by rw[fg];omega),hul],f8 wq hdig.q_lt,qK wu (kg _ _),by omega,e2,e3⟩ (hw:=Wk.of bg (.cons rfl (BlkSub.of (by rw[<- hW];first |(rw[q1];done) |(rw[Ew (r:=W%val v) hwul (fg _ _) (by rw[lB _ _ hrl];exact q1)];done))) (.cons rfl (BlkSub.of (by rw[map_set,q2];rfl)) .nil)))
 have hj0:j=0:=by have:=t80;simp[aa]at this;omega
 subst hj0;have hU':2^sh*val a=2^sh*val b*val q+val u:=by rw[<- vv];simpa using hU
 obtain⟨hQ,hR⟩:=LO hU' (by rw[<- vv];simpa using hlt);refine gW ((Wk.freeze (k:=61) rfl).trans<|(Wk.freeze (k:=901) rfl).trans<|Wk.of (sl:=[(8,some (i64 sh)),(10,some (ws u)),(11,some (ws q))]) (hp:=[]) (.k (.cons rfl (Sub.of (cr (by simp[hul]))) (.cons rfl (Sub.of (by rw[show AV.fz 61 1 (q.map u32) (.ms 61 1 0 lq)=ws q from cr (by simp[hql])];rfl)) .nil))) .nil) ?_;refine gc (mg q wq (by unfold aD;omega)) ?_;refine gc (Jm u sh wu (by unfold aD;omega) hsh2) ?_;refine bE ?_;rw[<- hQ,<- hR]
theorem vU{b:Bool}{n:Nat}:(cond b (aa .gtr ((ofNat n).length:Int) 0) false)=true↔(b=true/\0<n):=by
 have h:aa .gtr ((ofNat n).length:Int) 0=true↔0<n:=by
  simp only[aa,decide_eq_true_eq];constructor
  ·intro h;rcases Nat.eq_zero_or_pos n with h1 |h1;(subst h1;simp[TE]at h);exact h1
  ·intro h;have:ofNat n ≠ []:=by intro h1; have:=co n; rw [h1] at this; simp [val] at this; omega
   have:=List.length_pos_iff.2 this;omega
 cases b with
 |false=>simp
 |true=>exact⟨fun h1=>⟨rfl,h.1 h1⟩,fun h1=>h.2 h1.2⟩
theorem AD(a:Wh)(ha:a.ok):FP 306 [a.av] (i64 a.z.sign):=by
 obtain⟨e1,e2,e3⟩:=If ha;refine aj func306 ?_;refine gc (j9 a ha) ?_;refine gl ?_;refine gC (fun t3=>?_) (fun t3=>?_)
 ·have h0 : a.m.length = 0 := by simpa [aa] using t3
  refine af ?_;rw[e1 h0];rfl
 have h0:a.m.length≠0:=by simpa[aa]using t3
 refine gC (fun t8=>?_) (fun t8=>?_)
 ·refine af ?_;rw[e2 h0 t8];rfl
 refine af ?_;rw[e3 h0 t8];rfl
theorem NX(a b:Wh)(ha:a.ok)(hb:b.ok):FP 304 [a.av,b.av] (i64 (gy a.z b.z)):=by
 refine aj func304 ?_;refine gc (AD a ha) ?_;refine gc (AD b hb) ?_;refine gD ?_;refine gC (fun t14=>?_) (fun t14=>?_)
 ·have h0 : a.z.sign ≠ b.z.sign := by simpa [aa] using t14
  obtain⟨e1,e2⟩:=KS h0;refine gC (fun t17=>?_) (fun t17=>?_)
  ·have h1 : a.z.sign < b.z.sign := by simpa [aa] using t17
   refine af ?_;rw[e1 h1];rfl
  have h1:¬a.z.sign<b.z.sign:=by simpa[aa]using t17
  refine af ?_;rw[e2 h1];rfl
 have h0:a.z.sign=b.z.sign:=by simpa[aa]using t14
 have e1:=UA h0;refine gc (j9 a ha) ?_;refine gc (j9 b hb) ?_;refine gc (Bj a.m b.m (Wh.ws ha) (Wh.ws hb) a.nz b.nz) ?_;refine gD ?_;refine gc (iR a ha) ?_;refine gC (fun t24=>?_) (fun t24=>?_)
 ·rw[t24,if_pos rfl]at e1;refine gs (zR (.tmp rfl) rfl) ?_;refine af ?_;rw[e1];split
  ·rfl
  ·split <;> rfl
 rw[t24,if_neg Bool.false_ne_true]at e1;refine af ?_
 first |(rw[e1];done) |(rw[e1];rfl)
theorem Pf(a:Wh)(ha:a.ok)(la:a.mag.length<aD):FP 234 [a.av] (zA (-a.z)):=by
 refine aj func234 ?_;refine gc (iR a ha) ?_;refine gc (j9 a ha) ?_;refine gc (kj _ a.m (Wh.ws ha) (Nat.le_of_lt (Wh.small ha la))) ?_;refine gD ?_;refine af ?_;rw[Wh.z_eq,<- IK];rfl
theorem MQ(a b:Wh)(ha:a.ok)(hb:b.ok)(la:a.mag.length+b.mag.length<=aD):FP 321 [a.av,b.av] (zA (a.z*b.z)):=by
 have h1:=Wh.m_le (w:=a);have h2:=Wh.m_le (w:=b);have h3:(ofNat (val a.m*val b.m)).length<=a.m.length+b.m.length:=fm (by rw[pow_add];exact Nat.mul_lt_mul'' (ci _ (Wh.ws ha)) (ci _ (Wh.ws hb)));refine aj func321 ?_;refine gc (iR a ha) ?_;refine gc (iR b hb) ?_;refine gc (j9 a ha) ?_;refine gc (j9 b hb) ?_;refine gc (Tj a.m b.m (Wh.ws ha) (Wh.ws hb) oz) ?_;refine gc (kj _ _ (dh _) oz) ?_;refine gD ?_;refine af ?_;rw[co,H3];rfl
theorem Kv(a b:Wh)(ha:a.ok)(hb:b.ok)(la:a.mag.length<aD)(lb:b.mag.length<aD):FP 320 [a.av,b.av] (zA (a.z+b.z)):=by
 have h1:=Wh.m_le (w:=a);have h2:=Wh.m_le (w:=b);have hla:val a.m<4294967296^(max a.m.length b.m.length):=lt_of_lt_of_le (ci _ (Wh.ws ha)) (Nat.pow_le_pow_right oz oz);have hlb:val b.m<4294967296^(max a.m.length b.m.length):=lt_of_lt_of_le (ci _ (Wh.ws hb)) (Nat.pow_le_pow_right oz oz);have h3:(ofNat (val a.m+val b.m)).length<=max a.m.length b.m.length+1:=fm (by rw[Nat.pow_succ];omega);have h4:(ofNat (val a.m-val b.m)).length<=max a.m.length b.m.length:=fm oz;have h5:(ofNat (val b.m-val a.m)).length<=max a.m.length b.m.length:=fm oz;refine aj func320 ?_;refine gc (j9 a ha) ?_;refine gc (j9 b hb) ?_;refine gD ?_;refine gc (iR a ha) ?_;refine gc (iR b hb) ?_;refine gD ?_;refine gC (fun t11=>?_) (fun t11=>?_)
 ·have h0 : a.n = b.n := by simpa using t11
  refine gc (iR a ha) ?_;refine gc (Ey a.m b.m (Wh.ws ha) (Wh.ws hb) oz oz) ?_;refine gc (kj _ _ (dh _) oz) ?_;refine af ?_;rw[co,FO h0];rfl
 have h0:a.n≠b.n:=by simpa using t11
 refine gc (Bj a.m b.m (Wh.ws ha) (Wh.ws hb) a.nz b.nz) ?_;refine gC (fun t23=>?_) (fun t23=>?_)
 ·have h6:val b.m<=val a.m:=by
   rcases lt_or_ge (val a.m) (val b.m)with h |h
   ·rw[if_pos h]at t23;cases t23
   ·exact h
  refine gc (iR a ha) ?_;refine gc (xI a.m b.m (Wh.ws ha) (Wh.ws hb) oz (by rcases lt_or_ge a.m.length b.m.length with h |h;(have:=uu (Wh.ws ha) b.nz h;omega);exact h) h6) ?_;refine gc (kj _ _ (dh _) oz) ?_;refine af ?_;rw[co,yp h0 h6];rfl
 have h6:val a.m<val b.m:=by
  rcases lt_or_ge (val a.m) (val b.m)with h |h
  ·exact h
  ·rw[if_neg oz]at t23;split at t23 <;> cases t23
 refine gc (iR b hb) ?_;refine gc (xI b.m a.m (Wh.ws hb) (Wh.ws ha) oz (by rcases lt_or_ge b.m.length a.m.length with h |h;(have:=uu (Wh.ws hb) a.nz h;omega);exact h) oz) ?_;refine gc (kj _ _ (dh _) oz) ?_;refine af ?_;rw[co,Dz h0 oz];rfl
theorem FK(a b:Wh)(ha:a.ok)(hb:b.ok)(la:a.mag.length<aD)(lb:b.mag.length<aD):FP 305 [a.av,b.av] (zA (Int.gcd a.z b.z)):=by
 refine aj func305 ?_;refine gc (j9 a ha) ?_;refine gc (j9 b hb) ?_;refine gD ?_;refine ic [4] [4] (fun(x y:List Nat)=>[(5,some (ws x)),(6,some (ws y))]) (fun _ _=>[]) (fun x y=>Ws x/\Ws y/\Nz x/\Nz y/\x.length<aD/\y.length<aD/\Nat.gcd (val x) (val y)=Int.gcd a.z b.z) (fun _ y=>val y) a.m b.m ⟨Wh.ws ha,Wh.ws hb,a.nz,b.nz,Wh.small ha la,Wh.small hb lb,by rw[Int.gcd,Wh.abs,Wh.abs]⟩ ?_;rintro x y ⟨wx,wy,nx,ny,lx,ly,hg⟩ K1 J1;refine gl ?_;refine gC (fun t15=>?_) (fun t15=>?_)
 ·have hy : y ≠ [] := by intro h; subst h; simp [aa] at t15
  have hy0:=pz ny hy;have hm:=Nat.mod_lt (val x) hy0;refine gc (Gn x y wx wy nx ny hy lx ly) ?_;exact hO J1 y (ofNat (val x%val y)) ⟨wy,dh _,ny,qT _,ly,lt_of_le_of_lt (fm (Nat.lt_trans hm (ci y wy))) ly,by rw[co,<- hg,Nat.gcd_comm (val x) (val y),Nat.gcd_comm (val y) (val x%val y)];exact(Nat.gcd_rec _ _).symm⟩ (by show val (ofNat _)<val y;rw[co];exact hm)
 have hy:y=[]:=by
  cases y with
  |nil=>rfl
  |cons c l=>simp[aa]at t15
 subst hy;have hg':val x=Int.gcd a.z b.z:=by rw[<- hg];simp[val]
 refine gc (kj false x wx (Nat.le_of_lt lx)) ?_;refine af ?_;rw[hg'];rfl
theorem JK(a b:Wh)(ha:a.ok)(hb:b.ok)(la:a.mag.length+1<aD)(lb:b.mag.length<aD)(h0:b.z≠0):FP 322 [a.av,b.av] (.tup [zA (a.z/b.z),zA (a.z%b.z),.v .nilIface]):=by
 have hm1:=Wh.m_le (w:=a);have hm2:=Wh.m_le (w:=b);have hb1:val b.m≠0:=by have:=Wh.abs (w:=b);omega
 have hb2:b.m≠[]:=fun h=>hb1 (by rw[h];rfl)
 have hl1:(ofNat (val a.m/val b.m)).length<=a.m.length:=fm (lt_of_le_of_lt (Nat.div_le_self _ _) (ci _ (Wh.ws ha)));have hmod:=Nat.mod_lt (val a.m) (show 0<val b.m by omega);have hl2:(ofNat (val a.m%val b.m)).length<=b.m.length:=fm (Nat.lt_trans hmod (ci _ (Wh.ws hb)));have hl3:(ofNat (val a.m/val b.m+1)).length<=a.m.length+1:=fm (by have h7:=lt_of_le_of_lt (Nat.div_le_self (val a.m) (val b.m)) (ci _ (Wh.ws ha));rw[Nat.pow_succ];generalize val a.m/val b.m=m at *;omega);have hl4:(ofNat (val b.m-val a.m%val b.m)).length<=b.m.length:=fm (by have:=ci _ (Wh.ws hb);omega);have hv1:val [1]=1:=rfl;refine aj func322 ?_;refine gc (j9 b hb) ?_;refine gl ?_;refine gC (fun t14=>?_) (fun t14=>?_) (st1:=(3,0));exact absurd (List.length_eq_zero_iff.1 (by simpa[aa]using t14)) hb2;refine gc (j9 a ha) ?_;refine gc (Gn a.m b.m (Wh.ws ha) (Wh.ws hb) a.nz b.nz hb2 oz oz) ?_;refine gc (iR a ha) ?_;refine cE ?_;refine gC (fun t31=>?_) (fun t31=>?_)
 ·have h1:a.n = true /\ 0 < val a.m % val b.m:=vU.1 t31;obtain ⟨e1,e2⟩:=Cg hb1 h1.1 h1.2;refine gc (Ey (ofNat (val a.m / val b.m)) [1] (dh _) (uc oz) oz (by unfold aD; simp)) ?_;refine gc (xI b.m (ofNat (val a.m % val b.m)) (Wh.ws hb) (dh _) oz hl2 (by rw [co]; omega)) ?_ (7,0);refine gW (Wk.of (sl:=[(2,some (.ptr 2 0)),(3,some (.ptr 3 0)),(4,some (.ptr 4 0)),(5,some (.ptr 5 0)),(8,some (ws (ofNat (val a.m / val b.m + 1)))),(9,some (ws (ofNat (val b.m - val a.m % val b.m))))]) (hp:=[(2,some (.box [bl a.neg,ws a.mag])),(3,some (.box [bl b.neg,ws b.mag])),(4,some (.box [.v (.bool false),nS])),(5,some (.box [.v (.bool false),nS]))]) (.k (.k (.k (.k (.cons rfl (Sub.of (by rw [co,hv1])) (.cons rfl (Sub.of (by rw [co])) .nil)))))) (.k (.k (.k (.k .nil))))) ?_
  refine gc (iR a ha) ?_;refine gc (iR b hb) ?_;refine gc (by apply kj _ _ (dh _) oz) ?_;refine gc (by apply kj _ _ (dh _) oz) ?_;refine gD ?_;refine gR ?_;exact sf (by rw[co,co,e1,show sgn false _=_ from e2];rfl)
 have h1:¬(a.n=true/\0<val a.m%val b.m):=fun h=>Bool.eq_false_iff.1 t31 (vU.2 h)
 obtain⟨e1,e2⟩:=Ga hb1 h1;refine gc (iR a ha) ?_;refine gc (iR b hb) ?_;refine gc (by apply kj _ _ (dh _) oz) ?_;refine gc (by apply kj _ _ (dh _) oz) ?_;refine gD ?_;refine gR ?_;exact sf (by rw[co,co,e1,show sgn false _=_ from e2];rfl)
theorem vz{N:Nat}(h:N<18446744073709551616):val [N%4294967296,N/2^32]=N:=by
 simp only[val];omega
theorem vi{N:Nat}(h:N<18446744073709551616):Ws [N%4294967296,N/2^32]:=by
 intro x hx;simp only[mem_cons,not_mem_nil,or_false]at hx;rcases hx with rfl |rfl <;> omega
theorem GO(n:Int)(h:-9223372036854775808<=n/\n<=9223372036854775807):FP 257 [i64 n] (zA n):=by
 obtain⟨N,hN⟩:∃N,N=n.natAbs:=⟨_,rfl⟩
 have hNB:N<18446744073709551616:=by omega
 refine aj func257 ?_;refine gv (show IntKind.u64.wrap n=((n%18446744073709551616:Int)) by simp only[IntKind.wrap,IntKind.signed,IntKind.bits,Bool.false_and,if_false,Bool.false_eq_true];omega) ?_;refine gC (fun t7=>?_) (fun t7=>?_) (st2:=(77777,0))
 ·have hn : n < 0 := by simpa [aa] using t7
  refine gs (zR (.tmp rfl) rfl) ?_ (4,0);refine gW (Wk.of (sl:=[(0,some (i64 n)),(2,some (.ptr 2 0)),(3,some (u64 N))]) (hp:=[(2,some (.box [.v (.bool false),nS]))]) (.k (.k (.cons rfl (Sub.int (by simp only[IntKind.wrap,IntKind.signed,IntKind.bits,Bool.false_and,if_false,Bool.false_eq_true];omega)) .nil))) (.k .nil)) ?_;refine gv (dC _) ?_;refine gs (eV (.tmp rfl) (.const _) oz (gk _ 32 oz) rfl) ?_;refine gv ((dC _).trans (by rw[Nat.mod_eq_of_lt (show N/2^32<4294967296 by omega)])) ?_;refine gc (kj (aa .lss n 0) [N%4294967296,N/2^32] (vi hNB) (by unfold aD;simp)) ?_;refine af ?_;rw[vz hNB,show sgn (aa .lss n 0) N=n by simp only[sgn,aa,decide_eq_true_eq];split <;> omega];rfl
 have hn:¬n<0:=by simpa[aa]using t7
 refine gW (Wk.of (sl:=[(0,some (i64 n)),(2,some (.ptr 2 0)),(3,some (u64 N))]) (hp:=[(2,some (.box [.v (.bool false),nS]))]) (.k (.k (.cons rfl (Sub.int oz) .nil))) (.k .nil)) ?_;refine gv (dC _) ?_;refine gs (eV (.tmp rfl) (.const _) oz (gk _ 32 oz) rfl) ?_;refine gv ((dC _).trans (by rw[Nat.mod_eq_of_lt (show N/2^32<4294967296 by omega)])) ?_;refine gc (kj (aa .lss n 0) [N%4294967296,N/2^32] (vi hNB) (by unfold aD;simp)) ?_;refine af ?_;rw[vz hNB,show sgn (aa .lss n 0) N=n by simp only[sgn,aa,decide_eq_true_eq];split <;> omega];rfl
theorem zU:∀(j k v:Nat),j<=k->(bj k v).take j=bj j v
 |0,_,_,_=>by simp[bj]
 |j+1,0,_,h=>by omega
 |j+1,k+1,v,h=>by
  rw[bj,bj,List.take_succ_cons,zU j k _ oz]
theorem B3{m:List Nat}(h:Ws m):(ofNat (val m)).length<=m.length:=fm (ci m h)
theorem DI{m:List Nat}(h:Ws m):m.take (ofNat (val m)).length=ofNat (val m):=by
 have h1:=sG m h;have h2:=sG (ofNat (val m)) (dh _);rw[co]at h2;have h3:=zU _ _ (val m) (B3 h);rw[<- h1,<- h2]at h3;exact h3
theorem C2{m:List Nat}{n:Nat}(h:Ws m)(hn:n<=m.length)(hv:val (m.take n)=val m)(h0:n=0\/ak m (n-1)≠0):n=(ofNat (val m)).length:=by
 have h1:m.take n=ofNat (val m):=by
  refine CX (fX h n) ?_ hv;intro x hx;rcases h0 with h0 |h0
  ·subst h0;simp at hx
  ·have hn0 : n ≠ 0 := by intro h3; subst h3; simp at hx
   rw[List.getLast?_eq_getElem?,length_take,Nat.min_eq_left hn,getElem?_take,if_pos oz,jr oz]at hx;cases hx;exact h0
 rw[<- h1,length_take,Nat.min_eq_left hn]
theorem yC(l:List Nat)(i:Nat):val l=val (l.take i)+4294967296^i*val (l.drop i):=by
 rcases lt_or_ge i l.length with h |h
 ·exact AO oz
 ·rw[eZ h,drop_eq_nil_of_le h];simp[val]
theorem sD(l:List Nat)(i:Nat):val (l.drop i)=ak l i+4294967296*val (l.drop (i+1)):=by
 rcases lt_or_ge i l.length with h |h
 ·exact qi h
 ·rw[ru h,drop_eq_nil_of_le h,drop_eq_nil_of_le oz];rfl
theorem FN{a b:List Nat}{i:Nat}(ha:Ws a)(he:val (a.drop (i+1))=val (b.drop (i+1)))(hx:ak a i<ak b i):val a<val b:=by
 rw[yC a (i+1),yC b (i+1),he];have:=F9 ha hx;omega
theorem TA{xs ys:List AV}(hl:xs.length=ys.length)(h1:∀(j:Nat)(y:AV),ys[j]?=some y->y.one=true)(h:∀(j:Nat)(x y:AV),xs[j]?=some x->ys[j]?=some y->Sub x y):Sub (.agg xs) (.agg ys):=by
 intro g S m v hr;cases hr with
 |agg hn h2 hr =>
  refine .agg (hn.trans hl) h1 ?_;intro j u c hu hc
  have hj:j<xs.length:=by
   rw[hl];rcases lt_or_ge j ys.length with h |h
   ·exact h
   ·rw[getElem?_eq_none h]at hc;cases hc
  exact h j _ c (getElem?_eq_getElem hj) hc _ _ _ _ (hr j u _ hu (getElem?_eq_getElem hj))
theorem NP:Sub (.agg [.v (.bool false),.v (.slice none 0 0)]) (zA 0):=by
 show Sub (.agg [.v (.bool false),.v (.slice none 0 0)]) (.agg [bl false,ws []]);refine TA rfl ?_ ?_
 ·intro j y hy
  match j,hy with
  |0,hy=>cases hy;rfl
  |1,hy=>cases hy;rfl
 ·intro j x y hx hy
  match j,hx,hy with
  |0,hx,hy=>cases hx;cases hy;exact Sub.refl _
  |1,hx,hy=>cases hx;cases hy;exact Sub.nil _ _ _
theorem Fu{out:List Nat}{i x:Nat}(h:out.length=i):val (out++[x])=val out+4294967296^i*x:=by
 rw[rz,h];simp[val]
theorem B2{o c P x y u w:Nat}(hu:u<4294967296)(hw:w<4294967296)(hc:c<=1)(h:o+y=x+c*P) :
  (o+P*((4294967296+u-w-c)%4294967296))+(y+P*w)=(x+P*u)+(1-(4294967296+u-w-c)/2^32)*(P*4294967296):=by
 have h0:(4294967296+u-w-c)%4294967296+w+c=u+(1-(4294967296+u-w-c)/2^32)*4294967296:=by omega
 generalize(1-(4294967296+u-w-c)/2^32)=q at *;generalize(4294967296+u-w-c)%4294967296=r at *;grind
theorem EG{a b out:List Nat}{c:Nat}(ha:Ws a)(hw:Ws out)(ho:out.length=a.length)(hle:val b<=val a)
  (h:val out+val (b.take a.length)=val (a.take a.length)+c*4294967296^a.length):val out=val a-val b:=by
 have hb:=yC b a.length;have h2:=ci a ha
 have h3:val (b.drop a.length)=0:=by
  rcases Nat.eq_zero_or_pos (val (b.drop a.length))with h4 |h4
  ·exact h4
  ·have:=mul_le_mul_left (4294967296^a.length) h4;omega
 rw[h3,Nat.mul_zero,Nat.add_zero]at hb;rw[<- hb,take_length]at h;have h1:=ci out hw;rw[ho]at h1;cases c with
 |zero=>omega
 |succ c=>rw[Nat.succ_mul]at h;omega
theorem Gp{z:Int}{k:Nat}(h:Lz k z)(hk:k<=a7):(ofInt z).ok:=⟨dh _,le_trans h.len hk⟩
theorem HF{z:Int}{k:Nat}(h:Lz k z):(ofInt z).mag.length<=k:=h.len
theorem Tg(x y:Int):(x-y).sign=gy x y:=by
 unfold gy;have h:=yo (x-y)
 (repeat' split) <;> omega
theorem lg(m:List Nat)(i:Nat)(hm:Ws m):FP 375 [ws m,i64 i] (u64 (ak m i)):=by
 refine aj func375 ?_;refine gl ?_;refine gC (fun t8=>?_) (fun t8=>?_)
 ·simp[aa]at t8;have:=bY hm i;refine gi (cC (i:=i) t8) ?_;refine gv (u64_in oz) ?_;refine af ?_;rfl
 simp[aa]at t8;refine af ?_;simp[u64,ru t8]
theorem Dc(w:Wh)(h:w.ok):FP 368 [w.av] (bl w.valid):=by
 have hl:w.mag.length<=a7:=h.2;refine aj func368 ?_;refine gl ?_;refine gC (fun t6=>?_) (fun t6=>?_)
 ·have h0 : w.mag = [] := by simpa [aa] using t6
  refine af ?_;simp[bl,Wh.valid,h0]
 have h0:w.mag.length≠0:=by simpa[aa]using t6
 refine gl ?_;refine ga (jw oz oz) ?_;refine gi (cC (i:=w.mag.length-1) oz) ?_;refine af ?_;have h1:w.mag≠[]:=fun h=>h0 (by rw[h];rfl)
 simp only[bl,Wh.valid,if_neg h1,List.getLast?_eq_getElem?,jr (show w.mag.length-1<w.mag.length by omega),aa];congr 2;generalize ak w.mag _=x;rw[Bool.eq_iff_iff];simp
theorem kK(w:Wh)(h:w.ok):FP 312 [w.av] (ws w.m):=by
 refine aj func312 ?_;refine gc (Dc w h) ?_;refine gC (fun t5=>?_) (fun t5=>?_)
 ·have h0 : w.valid = false := by simpa [aa] using t5
  refine gR ?_;exact iN (by rw[show w.m=[] by simp[Wh.m,h0]];exact Sub.nil _ _ _)
 have h0:w.valid=true:=by simpa[aa]using t5
 refine af ?_;simp only[Wh.m,h0];rfl
theorem iZ(w:Wh)(h:w.ok):FP 313 [w.av] (bl w.n):=by
 refine aj func313 ?_;refine gc (Dc w h) ?_;refine af ?_;simp only[Wh.n,bl];cases w.valid <;> rfl
theorem A8(d:Nat)(hd:Nat.blt d 1000=true)(m:List Nat)(hm:Ws m)(hb:m.length<=aD) :
  Con prog 362 [ws m] [] (.ms d 1 0 (ofNat (val m)).length) [(d,some (.row 1 (m.map u32)))]:=by
 have hb':=hb;unfold aD at hb;refine gF func362 (fun k z h=>by cases h) ?_;refine gs (ku T43 rfl T350 rfl rfl rfl) ?_;refine gs (de (.tmp rfl) rfl rfl (.tmp rfl) T43 rfl T350 rfl rfl (by simp only[length_map];omega) rfl rfl) ?_;refine aZ [] [6] (fun(n:Nat)=>[(3,some (.ms 6 1 0 n))]) (fun _=>[]) (fun n=>n<=m.length/\val (m.take n)=val m) (fun n=>n) m.length ⟨le_refl _,by rw[take_length]⟩ ?_ (h1:=(.cons rfl (Sub.of (by rw[length_map,Nat.zero_add])) .nil));rintro n ⟨hn,hv⟩ K1 J1;refine od (fun h=>(jw (by simp[aa]at h;omega) (by unfold a7;omega))) ?_;refine gs (eJ rfl rfl rfl (fun h=>cg (n:=n-1) (.opt rfl (o1 h)) (.opt rfl (o1 h)) T43 rfl T350 rfl oz (by simp[aa]at h;omega) rfl)) ?_;refine gs (eJ rfl rfl rfl (fun h=>ek (.opt rfl (o1 h)) rfl (cC (i:=n-1) (by simp[aa]at h;omega)) T350 rfl rfl rfl)) ?_;refine gC (fun t18=>?_) (fun t18=>?_)
 ·have t18 : 0 < n /\ ak m (n - 1) = 0 := by simpa [aa] using t18
  refine ga (jw oz (by unfold a7;omega)) ?_;refine gs (wI (.tmp rfl) (.none _) (.some _ (.tmp rfl) oz) T43 rfl T350 rfl oz oz rfl) ?_;exact aT J1 (n-1) ⟨by omega,by have h:=@dk m (n-1);rw[show n-1+1=n by omega,t18.2]at h;simp at h;omega⟩ (hw:=Wk.of (.cons rfl (Sub.of (by congr 1)) .nil) (.k .nil))
 have t18:0<n->ak m (n-1)≠0:=by simpa[aa]using t18
 have hn1:=C2 hm hn hv (by rcases Nat.eq_zero_or_pos n with h |h;(exact .inl h);exact .inr (t18 h));subst hn1;refine gR ?_;exact aJ.own1 rfl hd rfl
theorem rH(m:List Nat)(hm:Ws m)(hb:m.length<=aD):FP 362 [ws m] (ws (ofNat (val m))):=by
 have h:=Con.freeze (by rw[length_map,Nat.zero_add];exact B3 hm) (A8 0 rfl m hm hb)
 rwa [drop_zero,<- map_take,DI hm]at h
theorem j4(b:Bool)(m:List Nat)(hm:Ws m)(hb:m.length<=aD):FP 295 [bl b,ws m] (zA (sgn b (val m))):=by
 refine aj func295 ?_;refine gc (rH m hm hb) ?_;refine gl ?_;refine gC (fun t9=>?_) (fun t9=>?_)
 ·have h0:val m=0:=by
   have:=co (val m);have h9:ofNat (val m)=[]:=List.length_eq_zero_iff.1 (by simpa[aa]using t9);rw[h9]at this;exact this.symm
  refine gR ?_;exact iN (by rw[h0,show sgn b 0=0 by cases b <;> rfl];exact NP)
 have h0:val m≠0:=by
  intro h;rw[h]at t9;cases t9
 refine af ?_
 rw[show zA (sgn b (val m))=.agg [bl b,ws (ofNat (val m))] by
  unfold zA ofInt Wh.av;rw[show(sgn b (val m)).natAbs=val m by unfold sgn;split <;> omega,show decide (sgn b (val m)<0)=b by cases b <;> simp[sgn] <;> omega]]
theorem y9(a b:List Nat)(ha:Ws a)(hb:Ws b):FP 335 [ws a,ws b] (i64 (if val a<val b then -1 else if val b<val a then 1 else 0)):=by
 refine aj func335 ?_ (0,0);refine sI (t:=0) rfl (fun hla=>?_);refine sI (t:=1) rfl (fun hlb=>?_);unfold a7 at hla hlb;refine go ?_;refine gl ?_;refine gl ?_;refine gs (rj (.tmp rfl) (.tmp rfl) rfl) ?_;refine ga (dL oz) ?_;refine aZ [0,1] [] (fun(n:Nat)=>[(5,some (i64 ((n:Int)-1)))]) (fun _=>[]) (fun n=>n<=281474976710656/\val (a.drop n)=val (b.drop n)) (fun n=>n) (max a.length b.length) ⟨by omega,by rw[drop_eq_nil_of_le oz,drop_eq_nil_of_le oz]⟩ ?_ (h1:=(.cons rfl (Sub.int oz) .nil));rintro n ⟨hn,hd⟩ K1 J1;refine gC (fun t13=>?_) (fun t13=>?_)
 ·have hn0 : 1 <= n := by have := t13; simp [aa] at this; omega
  obtain⟨k,rfl⟩:∃k,n=k+1:=⟨n-1,by omega⟩
  have hk:((k+1:Nat):Int)-1=(k:Int):=by omega
  rw[hk];refine gc (lg a k ha) ?_;refine gc (lg b k hb) ?_;refine gC (fun t22=>?_) (fun t22=>?_)
  ·have h3 : ak a k ≠ ak b k := by simpa [aa, Int.ofNat_inj] using t22
   refine gc (lg a k ha) ?_;refine gc (lg b k hb) ?_;refine gC (fun t29=>?_) (fun t29=>?_)
   ·have h4 : ak a k < ak b k := by simpa [aa] using t29
    have h5:=FN ha hd h4;refine af ?_;simp[i64,h5]
   have h4:ak b k<ak a k:=by have:ak b k<=ak a k:=(by simpa[aa]using t29);omega
   have h5:=FN hb hd.symm h4;refine af ?_;simp[i64,h5,Nat.lt_asymm h5]
  have h3:ak a k=ak b k:=by simpa[aa,Int.ofNat_inj]using t22
  refine ga (dL oz) ?_;exact aT J1 k ⟨by omega,by rw[sD a,sD b,hd,h3]⟩
 have hn0:n=0:=by have:=t13;simp[aa]at this;omega
 subst hn0;refine af ?_;simp at hd;simp[i64,hd]
theorem BG(a b:List Nat)(ha:Ws a)(hb:Ws b)(la:a.length<aD)(lb:b.length<aD):FP 334 [ws a,ws b] (ws (ofNat (val a+val b))):=by
 unfold aD at la lb;obtain⟨n,hn⟩:∃n,n=max a.length b.length+1:=⟨_,rfl⟩
 refine aj func334 ?_;refine gl ?_;refine gl ?_;refine gs (rj (.tmp rfl) (.tmp rfl) rfl) ?_;refine ga (show _=(n:Int) by rw[db oz];omega) ?_;refine gW (Wk.virt 900 1 rfl) ?_;refine jb [0,1,14] [] (fun(out:List Nat)(c i:Nat)=>[(5,some (.ms 900 1 0 i)),(6,some (u64 c)),(15,some (i64 i))]) (fun out _ _=>[(900,some (.row 1 (out.map u32)))]) (fun out c i=>out.length=i/\i<=n/\Ws out/\c<=1/\val out+c*4294967296^i=val (a.take i)+val (b.take i)) (fun _ _ i=>n-i) ([]) 0 0 ⟨rfl,by omega,o6,by omega,by simp[val]⟩ ?_;rintro out c i ⟨ho,hi,hw,hc,hv⟩ K1 J1;refine gC (fun t16=>?_) (fun t16=>?_) (st2:=(9,0))
 ·have hin : i < n := by simpa [aa] using t16
  have h1:=bY ha i;have h2:=bY hb i;obtain⟨s,hs⟩:∃s,s=c+(ak a i+ak b i):=⟨_,rfl⟩
  have h3:=yJ (u:=ak a i) (w:=ak b i) hv;rw[<- hs]at h3;refine gc (by apply lg <;> assumption) ?_;refine gc (by apply lg <;> assumption) ?_;refine ga (jf oz) ?_;refine ga ((jf oz).trans (show _=(s:Int) by congr 1;omega)) ?_;refine gv (dC _) ?_;refine gs (de (.tmp rfl) rfl (by rw[length_map,ho]) (.tmp rfl) T43 rfl T350 rfl rfl (by simp;omega) rfl rfl) ?_;refine gs (eV (.tmp rfl) (.const _) oz (gk _ 32 oz) rfl) ?_ (8,0);refine gW (Wk.of (sl:=[(0,some (ws a)),(1,some (ws b)),(5,some (.ms 31 1 0 (i+1))),(6,some (u64 (s/2^32))),(14,some (i64 n)),(15,some (i64 i))]) (hp:=[(31,some (.row 1 ((out++[s%4294967296]).map u32)))]) bg (.cons rfl (BlkSub.of (by rw[map_append];rfl)) .nil)) ?_ (8,0);refine gW (Wk.rk (k:=31) (d:=900) rfl rfl) ?_;refine ga (db oz) ?_;exact gQ J1 (out++[s%4294967296]) (s/2^32) (i+1) ⟨by simp[ho],by omega,vX hw (uc oz),by omega,by rw[Fu ho,dk,dk,Nat.pow_succ];exact h3⟩
 have hin:i=n:=by have:n<=i:=(by simpa[aa]using t16);omega
 refine gW ((Wk.freeze (k:=900) rfl).trans<|Wk.of (sl:=[(5,some (ws out))]) (hp:=[]) (.cons rfl (Sub.of (cr (by simp[ho]))) .nil) .nil) ?_;refine gc (rH out hw (by unfold aD;omega)) ?_;refine af ?_;subst hin;rw[BZ ha hb hn ho (by rw[eZ (l:=out) oz];exact hv)]
theorem Bu(a b:List Nat)(ha:Ws a)(hb:Ws b)(la:a.length<aD)(hle:val b<=val a):FP 336 [ws a,ws b] (ws (ofNat (val a-val b))):=by
 unfold aD at la;obtain⟨n,hn⟩:∃n,n=a.length:=⟨_,rfl⟩
 refine aj func336 ?_;refine gl ?_;refine gW (Wk.virt 900 1 rfl) ?_;refine jb [0,1] [] (fun(out:List Nat)(c i:Nat)=>[(5,some (.ms 900 1 0 i)),(6,some (u64 c)),(10,some (i64 n)),(11,some (i64 i))]) (fun out _ _=>[(900,some (.row 1 (out.map u32)))]) (fun out c i=>out.length=i/\i<=n/\Ws out/\c<=1/\val out+val (b.take i)=val (a.take i)+c*4294967296^i) (fun _ _ i=>n-i) ([]) 0 0 ⟨rfl,by omega,o6,by omega,by simp[val]⟩ ?_ (h1:=(.k (.k (.cons rfl (Sub.int (by rw[hn])) (.k .nil)))))
 rintro out c i ⟨ho,hi,hw,hc,hv⟩ K1 J1;refine gC (fun t12=>?_) (fun t12=>?_) (st2:=(9,0))
 ·have hin : i < n := by simpa [aa] using t12
  have h1:=bY ha i;have h2:=bY hb i;obtain⟨s,hs⟩:∃s,s=4294967296+ak a i-ak b i-c:=⟨_,rfl⟩
  have h3:=B2 h1 h2 hc hv;rw[<- hs]at h3;refine gc (by apply lg <;> assumption) ?_;refine ga ((jf (x:=4294967296) oz)) ?_;refine gc (by apply lg <;> assumption) ?_;refine ga ((kF oz oz).trans (by rw[if_pos oz])) ?_;refine ga ((kF oz oz).trans (show _=(s:Int) by rw[if_pos oz];congr 1;omega)) ?_;refine gv (dC _) ?_;refine gs (de (.tmp rfl) rfl (by rw[length_map,ho]) (.tmp rfl) T43 rfl T350 rfl rfl (by simp;omega) rfl rfl) ?_;refine gs (eV (.tmp rfl) (.const _) oz (gk _ 32 oz) rfl) ?_;refine ga ((kF (x:=1) oz oz).trans (by rw[if_pos oz])) ?_ (8,0);refine gW (Wk.of (sl:=[(0,some (ws a)),(1,some (ws b)),(5,some (.ms 28 1 0 (i+1))),(6,some (u64 (1-s/2^32:Nat))),(10,some (i64 n)),(11,some (i64 i))]) (hp:=[(28,some (.row 1 ((out++[s%4294967296]).map u32)))]) bg (.cons rfl (BlkSub.of (by rw[map_append];rfl)) .nil)) ?_ (8,0);refine gW (Wk.rk (k:=28) (d:=900) rfl rfl) ?_;refine ga (db oz) ?_;exact gQ J1 (out++[s%4294967296]) (1-s/2^32) (i+1) ⟨by simp[ho],by omega,vX hw (uc oz),by omega,by rw[Fu ho,dk,dk,Nat.pow_succ];exact h3⟩
 have hin:i=n:=by have:n<=i:=(by simpa[aa]using t12);omega
 refine gW ((Wk.freeze (k:=900) rfl).trans<|Wk.of (sl:=[(5,some (ws out))]) (hp:=[]) (.cons rfl (Sub.of (cr (by simp[ho]))) .nil) .nil) ?_;refine gc (rH out hw (by unfold aD;omega)) ?_;refine af ?_;subst hin;subst hn;rw[EG ha hw ho hle hv]
theorem LA(a b:List Nat)(ha:Ws a)(hb:Ws b)(la:a.length+b.length<=aD):FP 337 [ws a,ws b] (ws (ofNat (val a*val b))):=by
 have la':=la;unfold aD at la;refine aj func337 ?_;refine gl ?_;refine gl ?_;refine ga (jk (by unfold a7;omega) (by unfold a7;omega)) ?_;refine gs (iL (.tmp rfl) T43 rfl T350 rfl rfl oz (by dsimp only;omega) rfl) ?_;refine gl ?_;refine ic [0,1,17] [] (fun(out:List Nat)(i:Nat)=>[(5,some (.ms 15 1 0 (a.length+b.length))),(18,some (i64 i))]) (fun out _=>[(15,some (.row 1 (out.map u32)))]) (fun out i=>out.length=a.length+b.length/\i<=a.length/\Ws out/\val (out.take (i+b.length))=val (a.take i)*val b) (fun _ i=>a.length-i) (List.replicate (a.length+b.length) 0) 0 ⟨by simp,by omega,lh _,by simp[val,wE]⟩ ?_ (h2:=(.cons rfl (BlkSub.of (by rw[map_replicate];rfl)) .nil))
 rintro out i ⟨ho,hi,hw,hv⟩ K1 J1;refine gC (fun t19=>?_) (fun t19=>?_) (st2:=(14,0))
 ·have hin : i < a.length := by simpa [aa] using t19
  have h1:=bY ha i;refine gl ?_;refine jb [0,1,17,18,6,22] [] (fun(o:List Nat)(c k:Nat)=>[(5,some (.ms 15 1 0 (a.length+b.length))),(7,some (u64 c)),(23,some (i64 k))]) (fun o _ _=>[(15,some (.row 1 (o.map u32)))]) (fun o c k=>o.length=a.length+b.length/\k<=b.length/\Ws o/\c<4294967296/\val (o.take (i+b.length))+c*4294967296^(i+k)=val (out.take (i+b.length))+4294967296^i*(ak a i*val (b.take k))) (fun _ _ k=>b.length-k) out 0 0 ⟨ho,by omega,hw,by omega,by simp[val]⟩ ?_
  rintro o c k ⟨ho2,hk,hw2,hc,hv2⟩ K2 J2;refine gC (fun t24=>?_) (fun t24=>?_)
  ·have hkn : k < b.length := by simpa [aa] using t24
   have h2:=bY hb k;have h3:=bY hw2 (i+k);have h4:=wg h1 h2;obtain⟨s,hs⟩:∃s,s=c+(ak a i*ak b k+ak o (i+k)):=⟨_,rfl⟩
   have h5:=Du (x:=s%4294967296) (show i+k<o.length by omega) (show i+k<i+b.length by omega);have h6:=Ez h5 hs hv2;refine gi (gI (n:=i) oz (by first |omega |(simp;omega))) ?_;refine gv (u64_in oz) ?_;refine gi (gI (n:=k) oz (by first |omega |(simp;omega))) ?_;refine gv (u64_in oz) ?_;refine ga (u9 oz) ?_;refine ga (jk (by unfold a7;omega) (by unfold a7;omega)) ?_;refine gs (cg (n:=i+k) (.tmp rfl) (.tmp rfl) T43 rfl T350 rfl oz (by first |omega |(simp;omega)) rfl) ?_;refine gs (ek (.tmp rfl) rfl (cC (i:=i+k) oz) T350 rfl rfl rfl) ?_;refine gv (u64_in oz) ?_;refine ga (jf oz) ?_;refine ga ((jf oz).trans (show _=(s:Int) by congr 1;omega)) ?_;refine gD ?_;refine ga (jk (by unfold a7;omega) (by unfold a7;omega)) ?_;refine gv (dC _) ?_;refine gs (eV (.tmp rfl) (.const _) oz (gk _ 32 oz) rfl) ?_;refine gs (cg (n:=i+k) (.tmp rfl) (.tmp rfl) T43 rfl T350 rfl oz (by first |omega |(simp;omega)) rfl) ?_;refine gs (dA (.tmp rfl) rfl (cC (i:=i+k) oz) rfl (.tmp rfl) rfl rfl T350 rfl rfl) ?_;refine ga (db oz) ?_;exact gQ J2 (o.set (i+k) (s%4294967296)) (s/2^32) (k+1) ⟨by simp[ho2],by omega,f8 hw2 oz,by omega,by rw[show i+(k+1)=(i+k)+1 from rfl,show s/2^32=s/4294967296 from rfl,Nat.pow_succ,h6,dk];simp only[pow_add];grind⟩ (hw:=Wk.of bg (.cons rfl (BlkSub.of (by rw[map_set];rfl)) .nil))
  have hkn:k=b.length:=by have:b.length<=k:=(by simpa[aa]using t24);omega
  subst hkn;have h5:=lO (x:=c) (show i+b.length<o.length by omega);rw[take_length]at hv2;refine gl ?_;refine ga (jk (by unfold a7;omega) (by unfold a7;omega)) ?_;refine gv ((dC c).trans (by rw[Nat.mod_eq_of_lt hc])) ?_;refine gs (cg (n:=i+b.length) (.tmp rfl) (.tmp rfl) T43 rfl T350 rfl oz (by first |omega |(simp;omega)) rfl) ?_;refine gs (dA (.tmp rfl) rfl (cC (i:=i+b.length) oz) rfl (.tmp rfl) rfl rfl T350 rfl rfl) ?_;refine ga (db oz) ?_;exact hO J1 (o.set (i+b.length) c) (i+1) ⟨by simp[ho2],by omega,f8 hw2 hc,by rw[show i+1+b.length=i+b.length+1 by omega,h5,dk];simp only[pow_add]at *;grind⟩ (hw:=Wk.of bg (.cons rfl (BlkSub.of (by rw[map_set];rfl)) .nil))
 have hin:i=a.length:=by have:a.length<=i:=(by simpa[aa]using t19);omega
 subst hin;rw[take_length,eZ oz]at hv;refine gW ((Wk.freeze (k:=15) rfl).trans<|Wk.of (sl:=[(5,some (ws out))]) (hp:=[]) (.cons rfl (Sub.of (cr (by simp[ho]))) .nil) .nil) ?_;refine gc (rH out hw oz) ?_;refine af ?_;rw[hv]
theorem x7(a:Wh)(ha:a.ok):FP 221 [a.av] (i64 a.z.sign):=by
 obtain⟨e1,e2,e3⟩:=If ha;refine aj func221 ?_;refine gc (kK a ha) ?_;refine gl ?_;refine gC (fun t6=>?_) (fun t6=>?_)
 ·have h0 : a.m.length = 0 := by simpa [aa] using t6
  refine af ?_;rw[e1 h0];rfl
 have h0:a.m.length≠0:=by simpa[aa]using t6
 have hval:a.valid=true:=by
  unfold Wh.m at h0;split at h0
  ·assumption
  ·exact absurd rfl h0
 refine gc (iZ a ha) ?_;refine gC (fun t8=>?_) (fun t8=>?_)
 ·have h1 : a.neg = true := by unfold Wh.n at t8; rw [hval] at t8; simpa using t8
  refine af ?_;rw[e2 h0 h1];rfl
 have h1:a.neg=false:=by unfold Wh.n at t8;rw[hval]at t8;simpa using t8
 refine af ?_;rw[e3 h0 h1];rfl
theorem Ii(a:Wh)(ha:a.ok)(la:a.mag.length<aD):FP 292 [a.av] (zA (-a.z)):=by
 refine aj func292 ?_;refine gc (iZ a ha) ?_;refine gc (kK a ha) ?_;refine gc (j4 _ a.m (Wh.ws ha) (Nat.le_of_lt (Wh.small ha la))) ?_;refine gD ?_;refine af ?_;rw[Wh.z_eq,<- IK];rfl
theorem OA(a b:Wh)(ha:a.ok)(hb:b.ok)(la:a.mag.length+b.mag.length<=aD):FP 248 [a.av,b.av] (zA (a.z*b.z)):=by
 have h1:=Wh.m_le (w:=a);have h2:=Wh.m_le (w:=b);have h3:(ofNat (val a.m*val b.m)).length<=a.m.length+b.m.length:=fm (by rw[pow_add];exact Nat.mul_lt_mul'' (ci _ (Wh.ws ha)) (ci _ (Wh.ws hb)));refine aj func248 ?_;refine gc (iZ a ha) ?_;refine gc (iZ b hb) ?_;refine gc (kK a ha) ?_;refine gc (kK b hb) ?_;refine gc (LA a.m b.m (Wh.ws ha) (Wh.ws hb) oz) ?_;refine gc (j4 _ _ (dh _) oz) ?_;refine gD ?_;refine af ?_;rw[co,H3];rfl
theorem GP(a b:Wh)(ha:a.ok)(hb:b.ok)(la:a.mag.length<aD)(lb:b.mag.length<aD):FP 247 [a.av,b.av] (zA (a.z+b.z)):=by
 have h1:=Wh.m_le (w:=a);have h2:=Wh.m_le (w:=b);have hla:val a.m<4294967296^(max a.m.length b.m.length):=lt_of_lt_of_le (ci _ (Wh.ws ha)) (Nat.pow_le_pow_right oz oz);have hlb:val b.m<4294967296^(max a.m.length b.m.length):=lt_of_lt_of_le (ci _ (Wh.ws hb)) (Nat.pow_le_pow_right oz oz);have h3:(ofNat (val a.m+val b.m)).length<=max a.m.length b.m.length+1:=fm (by rw[Nat.pow_succ];omega);have h4:(ofNat (val a.m-val b.m)).length<=max a.m.length b.m.length:=fm oz;have h5:(ofNat (val b.m-val a.m)).length<=max a.m.length b.m.length:=fm oz;refine aj func247 ?_;refine gc (kK a ha) ?_;refine gc (kK b hb) ?_;refine gD ?_;refine gc (iZ a ha) ?_;refine gc (iZ b hb) ?_;refine gD ?_;refine gC (fun t15=>?_) (fun t15=>?_)
 ·have h0 : a.n = b.n := by simpa using t15
  refine gc (iZ a ha) ?_;refine gc (BG a.m b.m (Wh.ws ha) (Wh.ws hb) oz oz) ?_;refine gc (j4 _ _ (dh _) oz) ?_;refine af ?_;rw[co,FO h0];rfl
 have h0:a.n≠b.n:=by simpa using t15
 refine gc (y9 a.m b.m (Wh.ws ha) (Wh.ws hb)) ?_;refine gC (fun t25=>?_) (fun t25=>?_)
 ·have h6:val b.m<=val a.m:=by
   rcases lt_or_ge (val a.m) (val b.m)with h |h
   ·rw[if_pos h]at t25;cases t25
   ·exact h
  refine gc (iZ a ha) ?_;refine gc (Bu a.m b.m (Wh.ws ha) (Wh.ws hb) oz oz) ?_;refine gc (j4 _ _ (dh _) oz) ?_;refine af ?_;rw[co,yp h0 h6];rfl
 have h6:val a.m<val b.m:=by
  rcases lt_or_ge (val a.m) (val b.m)with h |h
  ·exact h
  ·rw[if_neg oz]at t25;split at t25 <;> cases t25
 refine gc (iZ b hb) ?_;refine gc (Bu b.m a.m (Wh.ws hb) (Wh.ws ha) oz oz) ?_;refine gc (j4 _ _ (dh _) oz) ?_;refine af ?_;rw[co,Dz h0 oz];rfl
theorem G5(n:Int)(h:-9223372036854775808<=n/\n<=9223372036854775807):FP 188 [i64 n] (zA n):=by
 obtain⟨N,hN⟩:∃N,N=n.natAbs:=⟨_,rfl⟩
 have hNB:N<18446744073709551616:=by omega
 refine aj func188 ?_;refine gv (show IntKind.u64.wrap n=((n%18446744073709551616:Int)) by simp only[IntKind.wrap,IntKind.signed,IntKind.bits,Bool.false_and,if_false,Bool.false_eq_true];omega) ?_;refine gC (fun t7=>?_) (fun t7=>?_) (st2:=(77777,0))
 ·have hn : n < 0 := by simpa [aa] using t7
  refine gs (zR (.tmp rfl) rfl) ?_ (4,0);refine gW (Wk.of (sl:=[(0,some (i64 n)),(2,some (.ptr 2 0)),(3,some (u64 N))]) (hp:=[(2,some (.box [.v (.bool false),nS]))]) (.k (.k (.cons rfl (Sub.int (by simp only[IntKind.wrap,IntKind.signed,IntKind.bits,Bool.false_and,if_false,Bool.false_eq_true];omega)) .nil))) (.k .nil)) ?_;refine gv (dC _) ?_;refine gs (eV (.tmp rfl) (.const _) oz (gk _ 32 oz) rfl) ?_;refine gv ((dC _).trans (by rw[Nat.mod_eq_of_lt (show N/2^32<4294967296 by omega)])) ?_;refine gc (j4 (aa .lss n 0) [N%4294967296,N/2^32] (vi hNB) (by unfold aD;simp)) ?_;refine af ?_;rw[vz hNB,show sgn (aa .lss n 0) N=n by simp only[sgn,aa,decide_eq_true_eq];split <;> omega];rfl
 have hn:¬n<0:=by simpa[aa]using t7
 refine gW (Wk.of (sl:=[(0,some (i64 n)),(2,some (.ptr 2 0)),(3,some (u64 N))]) (hp:=[(2,some (.box [.v (.bool false),nS]))]) (.k (.k (.cons rfl (Sub.int oz) .nil))) (.k .nil)) ?_;refine gv (dC _) ?_;refine gs (eV (.tmp rfl) (.const _) oz (gk _ 32 oz) rfl) ?_;refine gv ((dC _).trans (by rw[Nat.mod_eq_of_lt (show N/2^32<4294967296 by omega)])) ?_;refine gc (j4 (aa .lss n 0) [N%4294967296,N/2^32] (vi hNB) (by unfold aD;simp)) ?_;refine af ?_;rw[vz hNB,show sgn (aa .lss n 0) N=n by simp only[sgn,aa,decide_eq_true_eq];split <;> omega];rfl
theorem VR(a b:Wh)(ha:a.ok)(hb:b.ok)(la:a.mag.length<aD)(lb:b.mag.length<aD):FP 374 [a.av,b.av] (zA (a.z-b.z)):=by
 have h1:=(Wh.lz hb).neg;have h2:=HF h1;refine aj func374 ?_;refine gc (Ii b hb lb) ?_;refine gc (GP a (ofInt (-b.z)) ha (Gp h1 hb.2) la oz) ?_;refine gD ?_;refine af ?_;rw[dH,<- Int.sub_eq_add_neg];rfl
theorem Lq(a b:Wh)(ha:a.ok)(hb:b.ok)(la:a.mag.length<aD)(lb:b.mag.length<aD):FP 327 [a.av,b.av] (i64 (gy a.z b.z)):=by
 have h1:=(Wh.lz ha).sub (Wh.lz hb);have h2:=HF h1;refine aj func327 ?_;refine gc (VR a b ha hb la lb) ?_;refine gc (x7 (ofInt (a.z-b.z)) (Gp h1 (by unfold a7;unfold aD at la lb;omega))) ?_;refine af ?_;rw[dH,Tg]
theorem pX{A:List Nat}{n:Nat}:AV.lst 1 (((A.map u32).drop 0).take n)=ws (A.take n):=by
 rw[drop_zero,<- map_take];rfl
theorem HE(A:List Nat):(Blk.row 1 (A.map u32)).sc=true:=by
 simp only[Blk.sc,List.all_map];rw[all_eq_true];intro x _;rfl
theorem o8{A:List Nat}{n i:Nat}(h:i<n):ak (A.take n) i=ak A i:=by
 simp[ak,h]
theorem H6{A:List Nat}{n i:Nat}(h:n<=i):ak (A.take n) i=0:=ru (by simp;omega)
theorem O8{x:Nat}(h:0<x):a9 x=a9 (x/2)+1:=by
 rcases lt_or_ge x 2 with h1 |h1
 ·have : x = 1 := by omega
  subst this;decide
 ·have:=uw (x:=x) (k:=1) oz;rw[show x/2^1=x/2 from rfl]at this;omega
theorem Lu{a:List Nat}{n:Nat}(ha:Ws a)(na:Nz a)(hl:a.length=n+1):a9 (val a)=32*n+a9 (ak a n):=by
 have ht:ak a n≠0:=by
  refine na _ ?_;rw[List.getLast?_eq_getElem?,hl];exact jr oz
 have hv:val a=val (a.take n)+4294967296^n*ak a n:=by rw[<- dk,eZ oz]
 have hlt:=pi ha n;have hp:(4294967296:Nat)^n=2^(32*n):=by rw[Nat.pow_mul]
 rw[hp]at hv hlt
 have h1:val a/2^(32*n)=ak a n:=by
  rw[hv,Nat.add_mul_div_left _ _ (Nat.pow_pos oz),Nat.div_eq_of_lt hlt,Nat.zero_add]
 have h2:2^(32*n)<=val a:=by
  have:=mul_le_mul_left (2^(32*n)) (show 1<=ak a n by omega);omega
 rw[uw h2,h1]
theorem GX{o A:List Nat}{n v:Nat}(ho:Ws o)(hl:o.length=A.length)(hn:n<=A.length)(hd:o.drop n=A.drop n)(hv:val (o.take n)=v):o=wr A 0 (bj n v):=by
 have h1:bB o 0 n=bj n v:=wU (mW ho _ _) (oR oz) (by rw[bB,drop_zero,hv]);rw[<- h1];exact AA (by simp) (by rw[Nat.zero_add];exact hd) oz
theorem AU(k:Nat)(A:List Nat)(n i:Nat)(hA:Ws A)(hn:n<=A.length) :
  Con prog 375 [.ms k 1 0 n,i64 i] [(k,some (.row 1 (A.map u32)))] (u64 (ak (A.take n) i)) [(k,some (.row 1 (A.map u32)))]:=by
 refine Con.borrow (args:=[ws (A.take n),i64 i]) k 1 (A.map u32) rfl rfl rfl ?_ rfl (fun k' x h=>by cases h) (lg (A.take n) i (fX hA n));intro j x' hj
 match j,hj with
 |0,hj=>cases hj;exact .inr ⟨0,n,rfl,by simpa using hn,by rw[pX];rfl⟩
 |1,hj=>cases hj;exact .inl rfl
theorem O9(k1 k2:Nat)(hk:k1≠k2)(A D:List Nat)(n p:Nat)(hA:Ws A)(hD:Ws D)(hn:n<=A.length)(hp:p<=D.length) :
  Con prog 335 [.ms k1 1 0 n,.ms k2 1 0 p] [(k1,some (.row 1 (A.map u32))),(k2,some (.row 1 (D.map u32)))]
   (i64 (if val (A.take n)<val (D.take p)then -1 else if val (D.take p)<val (A.take n)then 1 else 0)) [(k1,some (.row 1 (A.map u32))),(k2,some (.row 1 (D.map u32)))]:=by
 have h1:Con prog 335 [ws (A.take n),.ms k2 1 0 p] [(k2,some (.row 1 (D.map u32)))]
   (i64 (if val (A.take n)<val (D.take p)then -1 else if val (D.take p)<val (A.take n)then 1 else 0)) [(k2,some (.row 1 (D.map u32)))]:=by
  refine Con.borrow (args:=[ws (A.take n),ws (D.take p)]) k2 1 (D.map u32) rfl rfl rfl ?_ rfl (fun k' x h=>by cases h) (y9 (A.take n) (D.take p) (fX hA n) (fX hD p));intro j x' hj
  match j,hj with
  |0,hj=>cases hj;exact .inl rfl
  |1,hj=>cases hj;exact .inr ⟨0,p,rfl,by simpa using hp,by rw[pX];rfl⟩
 refine Con.borrow (args:=[ws (A.take n),.ms k2 1 0 p]) k1 1 (A.map u32) ?_ ?_ rfl ?_ rfl ?_ h1
 ·rw[aU,if_neg hk];rfl
 ·rw[aU,if_neg hk];rfl
 ·intro j x' hj
  match j,hj with
  |0,hj=>cases hj;exact .inr ⟨0,n,rfl,by simpa using hn,by rw[pX];rfl⟩
  |1,hj=>cases hj;exact .inl rfl
 ·intro k' x h;obtain⟨_,h⟩:=fA h;cases h;exact HE D
theorem R9(k:Nat)(A b:List Nat)(n:Nat)(hA:Ws A)(hb:Ws b)(hn:n<=A.length) :
  Con prog 335 [.ms k 1 0 n,ws b] [(k,some (.row 1 (A.map u32)))]
   (i64 (if val (A.take n)<val b then -1 else if val b<val (A.take n)then 1 else 0)) [(k,some (.row 1 (A.map u32)))]:=by
 refine Con.borrow (args:=[ws (A.take n),ws b]) k 1 (A.map u32) rfl rfl rfl ?_ rfl (fun k' x h=>by cases h) (y9 (A.take n) b (fX hA n) hb);intro j x' hj
 match j,hj with
 |0,hj=>cases hj;exact .inr ⟨0,n,rfl,by simpa using hn,by rw[pX];rfl⟩
 |1,hj=>cases hj;exact .inl rfl
theorem MB(a:List Nat)(ha:Ws a)(na:Nz a)(la:a.length<=aD):FP 389 [ws a] (i64 (a9 (val a))):=by
 unfold aD at la;refine aj func389 ?_;refine gl ?_;refine gC (fun t7=>?_) (fun t7=>?_)
 ·have h0 : a=[] := List.length_eq_zero_iff.1 (by simpa[aa]using t7);refine af ?_;subst h0;rfl
 have h0:a.length≠0:=by simpa[aa]using t7
 obtain⟨n,hn⟩:∃n,a.length=n+1:=⟨a.length-1,by omega⟩
 have hB:=Lu ha na hn;have ht:=bY ha n;refine gl ?_;refine ga (show _=(n:Int) by rw[dL oz];omega) ?_;refine ga (show _=((32*n:Nat):Int) by rw[Bo oz];omega) ?_;refine gl ?_;refine ga (show _=(n:Int) by rw[dL oz];omega) ?_;refine gi (gI (n:=n) oz (by first |omega |(simp;omega))) ?_;refine ic [] [] (fun(x c:Nat)=>[(3,some (i64 c)),(4,some (u32 x))]) (fun _ _=>[]) (fun x c=>x<4294967296/\c<=281474976710656/\c+a9 x=a9 (val a)) (fun x _=>x) (ak a n) (32*n) ⟨ht,by omega,hB.symm⟩ ?_;rintro x c ⟨hx,hc,hv⟩ K1 J1;refine gC (fun t19=>?_) (fun t19=>?_)
 ·have hx0 : 0 < x := by simpa [aa] using t19
  have h2:=O8 hx0
  have h3:a9 (val a)<=32*n+32:=by
   have:=(BK (x:=ak a n)  (by
    refine na _ ?_;rw[List.getLast?_eq_getElem?,hn];exact jr oz) ht).1
   omega
  refine ga (show _=((c+1:Nat):Int) by rw[db oz];omega) ?_;refine gs (eV (.tmp rfl) (.const _) oz (rU x 1 oz) rfl) ?_;exact hO J1 (x/2^1) (c+1) ⟨by omega,by omega,by rw[show x/2^1=x/2 from rfl];omega⟩
 have hx0:x=0:=by have:x<=0:=(by simpa[aa]using t19);omega
 subst hx0;refine af ?_;rw[<- hv];rfl
theorem yQ(A:List Nat)(n:Nat)(hA:Ws A)(hn:n<=A.length)(la:A.length<=aD) :
  Con prog 388 [.ms 1000 1 0 n] [(1000,some (.row 1 (A.map u32)))] (.ms 1000 1 0 (ofNat (val (A.take n))).length) [(1000,some (.row 1 (A.map u32)))]:=by
 unfold aD at la;refine gF func388 (fun k z h=>bH h) ?_;refine aZ [] [1000] (fun(j:Nat)=>[(0,some (.ms 1000 1 0 j))]) (fun _=>[]) (fun j=>j<=n/\val (A.take j)=val (A.take n)) (fun j=>j) n ⟨le_refl _,rfl⟩ ?_;rintro j ⟨hj,hv⟩ K1 J1;refine od (fun h=>(jw (by simp[aa]at h;omega) (by unfold a7;omega))) ?_;refine gs (eJ rfl rfl rfl (fun h=>cg (n:=j-1) (.opt rfl (o1 h)) (.opt rfl (o1 h)) T43 rfl T350 rfl oz (by simp[aa]at h;omega) rfl)) ?_;refine gs (eJ rfl rfl rfl (fun h=>ek (.opt rfl (o1 h)) rfl (cC (i:=j-1) (by simp[aa]at h;omega)) T350 rfl rfl rfl)) ?_;refine gC (fun t14=>?_) (fun t14=>?_)
 ·have t14 : 0 < j /\ ak A (j - 1) = 0 := by simpa [aa] using t14
  refine ga (jw oz (by unfold a7;omega)) ?_;refine gs (wI (.tmp rfl) (.none _) (.some _ (.tmp rfl) oz) T43 rfl T350 rfl oz oz rfl) ?_;exact aT J1 (j-1) ⟨by omega,by have h:=@dk A (j-1);rw[show j-1+1=j by omega,t14.2]at h;simp at h;omega⟩ (hw:=Wk.of (.cons rfl (Sub.of (by congr 1)) .nil) (.k .nil))
 have t14:0<j->ak A (j-1)≠0:=by simpa[aa]using t14
 have hn1 := C2 (m := A.take n) (n := j) (fX hA n) (by simp; omega) (by rw [List.take_take, Nat.min_eq_left hj]; exact hv) (by
  rcases Nat.eq_zero_or_pos j with h |h
  ·exact .inl h
  ·exact .inr (by rw[o8 oz];exact t14 h))
 subst hn1;refine gR ?_;exact aJ.own2 rfl rfl rfl
theorem xq(A:List Nat)(n:Nat)(hA:Ws A)(hn:n<=A.length)(la:A.length<=aD) :
  Con prog 386 [.ms 1000 1 0 n] [(1000,some (.row 1 (A.map u32)))] (.ms 1000 1 0 (ofNat (val (A.take n)/2)).length) [(1000,some (.row 1 ((wr A 0 (bj n (val (A.take n)/2))).map u32)))]:=by
 have la':=la;unfold aD at la;refine gF func386 (fun k z h=>bH h) ?_;refine ic [5] [] (fun(o:List Nat)(i:Nat)=>[(0,some (.ms 1000 1 0 n)),(6,some (i64 i))]) (fun o _=>[(1000,some (.row 1 (o.map u32)))]) (fun o i=>o.length=A.length/\i<=n/\Ws o/\o.drop i=A.drop i/\val (o.take i)=val (A.take n)/2^1%4294967296^i) (fun _ i=>n-i) A 0 ⟨rfl,by omega,hA,rfl,by simp[val,Nat.mod_one]⟩ ?_;rintro o i ⟨ho,hi,hw,hd,hv⟩ K1 J1;refine gC (fun t7=>?_) (fun t7=>?_)
 ·have hin : i < n := by simpa [aa] using t7
  have e1:ak (o.take n) i=ak (A.take n) i:=by rw[o8 hin,o8 hin];exact qW hd
  have hd2:o.drop (i+1)=A.drop (i+1):=by
   have h1:(o.drop i).drop 1=(A.drop i).drop 1:=by rw[hd]
   rwa [drop_drop,drop_drop]at h1
  have e2:ak (o.take n) (i+1)=ak (A.take n) (i+1):=by
   rcases lt_or_ge (i+1) n with h |h
   ·rw[o8 h,o8 h];exact qW hd2
   ·rw[H6 h,H6 h]
  have b1:=bY (fX hA n) i;have b2:=bY (fX hA n) (i+1);have h3:=Fg (n:=1) (fX hA n) (show i<(A.take n).length by simp;omega) (show i<o.length by omega) oz hv;refine gt (aI (AU 1000 o n i hw oz) (bO rfl rfl) aL rfl rfl) ?_;refine gs (eV (.tmp rfl) (.const _) oz ((gk _ 1 oz).trans (by rw[e1])) rfl) ?_;refine ga (jk (y:=1) (by unfold a7;omega) (by unfold a7;omega)) ?_;refine gt (aI (AU 1000 o n (i+1) hw oz) (bO rfl rfl) aL rfl rfl) ?_;refine gs (gH (.tmp rfl) (.const _) oz ((rE (n:=31) oz oz).trans (by rw[e2])) rfl) ?_;refine gs (jF (.tmp rfl) (.tmp rfl) rfl ((tE oz oz).trans (by rw[yO oz])) rfl) ?_;refine gv ((dC _).trans (show _=(((ak (A.take n) i+ak (A.take n) (i+1)*2^32)/2^1%4294967296:Nat):Int) by congr 1;omega)) ?_;refine gs (cg (n:=i) (.tmp rfl) (.tmp rfl) T43 rfl T350 rfl oz (by first |omega |(simp;omega)) rfl) ?_;refine gs (dA (.tmp rfl) rfl (cC (i:=i) oz) rfl (.tmp rfl) rfl rfl T350 rfl rfl) ?_;refine ga (db oz) ?_;exact hO J1 (o.set i ((ak (A.take n) i+ak (A.take n) (i+1)*2^32)/2^1%4294967296)) (i+1) ⟨by simp[ho],by omega,f8 hw oz,s9 hd,h3⟩ (hw:=Wk.of bg (.cons rfl (BlkSub.of (by rw[map_set];rfl)) .nil))
 have hin:i=n:=by have:n<=i:=(by simpa[aa]using t7);omega
 subst hin;have hlt:=pi hA i;have hv':val (o.take i)=val (A.take i)/2:=by rw[hv,Nat.mod_eq_of_lt oz]
 have h9:=GX hw ho hn hd hv';refine gt (aI (yQ o i hw oz oz) (cJ rfl) aL rfl rfl) ?_;refine gR ?_;exact aJ.own2 rfl (by rw[<- h9]) (by rw[hv'];rfl)
theorem Df(A b:List Nat)(n:Nat)(hA:Ws A)(hb:Ws b)(hn:n<=A.length)(la:A.length<=aD)(hle:val b<=val (A.take n)) :
  Con prog 387 [.ms 1000 1 0 n,ws b] [(1000,some (.row 1 (A.map u32)))] (.tup []) [(1000,some (.row 1 ((wr A 0 (bj n (val (A.take n)-val b))).map u32)))]:=by
 unfold aD at la;refine gF func387 (fun k z h=>bH h) ?_;refine jb [1,8] [] (fun(o:List Nat)(c i:Nat)=>[(0,some (.ms 1000 1 0 n)),(4,some (u64 c)),(9,some (i64 i))]) (fun o _ _=>[(1000,some (.row 1 (o.map u32)))]) (fun o c i=>o.length=A.length/\i<=n/\Ws o/\c<=1/\o.drop i=A.drop i/\val (o.take i)+val (b.take i)=val (A.take i)+c*4294967296^i) (fun _ _ i=>n-i) A 0 0 ⟨rfl,by omega,hA,by omega,rfl,by simp[val]⟩ ?_;rintro o c i ⟨ho,hi,hw,hc,hd,hv⟩ K1 J1;refine gC (fun t10=>?_) (fun t10=>?_)
 ·have hin : i < n := by simpa [aa] using t10
  have e1:ak (o.take n) i=ak A i:=by rw[o8 hin];exact qW hd
  have h1:=bY hA i;have h2:=bY hb i;obtain⟨s,hs⟩:∃s,s=4294967296+ak A i-ak b i-c:=⟨_,rfl⟩
  have h3:=B2 h1 h2 hc hv;rw[<- hs]at h3;refine gt (aI (AU 1000 o n i hw oz) (bO rfl rfl) aL rfl rfl) ?_;refine ga ((jf (x:=4294967296) oz).trans (by rw[e1])) ?_;refine gc (lg b i hb) ?_;refine ga ((kF oz oz).trans (by rw[if_pos oz])) ?_;refine ga ((kF oz oz).trans (show _=(s:Int) by rw[if_pos oz];congr 1;omega)) ?_;refine gv (dC _) ?_;refine gs (eV (.tmp rfl) (.const _) oz (gk _ 32 oz) rfl) ?_;refine ga ((kF (x:=1) oz oz).trans (by rw[if_pos oz])) ?_;refine gs (cg (n:=i) (.tmp rfl) (.tmp rfl) T43 rfl T350 rfl oz (by first |omega |(simp;omega)) rfl) ?_;refine gs (dA (.tmp rfl) rfl (cC (i:=i) oz) rfl (.tmp rfl) rfl rfl T350 rfl rfl) ?_;refine ga (db oz) ?_;exact gQ J1 (o.set i (s%4294967296)) (1-s/2^32) (i+1) ⟨by simp[ho],by omega,f8 hw oz,by omega,s9 hd,by rw[lO oz,dk,dk,Nat.pow_succ];exact h3⟩ (hw:=Wk.of bg (.cons rfl (BlkSub.of (by rw[map_set];rfl)) .nil))
 have hin:i=n:=by have:n<=i:=(by simpa[aa]using t10);omega
 subst hin;have hl:(A.take i).length=i:=by simp;omega
 have h4:=EG (a:=A.take i) (b:=b) (out:=o.take i) (fX hA i) (fX hw i) (by simp;omega) hle (by rw[hl,take_of_length_le (show(A.take i).length<=i by omega)];exact hv);have h9:=GX hw ho hn hd h4;refine gR ?_;exact aJ.own2 rfl (by rw[<- h9]) rfl
theorem Hq{x:Nat}(h:x<=9223372036854775807):IntKind.i64.wrap ((x:Int).tdiv 32)=((x/32:Nat):Int):=by
 rw[show(32:Int)=((32:Nat):Int)from rfl,<- Int.ofNat_tdiv];exact i64_in oz
theorem I0{x:Nat}:(x:Int).tmod 32=((x%32:Nat):Int):=(Int.ofNat_tmod _ _).symm
theorem sR(i:Nat):(4294967296:Nat)^i=2^(32*i):=by rw[Nat.pow_mul]
theorem Q5{a:List Nat}(ha:Ws a){k:Nat}(hk:k/32<a.length):ak a (k/32)/2^(k%32)%2=val a/2^k%2:=by
 have h1:val a/2^k=(val a/4294967296^(k/32))/2^(k%32):=by
  rw[sR,Nat.div_div_eq_div_mul,<- pow_add];congr 2;omega
 rw[h1,vS ha _ oz,sD];generalize val (a.drop (k/32+1))=R
 have h2:4294967296*R=2^(k%32)*(2*(2^(31-k%32)*R)):=by
  have:(4294967296:Nat)=2^(k%32)*(2*2^(31-k%32)):=by
   rw[<- Nat.pow_succ',<- pow_add,show k%32+(31-k%32).succ=32 by omega]
  conv=>lhs;rw[this]
  grind
 rw[h2,Nat.add_mul_div_left _ _ (Nat.pow_pos oz),Nat.add_mul_mod_self_left]
theorem Nc{w c:Nat}(hc:c<=1):w*2^1%4294967296 ||| c=w*2^1%4294967296+c:=by
 have h:w*2^1%4294967296=(w%2147483648)*2^1:=by omega
 rw[h];exact sL oz
theorem NH{o c P rt w bit:Nat}(hw:w<4294967296)(h:o+c*P=2*rt+bit) :
  (o+P*(w*2^1%4294967296+c))+(w/2^31)*(P*4294967296)=2*(rt+P*w)+bit:=by
 have h0:w*2^1%4294967296+(w/2^31)*4294967296=2*w:=by omega
 generalize w*2^1%4294967296=r at *;generalize w/2^31=q at *;grind
theorem Tk{q:List Nat}(hq:Ws q){k Y:Nat}(hk:k/32<q.length)(h:val q=2^(k+1)*Y) :
  ak q (k/32) ||| 2^(k%32)=ak q (k/32)+2^(k%32)/\ak q (k/32)+2^(k%32)<4294967296:=by
 have h1:=vS hq (k/32) oz;rw[sD,h,sR,show k+1=32*(k/32)+(k%32+1) by omega,pow_add,Nat.mul_assoc,Nat.mul_div_cancel_left _ (Nat.pow_pos oz)]at h1;have hw:=bY hq (k/32);generalize ak q (k/32)=w at *;generalize val (q.drop (k/32+1))=R at *
 have hB:(4294967296:Nat)=2^(k%32+1)*2^(31-k%32):=by
  rw[<- pow_add,show k%32+1+(31-k%32)=32 by omega]
 have h2:w%2^(k%32+1)=0:=by
  have h3:(w+4294967296*R)%2^(k%32+1)=0:=by rw[<- h1];exact Nat.mul_mod_right _ _
  rw[hB,Nat.mul_assoc,Nat.add_mul_mod_self_left]at h3;exact h3
 have h4:w=2^(k%32+1)*(w/2^(k%32+1)):=by
  have:=Nat.div_add_mod w (2^(k%32+1));omega
 have h5:2^(k%32)<2^(k%32+1):=by rw[Nat.pow_succ];have:=Nat.pow_pos (n:=k%32) (show 0<2 by omega);omega
 constructor
 ·rw[h4];exact(Nat.two_pow_add_eq_or_of_lt h5 _).symm
 ·have h6:w/2^(k%32+1)<2^(31-k%32):=by
   rw[Nat.div_lt_iff_lt_mul (Nat.pow_pos oz),Nat.mul_comm,<- hB];exact hw
  have h7:=mul_le_mul_left (2^(k%32+1)) (show w/2^(k%32+1)+1<=2^(31-k%32)from h6);rw[<- hB,Nat.mul_add,<- h4]at h7;omega
theorem PY{q:List Nat}(hq:Ws q){k Y:Nat}(hk:k/32<q.length)(h:val q=2^(k+1)*Y) :
  val (q.set (k/32) (ak q (k/32)+2^(k%32)))=2^k*(2*Y+1):=by
 have h1:=zT (x:=ak q (k/32)+2^(k%32)) hk;rw[Nat.mul_add]at h1;have h2:4294967296^(k/32)*2^(k%32)=2^k:=by rw[sR,<- pow_add];congr 1;omega
 rw[h2,h,Nat.pow_succ]at h1;grind
theorem Jk{V Bv k:Nat}(hB:0<Bv) :
  (Bv<=2*(V/2^(k+1)%Bv)+V/2^k%2->V/2^k%Bv=2*(V/2^(k+1)%Bv)+V/2^k%2-Bv/\V/2^k/Bv=2*(V/2^(k+1)/Bv)+1) /\
  (2*(V/2^(k+1)%Bv)+V/2^k%2<Bv->V/2^k%Bv=2*(V/2^(k+1)%Bv)+V/2^k%2/\V/2^k/Bv=2*(V/2^(k+1)/Bv)):=by
 have h1:V/2^(k+1)=V/2^k/2:=by rw[Nat.pow_succ,Nat.div_div_eq_div_mul]
 rw[h1];generalize V/2^k=X;have h2:=Nat.div_add_mod X 2;have h3:=Nat.div_add_mod (X/2) Bv;have h4:=Nat.mod_lt (X/2) hB;have h5:=Nat.mod_lt X (show 0<2 by omega);generalize X/2%Bv=r at *;generalize X/2/Bv=q at *;generalize X%2=b at *;generalize X/2=Y at *;constructor
 ·intro h;have:=wL (a:=X) (w:=Bv) (q:=2*q+1) (r:=2*r+b-Bv) (by rw[Nat.mul_add,Nat.mul_one,show Bv*(2*q)=2*(Bv*q) by grind];omega) oz;exact⟨this.2,this.1⟩
 ·intro h;have:=wL (a:=X) (w:=Bv) (q:=2*q) (r:=2*r+b) (by rw[show Bv*(2*q)=2*(Bv*q) by grind];omega) oz;exact⟨this.2,this.1⟩
theorem Mf{A l:List Nat}(h:l.length=A.length):wr A 0 l=l:=by
 unfold wr;rw[drop_eq_nil_of_le oz];simp
theorem Hc{V:Nat}:V/2^a9 V=0:=Nat.div_eq_of_lt vC
theorem B4{a:List Nat}(ha:Ws a){k:Nat}(h:k<a9 (val a)):k/32<a.length:=by
 rcases lt_or_ge (k/32) a.length with h1 |h1
 ·exact h1
 ·exfalso;have h2:=ci a ha;rw [sR] at h2;have h3:val a ≠ 0:=by intro h0; rw [h0] at h; simp [a9] at h
  have h4:=xi h3;have h5:2^(32*a.length)<=2^(a9 (val a)-1):=ot oz;omega
theorem QY(a b:List Nat)(ha:Ws a)(hb:Ws b)(na:Nz a)(hb0:val b≠0)(la:a.length<aD)(lb:b.length<aD) :
  FP 361 [ws a,ws b] (.tup [ws (ofNat (val a/val b)),ws (ofNat (val a%val b))]):=by
 have la':=la;have lb':=lb;unfold aD at la lb;obtain⟨V,hV⟩:∃V,V=val a:=⟨_,rfl⟩
 obtain⟨Bv,hBv⟩:∃Bv,Bv=val b:=⟨_,rfl⟩
 have hBp:0<Bv:=by omega
 have hBl:2*Bv<=4294967296^(b.length+1):=by have:=ci b hb;rw[Nat.pow_succ];omega
 have hbl:a9 V<=32*a.length:=by
  rcases Nat.eq_zero_or_pos (a9 V)with h |h
  ·omega
  ·have := B4 ha (k := a9 V-1) (by rw[<- hV];omega);omega
 rw[<- hV,<- hBv];refine aj func361 ?_;refine gl ?_;refine gs (iL (.tmp rfl) T43 rfl T350 rfl rfl oz (by dsimp only;omega) rfl) ?_;refine gl ?_;refine ga (jk (y:=1) (by unfold a7;omega) (by unfold a7;omega)) ?_;refine gs (iL (.tmp rfl) T43 rfl T350 rfl rfl oz (by dsimp only;omega) rfl) ?_;refine gc (hV▸MB a ha na oz) ?_;refine ga (dL oz) ?_;refine jb [0,1] [] (fun(q r:List Nat)(i:Nat)=>[(6,some (.ms 13 1 0 a.length)),(7,some (.ms 17 1 0 (b.length+1))),(8,some (i64 ((i:Int)-1)))]) (fun q r _=>[(13,some (.row 1 (q.map u32))),(17,some (.row 1 (r.map u32)))]) (fun q r i=>q.length=a.length/\r.length=b.length+1/\Ws q/\Ws r/\i<=a9 V/\val r=V/2^i%Bv/\val q=2^i*(V/2^i/Bv)) (fun _ _ i=>i) (List.replicate a.length 0) (List.replicate (b.length+1) 0) (a9 V) ⟨by simp,by simp,lh _,lh _,le_refl _,by rw[wE,Hc,Nat.zero_mod],by rw[wE,Hc,Nat.zero_div,Nat.mul_zero]⟩ ?_ (h2:=(.cons rfl (BlkSub.of (by rw[map_replicate];rfl)) (.cons rfl (BlkSub.of (by rw[map_replicate];rfl)) .nil)))
 rintro q r i ⟨hql,hrl,wq,wr',hi,hr,hq⟩ K1 J1;refine gC (fun t22=>?_) (fun t22=>?_) (st2:=(15,0))
 ·have hi0 : 1 <= i := by have := t22; simp [aa] at this; omega
  obtain⟨k,rfl⟩:∃k,i=k+1:=⟨i-1,by omega⟩
  rw[show((k+1:Nat):Int)-1=(k:Int) by omega];have hka:=B4 ha (k:=k) (by rw[<- hV];omega);have hbit:=Q5 ha hka;have hwB:=bY ha (k/32);rw[<- hV]at hbit;obtain⟨bit,hbt⟩:∃bit,bit=V/2^k%2:=⟨_,rfl⟩
  have hb1:bit<=1:=by omega
  have hrlt:=Nat.mod_lt (V/2^(k+1)) hBp;have hdw:ak a (k/32)/2^(k%32)<=ak a (k/32):=Nat.div_le_self _ _;refine gs (eQ (.tmp rfl) (.const _) oz (Hq oz) rfl) ?_;refine gi (gI (n:=k/32) oz (by first |omega |(simp;omega))) ?_;refine gs (tV (.tmp rfl) (.const _) oz I0 rfl) ?_;refine gs (eV (.tmp rfl) (.tmp rfl) oz (rU _ (k%32) oz) rfl) ?_;refine gs (jF (.tmp rfl) (.const _) rfl ((Ec (y:=1) oz oz).trans (show _=(bit:Int) by rw[Nat.and_one_is_mod,hbit,hbt])) rfl) ?_;refine jb [0,1,8,35] [13] (fun(o:List Nat)(c j:Nat)=>[(6,some (.ms 13 1 0 a.length)),(7,some (.ms 17 1 0 (b.length+1))),(9,some (u32 c)),(36,some (i64 j))]) (fun o _ _=>[(17,some (.row 1 (o.map u32)))]) (fun o c j=>o.length=b.length+1/\Ws o/\j<=b.length+1/\c<=1/\o.drop j=r.drop j/\val (o.take j)+c*4294967296^j=2*val (r.take j)+bit) (fun _ _ j=>b.length+1-j) r bit 0 ⟨hrl,wr',by omega,hb1,rfl,by simp[val]⟩ ?_
  rintro o c j ⟨hol,wo,hj,hc,hd,hv⟩ K2 J2;refine gC (fun t37=>?_) (fun t37=>?_)
  ·have hjn : j < b.length + 1 := by have := t37; simp [aa] at this; omega
   have e1:ak o j=ak r j:=qW hd;have h1:=bY wr' j;have h3:=NH (w:=ak r j) h1 hv;refine gs (cg (n:=j) (.tmp rfl) (.tmp rfl) T43 rfl T350 rfl oz (by first |omega |(simp;omega)) rfl) ?_;refine gs (ek (.tmp rfl) rfl (by rw[cC (show j<o.length by omega),e1]) T350 rfl rfl rfl) ?_;refine gs (gH (.tmp rfl) (.const _) oz (EE (n:=1) oz) rfl) ?_;refine gs (jF (.tmp rfl) (.tmp rfl) rfl ((xE oz oz).trans (by rw[Nc hc])) rfl) ?_;refine gs (cg (n:=j) (.tmp rfl) (.tmp rfl) T43 rfl T350 rfl oz (by first |omega |(simp;omega)) rfl) ?_;refine gs (ek (.tmp rfl) rfl (by rw[cC (show j<o.length by omega),e1]) T350 rfl rfl rfl) ?_;refine gs (eV (.tmp rfl) (.const _) oz (rU _ 31 oz) rfl) ?_;refine gs (cg (n:=j) (.tmp rfl) (.tmp rfl) T43 rfl T350 rfl oz (by first |omega |(simp;omega)) rfl) ?_;refine gs (dA (.tmp rfl) rfl (cC (i:=j) oz) rfl (.tmp rfl) rfl rfl T350 rfl rfl) ?_;refine gD ?_;refine ga (db oz) ?_;exact gQ J2 (o.set j (ak r j*2^1%4294967296+c)) (ak r j/2^31) (j+1) ⟨by simp[hol],f8 wo oz,by omega,by omega,s9 hd,by rw[lO oz,dk];rw[show 4294967296^(j+1)=4294967296^j*4294967296 from Nat.pow_succ _ _];exact h3⟩ (hw:=Wk.of bg (.cons rfl (BlkSub.of (by rw[map_set];rfl)) (.k .nil)))
  have hjn:j=b.length+1:=by have:b.length+1<=j:=(by have:=t37;simp[aa]at this;omega);omega
  subst hjn;rw[eZ (l:=r) oz,eZ (l:=o) oz,hr]at hv
  have hc0:c=0:=by
   cases c with
   |zero=>rfl
   |succ c=>rw[Nat.succ_mul]at hv;omega
  subst hc0;rw[Nat.zero_mul,Nat.add_zero]at hv;have hot:o.take (b.length+1)=o:=take_of_length_le oz;obtain⟨d1,d2⟩:=Jk (V:=V) (k:=k) hBp;rw[<- hbt]at d1 d2;have hcmp:=R9 17 o b (b.length+1) wo hb oz;rw[hot,<- hBv,hv]at hcmp;have hqk:k/32<q.length:=by omega
  obtain⟨w1,w2⟩:=Tk wq hqk hq;have w3:=PY wq hqk hq;refine gt (aI hcmp (bO rfl rfl) aL rfl rfl) ?_;refine gC (fun t58=>?_) (fun t58=>?_)
  ·have hge:Bv<=2*(V/2^(k+1)%Bv)+bit:=by
    rcases lt_or_ge (2*(V/2^(k+1)%Bv)+bit) Bv with h |h
    ·rw[if_pos h]at t58;cases t58
    ·exact h
   obtain⟨d3,d4⟩:=d1 hge;have htk:=Df o b (b.length+1) wo hb oz (by unfold aD;omega) (by rw[hot,<- hBv,hv];exact hge);rw[hot,<- hBv,hv,<- d3,Mf (by rw[fg,hol])]at htk;have hx2:V/2^k%Bv<4294967296^(b.length+1):=by have:=Nat.mod_lt (V/2^k) hBp;omega
   refine gt (aI (Con.rk 17 rfl rfl htk) (bO rfl rfl) aL rfl rfl) ?_;refine gs (eQ (.tmp rfl) (.const _) oz (Hq oz) rfl) ?_;refine gs (cg (n:=k/32) (.tmp rfl) (.tmp rfl) T43 rfl T350 rfl oz oz rfl) ?_;refine gs (ek (.tmp rfl) rfl (cC (i:=k/32) hqk) T350 rfl rfl rfl) ?_;refine gs (tV (.tmp rfl) (.const _) oz I0 rfl) ?_;refine gs (gH (.const _) (.tmp rfl) oz ((EE (x:=1) (n:=k%32) oz).trans (show _=((2^(k%32):Nat):Int) by rw[Nat.one_mul,Nat.mod_eq_of_lt (lt_of_le_of_lt (Nat.le_add_left _ _) w2)])) rfl) ?_;refine gs (jF (.tmp rfl) (.tmp rfl) rfl ((xE (bY wq _) (lt_of_le_of_lt (Nat.le_add_left _ _) w2)).trans (by rw[w1])) rfl) ?_;refine gs (cg (n:=k/32) (.tmp rfl) (.tmp rfl) T43 rfl T350 rfl oz oz rfl) ?_;refine gs (dA (.tmp rfl) rfl (cC (i:=k/32) hqk) rfl (.tmp rfl) rfl rfl T350 rfl rfl) ?_;refine gD ?_;refine ga (dL oz) ?_;exact gQ J1 (q.set (k/32) (ak q (k/32)+2^(k%32))) (bj (b.length+1) (V/2^k%Bv)) k ⟨by simp[hql],fg _ _,f8 wq w2,kg _ _,by omega,lB _ _ hx2,by rw[w3,d4]⟩ (hw:=Wk.of bg (.cons rfl (BlkSub.of (by first |rfl |(rw[map_set];rfl))) (.k .nil)))
  have hge:2*(V/2^(k+1)%Bv)+bit<Bv:=by
   rcases lt_or_ge (2*(V/2^(k+1)%Bv)+bit) Bv with h |h
   ·exact h
   ·rw[if_neg oz]at t58;split at t58 <;> cases t58
  obtain⟨d3,d4⟩:=d2 hge;refine ga (dL oz) ?_;exact gQ J1 q o k ⟨hql,hol,wq,wo,by omega,by rw[hv,d3],by rw[hq,d4,Nat.pow_succ,Nat.mul_assoc]⟩ (hw:=Wk.of bg (.cons rfl (BlkSub.of (by first |rfl |(rw[map_set];rfl))) (.k .nil)))
 have hi0:i=0:=by have:=t22;simp[aa]at this;omega
 subst hi0;refine gW ((Wk.freeze (k:=13) rfl).trans<|(Wk.freeze (k:=17) rfl).trans<|Wk.of (sl:=[(6,some (ws q)),(7,some (ws r))]) (hp:=[]) (.cons rfl (Sub.of (by rw[show AV.fz 13 1 (q.map u32) (.ms 13 1 0 a.length)=ws q from cr (by simp[hql])];rfl)) (.cons rfl (Sub.of (cr (by simp[hrl]))) .nil)) .nil) ?_;refine gc (rH q wq oz) ?_;refine gc (rH r wr' (by unfold aD;omega)) ?_;refine bE ?_;rw[hr,hq];simp[]
def ip(L:Nat)(A:List Nat)(n:Nat):Prop:=Ws A/\n<=A.length/\A.length<=L/\n=(ofNat (val (A.take n))).length
theorem P4(v:Nat):ofNat v=bj (ofNat v).length v:=by
 have h:=sG (ofNat v) (dh _)
 rwa [co]at h
theorem jD{L:Nat}{A:List Nat}{n v:Nat}(h:ip L A n)(hv:v<=val (A.take n)) :
  ip L (wr A 0 (bj n v)) (ofNat v).length/\val ((wr A 0 (bj n v)).take (ofNat v).length)=v/\val ((wr A 0 (bj n v)).take n)=v:=by
 obtain⟨hw,hn,hl,hN⟩:=h;have hlt:=pi hw n;have hvl:v<4294967296^n:=by omega
 have hle:(ofNat v).length<=n:=fm hvl
 have ht:(wr A 0 (bj n v)).take n=bj n v:=by
  unfold wr;rw[List.take_zero,nil_append,List.take_append_of_le_length (by rw[fg];omega),take_of_length_le (by rw[fg];omega)]
 have ht2:(wr A 0 (bj n v)).take (ofNat v).length=ofNat v:=by
  have h1:((wr A 0 (bj n v)).take n).take (ofNat v).length=(wr A 0 (bj n v)).take (ofNat v).length:=by rw[List.take_take,Nat.min_eq_left hle]
  rw[<- h1,ht,zU _ _ _ hle,<- P4]
 have hlen:(wr A 0 (bj n v)).length=A.length:=mz (by rw[fg];omega);refine⟨⟨qK hw (kg _ _),by omega,by omega,by rw[ht2,co]⟩,by rw[ht2,co],by rw[ht,lB _ _ hvl]⟩
theorem gO{L:Nat}{A:List Nat}{n:Nat}(h:ip L A n)(hx:0<val (A.take n)):0<n/\val (A.take n)%2=ak A 0%2:=by
 have hn:0<n:=by
  rcases Nat.eq_zero_or_pos n with h0 |h0
  ·subst h0;simp[val]at hx
  ·exact h0
 refine⟨hn,?_⟩;have:=sD (A.take n) 0;rw[drop_zero,o8 hn]at this;omega
theorem TW{L:Nat}{A:List Nat}{n:Nat}(h:ip L A n):A.take n=ofNat (val (A.take n)):=by
 obtain⟨hw,hn,hl,hN⟩:=h;have h1:=DI (fX hw n);rw[<- hN,List.take_take,Nat.min_self]at h1;exact h1
theorem Ch{L:Nat}{A:List Nat}{n:Nat}(h:ip L A n):n=0↔val (A.take n)=0:=by
 constructor
 ·intro h0;subst h0;rfl
 ·intro h0;have h1:=h.2.2.2;rw[h0]at h1;exact h1
theorem UU{x y:Nat}(hx:x%2=0)(hy:y%2=0):Nat.gcd x y=2*Nat.gcd (x/2) (y/2):=by
 rw[<- Nat.gcd_mul_left,Nat.mul_div_cancel' (Nat.dvd_of_mod_eq_zero hx),Nat.mul_div_cancel' (Nat.dvd_of_mod_eq_zero hy)]
theorem EM{x y:Nat}(hx:x%2=0)(hy:y%2=1):Nat.gcd (x/2) y=Nat.gcd x y:=by
 have h1:x=2*(x/2):=by omega
 have h2:Nat.Coprime 2 y:=by
  rw[Nat.Coprime,Nat.gcd_rec,hy];rfl
 conv=>rhs;rw[h1]
 exact(Nat.Coprime.gcd_mul_left_cancel _ h2).symm
theorem BX{x y:Nat}(h:y<=x):Nat.gcd (x-y) y=Nat.gcd x y:=Nat.gcd_sub_self_left h
theorem CI{t L g V:Nat}(hg:0<g)(h:2^t*g<=V)(hV:V<4294967296^L):t<32*L:=by
 rw[sR]at hV;have h1:=mul_le_mul_left (2^t) (show 1<=g from hg);rcases lt_or_ge t (32*L)with h2 |h2
 ·exact h2
 ·have:=ot h2;omega
theorem FJ(A D:List Nat)(n p:Nat)(hA:Ws A)(hD:Ws D)(hn:n<=A.length)(hp:p<=D.length)(la:A.length<=aD)(hle:val (D.take p)<=val (A.take n)) :
  Con prog 387 [.ms 901 1 0 n,.ms 902 1 0 p] [(902,some (.row 1 (D.map u32))),(901,some (.row 1 (A.map u32)))] (.tup [])
   [(902,some (.row 1 (D.map u32))),(901,some (.row 1 ((wr A 0 (bj n (val (A.take n)-val (D.take p)))).map u32)))]:=by
 have h1:=Con.rk 901 rfl rfl (Df A (D.take p) n hA (fX hD p) hn la hle);refine Con.borrow (args:=[.ms 901 1 0 n,ws (D.take p)]) 902 1 (D.map u32) rfl rfl rfl ?_ rfl ?_ h1
 ·intro j x' hj
  match j,hj with
  |0,hj=>cases hj;exact .inl rfl
  |1,hj=>cases hj;exact .inr ⟨0,p,rfl,by simpa using hp,by rw[pX];rfl⟩
 ·intro k' x h;obtain⟨_,h⟩:=fA h;cases h;exact HE _
theorem vE{A:List Nat}(hA:Ws A){i:Nat}:pv .and .u32 (ak A i:Int) 1=((ak A i%2:Nat):Int) :=
 (Ec (y:=1) (bY hA i) oz).trans (by rw[Nat.and_one_is_mod])
theorem Nr(a b:List Nat)(ha:Ws a)(hb:Ws b)(na:Nz a)(nb:Nz b)(la:a.length+b.length<aD):FP 360 [ws a,ws b] (ws (ofNat (Nat.gcd (val a) (val b)))):=by
 have la':=la;unfold aD at la;have ea:=rN ha na;have eb:=rN hb nb;obtain⟨L,hL⟩:∃L,L=a.length+b.length:=⟨_,rfl⟩
 obtain⟨G,hG⟩:∃G,G=Nat.gcd (val a) (val b):=⟨_,rfl⟩
 rw[<- hG];refine aj func360 ?_;refine gt (aI (A8 901 rfl a ha (by unfold aD;omega)) (cJ rfl) aL rfl rfl) ?_;refine gt (aI (A8 902 rfl b hb (by unfold aD;omega)) (cJ rfl) aL rfl rfl) ?_ (2,0);refine gW (Wk.of (sl:=[(0,some (.ms 901 1 0 a.length)),(1,some (.ms 902 1 0 b.length))]) (hp:=[(901,some (.row 1 (a.map u32))),(902,some (.row 1 (b.map u32)))]) (.cons rfl (Sub.of (by rw[ea])) (.cons rfl (Sub.of (by rw[eb])) .nil)) (.k (.k .nil))) ?_;refine gC (fun t12=>?_) (fun t12=>?_) (st1:=(3,0))
 ·have h0 : a=[] := List.length_eq_zero_iff.1 (by simpa[aa]using t12);refine gW ((Wk.freeze (k:=902) rfl).trans<|Wk.of (sl:=[(1,some (ws b))]) (hp:=[]) (.cons rfl (Sub.of (cr (by simp))) .nil) .nil) ?_;refine af ?_;rw[hG,h0];simp[val,eb]
 have h0:a≠[]:=fun h=>by rw[h]at t12;simp[aa]at t12
 refine gC (fun t16=>?_) (fun t16=>?_) (st1:=(5,0))
 ·have h1 : b=[] := List.length_eq_zero_iff.1 (by simpa[aa]using t16);refine gW ((Wk.freeze (k:=901) rfl).trans<|Wk.of (sl:=[(0,some (ws a))]) (hp:=[]) (.cons rfl (Sub.of (cr (by simp))) .nil) .nil) ?_;refine af ?_;rw[hG,h1];simp[val,ea]
 have h1:b≠[]:=fun h=>by rw[h]at t16;simp[aa]at t16
 have va:=pz na h0;have vb:=pz nb h1;have hGp:0<G:=by rw[hG];exact Nat.gcd_pos_of_pos_left _ va
 have hGa:G<=val a:=by rw[hG];exact Nat.gcd_le_left _ va
 have vla:=ci a ha;refine Gi [] [] (fun(A D:List Nat)(n p t:Nat)=>[(0,some (.ms 901 1 0 n)),(1,some (.ms 902 1 0 p)),(5,some (i64 t))]) (fun A D _ _ _=>[(901,some (.row 1 (A.map u32))),(902,some (.row 1 (D.map u32)))]) (fun A D n p t=>ip L A n/\ip L D p/\0<val (A.take n)/\0<val (D.take p)/\G=2^t*Nat.gcd (val (A.take n)) (val (D.take p))) (fun A _ n _ _=>val (A.take n)) a b a.length b.length 0 ⟨⟨ha,le_refl _,by omega,by rw[take_length,ea]⟩,⟨hb,le_refl _,by omega,by rw[take_length,eb]⟩,by rw[take_length];exact va,by rw[take_length];exact vb,by rw[take_length,take_length,hG];simp⟩ ?_
 rintro A D n p t ⟨gA,gD,pA,pD,hg⟩ K1 J1;refine gs (cg (n:=0) (.tmp rfl) (.const _) T43 rfl T350 rfl oz (by have:=(gO gA pA).1;omega) rfl) ?_;refine gs (ek (.tmp rfl) rfl (cC (i:=0) (by have:=(gO gA pA).1;have:=gA.2.1;omega)) T350 rfl rfl rfl) ?_;refine gs (jF (.tmp rfl) (.const _) rfl (vE gA.1) rfl) ?_;refine gs (eJ rfl rfl rfl (fun h=>cg (n:=0) (.opt rfl (o1 h)) (.const _) T43 rfl T350 rfl oz (by have:=(gO gD pD).1;omega) rfl)) ?_;refine gs (eJ rfl rfl rfl (fun h=>ek (.opt rfl (o1 h)) rfl (cC (i:=0) (by have:=(gO gD pD).1;have:=gD.2.1;omega)) T350 rfl rfl rfl)) ?_;refine gs (eJ rfl rfl rfl (fun h=>jF (.opt rfl (o1 h)) (.const _) rfl (vE gD.1) rfl)) ?_;refine gC (fun t29=>?_) (fun t29=>?_)
 ·have hev:ak A 0%2=0/\ak D 0%2=0:=by
   have:=t29;simp[aa]at this;omega
  have xA:val (A.take n)%2=0:=by rw[(gO gA pA).2];exact hev.1
  have xD:val (D.take p)%2=0:=by rw[(gO gD pD).2];exact hev.2
  obtain⟨k1,k2,k3⟩:=jD gA (v:=val (A.take n)/2) oz;obtain⟨m1,m2,m3⟩:=jD gD (v:=val (D.take p)/2) oz;have ht:t<32*a.length:=CI (Nat.gcd_pos_of_pos_left _ pA) (by rw[<- hg];exact hGa) vla;refine gt (aI (Con.rekeyR 901 rfl (xq A n gA.1 gA.2.1 (by have:=gA.2.2.1;unfold aD;omega))) (cJ rfl) aL rfl rfl) ?_;refine gt (aI (Con.rekeyR 902 rfl (xq D p gD.1 gD.2.1 (by have:=gD.2.2.1;unfold aD;omega))) (cJ rfl) aL rfl rfl) ?_;refine ga (show _=((t+1:Nat):Int) by rw[db oz];omega) ?_;exact Fy J1 (wr A 0 (bj n (val (A.take n)/2))) (wr D 0 (bj p (val (D.take p)/2))) ((ofNat (val (A.take n)/2)).length) ((ofNat (val (D.take p)/2)).length) (t+1) ⟨k1,m1,by rw[k2];omega,by rw[m2];omega,by rw[k2,m2,hg,UU xA xD,Nat.pow_succ];grind⟩ (by rw[k2];omega)
 have hod:val (A.take n)%2=1\/val (D.take p)%2=1:=by
  rw[(gO gA pA).2,(gO gD pD).2];have:=t29;simp[aa]at this;omega
 refine Je [5] [] (fun(A1 D1:List Nat)(n1 p1:Nat)=>[(0,some (.ms 901 1 0 n1)),(1,some (.ms 902 1 0 p1))]) (fun A1 D1 _ _=>[(901,some (.row 1 (A1.map u32))),(902,some (.row 1 (D1.map u32)))]) (fun A1 D1 n1 p1=>ip L A1 n1/\ip L D1 p1/\0<val (D1.take p1)/\(val (A1.take n1)%2=1\/val (D1.take p1)%2=1)/\G=2^t*Nat.gcd (val (A1.take n1)) (val (D1.take p1))) (fun A1 D1 n1 p1=>val (A1.take n1)+val (D1.take p1)) A D n p ⟨gA,gD,pD,hod,hg⟩ ?_
 rintro A1 D1 n1 p1 ⟨gA1,gD1,pD1,hod1,hg1⟩ K2 J2;refine gC (fun t38=>?_) (fun t38=>?_) (st2:=(19,0))
 ·have pA1:0<val (A1.take n1):=by
   have h3:n1≠0:=by have:=t38;simp[aa]at this;omega
   exact Nat.pos_of_ne_zero (fun h=>h3 ((Ch gA1).2 h))
  refine ic [5] [902] (fun(A2:List Nat)(n2:Nat)=>[(0,some (.ms 901 1 0 n2)),(1,some (.ms 902 1 0 p1))]) (fun A2 _=>[(901,some (.row 1 (A2.map u32)))]) (fun A2 n2=>ip L A2 n2/\0<val (A2.take n2)/\val (A2.take n2)<=val (A1.take n1)/\(val (A2.take n2)%2=1\/val (D1.take p1)%2=1)/\Nat.gcd (val (A2.take n2)) (val (D1.take p1))=Nat.gcd (val (A1.take n1)) (val (D1.take p1))) (fun A2 n2=>val (A2.take n2)) A1 n1 ⟨gA1,pA1,le_refl _,hod1,rfl⟩ ?_
  rintro A2 n2 ⟨gA2,pA2,lA2,hod2,hg2⟩ K3 J3;refine gs (cg (n:=0) (.tmp rfl) (.const _) T43 rfl T350 rfl oz (by have:=(gO gA2 pA2).1;omega) rfl) ?_;refine gs (ek (.tmp rfl) rfl (cC (i:=0) (by have:=(gO gA2 pA2).1;have:=gA2.2.1;omega)) T350 rfl rfl rfl) ?_;refine gs (jF (.tmp rfl) (.const _) rfl (vE gA2.1) rfl) ?_;refine gC (fun t43=>?_) (fun t43=>?_)
  ·have xA2:val (A2.take n2)%2=0:=by
    rw[(gO gA2 pA2).2];have:=t43;simp[aa]at this;omega
   obtain⟨k1,k2,k3⟩:=jD gA2 (v:=val (A2.take n2)/2) oz;refine gt (aI (Con.rekeyR 901 rfl (xq A2 n2 gA2.1 gA2.2.1 (by have:=gA2.2.2.1;unfold aD;omega))) (cJ rfl) aL rfl rfl) ?_;exact hO J3 (wr A2 0 (bj n2 (val (A2.take n2)/2))) ((ofNat (val (A2.take n2)/2)).length) ⟨k1,by rw[k2];omega,by rw[k2];omega,.inr oz,by rw[k2,EM xA2 oz,hg2]⟩ (by rw[k2];omega)
  have xA2:val (A2.take n2)%2=1:=by
   rw[(gO gA2 pA2).2];have:=t43;simp[aa]at this;omega
  refine ic [5] [901] (fun(D2:List Nat)(p2:Nat)=>[(0,some (.ms 901 1 0 n2)),(1,some (.ms 902 1 0 p2))]) (fun D2 _=>[(902,some (.row 1 (D2.map u32)))]) (fun D2 p2=>ip L D2 p2/\0<val (D2.take p2)/\val (D2.take p2)<=val (D1.take p1)/\Nat.gcd (val (A2.take n2)) (val (D2.take p2))=Nat.gcd (val (A2.take n2)) (val (D1.take p1))) (fun D2 p2=>val (D2.take p2)) D1 p1 ⟨gD1,pD1,le_refl _,rfl⟩ ?_;rintro D2 p2 ⟨gD2,pD2,lD2,hg3⟩ K4 J4;refine gs (cg (n:=0) (.tmp rfl) (.const _) T43 rfl T350 rfl oz (by have:=(gO gD2 pD2).1;omega) rfl) ?_;refine gs (ek (.tmp rfl) rfl (cC (i:=0) (by have:=(gO gD2 pD2).1;have:=gD2.2.1;omega)) T350 rfl rfl rfl) ?_;refine gs (jF (.tmp rfl) (.const _) rfl (vE gD2.1) rfl) ?_;refine gC (fun t50=>?_) (fun t50=>?_)
  ·have xD2:val (D2.take p2)%2=0:=by
    rw[(gO gD2 pD2).2];have:=t50;simp[aa]at this;omega
   obtain⟨k1,k2,k3⟩:=jD gD2 (v:=val (D2.take p2)/2) oz;refine gt (aI (Con.rekeyR 902 rfl (xq D2 p2 gD2.1 gD2.2.1 (by have:=gD2.2.2.1;unfold aD;omega))) (cJ rfl) aL rfl rfl) ?_;exact hO J4 (wr D2 0 (bj p2 (val (D2.take p2)/2))) ((ofNat (val (D2.take p2)/2)).length) ⟨k1,by rw[k2];omega,by rw[k2];omega,by rw[k2,Nat.gcd_comm,EM xD2 xA2,Nat.gcd_comm,hg3]⟩ (by rw[k2];omega)
  have xD2:val (D2.take p2)%2=1:=by
   rw[(gO gD2 pD2).2];have:=t50;simp[aa]at this;omega
  refine gt (aI (O9 901 902 oz A2 D2 n2 p2 gA2.1 gD2.1 gA2.2.1 gD2.2.1) (bO rfl rfl) aL rfl rfl) ?_;refine gC (fun t56=>?_) (fun t56=>?_) (st1:=(17,0)) (st2:=(77777,0))
  ·have hlt:val (A2.take n2)<val (D2.take p2):=by
    rcases lt_or_ge (val (A2.take n2)) (val (D2.take p2))with h |h
    ·exact h
    ·rw[if_neg oz]at t56;split at t56 <;> cases t56
   refine gW (Wk.o (sl:=[(0,some (.ms 902 1 0 p2)),(1,some (.ms 901 1 0 n2)),(5,some (i64 t))]) (hp:=[(901,some (.row 1 (A2.map u32))),(902,some (.row 1 (D2.map u32)))])) ?_ (17,0);refine gW (Wk.rk (k:=901) (d:=903) rfl rfl) ?_ (17,0);refine gW (Wk.rk (k:=902) (d:=901) rfl rfl) ?_ (17,0);refine gW (Wk.rk (k:=903) (d:=902) rfl rfl) ?_ (17,0);refine gW (Wk.of (sl:=[(0,some (.ms 901 1 0 p2)),(1,some (.ms 902 1 0 n2)),(5,some (i64 t))]) (hp:=[(901,some (.row 1 (D2.map u32))),(902,some (.row 1 (A2.map u32)))]) (.cons rfl (Sub.refl _) (.cons rfl (Sub.refl _) (.cons rfl (Sub.refl _) .nil))) (.k (.k .nil))) ?_ (17,0);obtain⟨A3,D3,n3,p3,gA3,gD3,xA3,xD3,hle3,hg4,hs3,e1,e2,e3,e4⟩:∃A3 D3 n3 p3,ip L A3 n3/\ip L D3 p3/\val (A3.take n3)%2=1/\val (D3.take p3)%2=1/\val (D3.take p3)<=val (A3.take n3)/\Nat.gcd (val (A3.take n3)) (val (D3.take p3))=Nat.gcd (val (A2.take n2)) (val (D2.take p2))/\val (A3.take n3)+val (D3.take p3)=val (A2.take n2)+val (D2.take p2)/\A3=D2/\n3=p2/\D3=A2/\p3=n2:=⟨D2,A2,p2,n2,gD2,gA2,xD2,xA2,by omega,Nat.gcd_comm _ _,Nat.add_comm _ _,rfl,rfl,rfl,rfl⟩
   rw[<- e1,<- e2,<- e3,<- e4];refine go ?_;refine gt (aI (FJ A3 D3 n3 p3 gA3.1 gD3.1 gA3.2.1 gD3.2.1 (by have:=gA3.2.2.1;unfold aD;omega) hle3) (bO rfl rfl) aL rfl rfl) ?_;refine gt (aI (Con.rekeyR 901 rfl (yQ (wr A3 0 (bj n3 (val (A3.take n3)-val (D3.take p3)))) n3 (qK gA3.1 (kg _ _)) (by rw[mz (by rw[fg];have:=gA3.2.1;omega)];exact gA3.2.1) (by rw[mz (by rw[fg];have:=gA3.2.1;omega)];have:=gA3.2.2.1;unfold aD;omega))) (cJ rfl) aL rfl rfl) ?_;exact Iq J2 (wr A3 0 (bj n3 (val (A3.take n3)-val (D3.take p3)))) D3 ((ofNat (val (A3.take n3)-val (D3.take p3))).length) p3 ⟨(jD gA3 oz).1,gD3,by omega,.inr xD3,by rw[(jD gA3 (v:=val (A3.take n3)-val (D3.take p3)) oz).2.1,BX hle3,hg4,hg3,hg2,hg1]⟩ (by rw[(jD gA3 (v:=val (A3.take n3)-val (D3.take p3)) oz).2.1];omega) (hw:=Wk.of (.cons rfl (Sub.of (by rw[(jD gA3 (v:=val (A3.take n3)-val (D3.take p3)) oz).2.2])) (.k (.k .nil))) (.k (.k .nil)))
  have hlt:val (D2.take p2)<=val (A2.take n2):=by
   rcases lt_or_ge (val (A2.take n2)) (val (D2.take p2))with h |h
   ·rw[if_pos h]at t56;cases t56
   ·exact h
  refine gW (Wk.o (sl:=[(0,some (.ms 901 1 0 n2)),(1,some (.ms 902 1 0 p2)),(5,some (i64 t))]) (hp:=[(901,some (.row 1 (A2.map u32))),(902,some (.row 1 (D2.map u32)))])) ?_ (77777,0);obtain⟨A3,D3,n3,p3,gA3,gD3,xA3,xD3,hle3,hg4,hs3,e1,e2,e3,e4⟩:∃A3 D3 n3 p3,ip L A3 n3/\ip L D3 p3/\val (A3.take n3)%2=1/\val (D3.take p3)%2=1/\val (D3.take p3)<=val (A3.take n3)/\Nat.gcd (val (A3.take n3)) (val (D3.take p3))=Nat.gcd (val (A2.take n2)) (val (D2.take p2))/\val (A3.take n3)+val (D3.take p3)=val (A2.take n2)+val (D2.take p2)/\A3=A2/\n3=n2/\D3=D2/\p3=p2:=⟨A2,D2,n2,p2,gA2,gD2,xA2,xD2,hlt,rfl,rfl,rfl,rfl,rfl,rfl⟩
  rw[<- e1,<- e2,<- e3,<- e4];obtain⟨k1,k2,k3⟩:=jD gA3 (v:=val (A3.take n3)-val (D3.take p3)) oz;refine go ?_;refine gt (aI (FJ A3 D3 n3 p3 gA3.1 gD3.1 gA3.2.1 gD3.2.1 (by have:=gA3.2.2.1;unfold aD;omega) hle3) (bO rfl rfl) aL rfl rfl) ?_;refine gt (aI (Con.rekeyR 901 rfl (yQ (wr A3 0 (bj n3 (val (A3.take n3)-val (D3.take p3)))) n3 (qK gA3.1 (kg _ _)) (by rw[mz (by rw[fg];have:=gA3.2.1;omega)];exact gA3.2.1) (by rw[mz (by rw[fg];have:=gA3.2.1;omega)];have:=gA3.2.2.1;unfold aD;omega))) (cJ rfl) aL rfl rfl) ?_;exact Iq J2 (wr A3 0 (bj n3 (val (A3.take n3)-val (D3.take p3)))) D3 ((ofNat (val (A3.take n3)-val (D3.take p3))).length) p3 ⟨(jD gA3 oz).1,gD3,by omega,.inr xD3,by rw[(jD gA3 (v:=val (A3.take n3)-val (D3.take p3)) oz).2.1,BX hle3,hg4,hg3,hg2,hg1]⟩ (by rw[(jD gA3 (v:=val (A3.take n3)-val (D3.take p3)) oz).2.1];omega) (hw:=Wk.of (.cons rfl (Sub.of (by rw[(jD gA3 (v:=val (A3.take n3)-val (D3.take p3)) oz).2.2])) (.k (.k .nil))) (.k (.k .nil)))
 have zA1:val (A1.take n1)=0:=by
  have h3:n1=0:=by have:=t38;simp[aa]at this;omega
  exact(Ch gA1).1 h3
 rw[zA1,Nat.gcd_zero_left]at hg1;refine gW ((Wk.freeze (k:=902) rfl).trans<|Wk.of (sl:=[(1,some (ws (ofNat (val (D1.take p1))))),(5,some (i64 t))]) (hp:=[]) (.cons rfl (Sub.of (by rw[xx (by rw[length_map];have:=gD1.2.1;omega),pX,<- TW gD1])) (.k .nil)) .nil) ?_;refine aZ [64] [] (fun(i:Nat)=>[(1,some (ws (ofNat (2^i*val (D1.take p1))))),(65,some (i64 i))]) (fun _=>[]) (fun i=>i<=t) (fun i=>t-i) 0 (zero_le _) ?_ (h1:=(.cons rfl (Sub.of (by rw[Nat.pow_zero,Nat.one_mul])) (.k .nil)));rintro i hit K5 J5;refine gC (fun t66=>?_) (fun t66=>?_)
 ·have hin : i < t := by simpa [aa] using t66
  have h3:2^i*val (D1.take p1)<=G:=by rw[hg1];exact mul_le_mul_right _ (ot oz)
  have h4:(ofNat (2^i*val (D1.take p1))).length<=a.length:=fm oz;have ht:t<32*a.length:=CI pD1 (by rw[<- hg1];exact hGa) vla;refine gc (BG _ _ (dh _) (dh _) (by unfold aD;omega) (by unfold aD;omega)) ?_;refine ga (db oz) ?_;exact aT J5 (i+1) hin (hw:=Wk.of (.cons rfl (Sub.of (by rw[co,Nat.pow_succ];congr 2;grind)) (.k (.k .nil))) .nil)
 have hin:i=t:=by have:t<=i:=(by simpa[aa]using t66);omega
 subst hin;refine af ?_;rw[hg1]
theorem FV(a b:Wh)(ha:a.ok)(hb:b.ok)(la:a.mag.length+b.mag.length<aD):FP 293 [a.av,b.av] (zA (Int.gcd a.z b.z)):=by
 have h1:=Wh.m_le (w:=a);have h2:=Wh.m_le (w:=b);have h3:Int.gcd a.z b.z=Nat.gcd (val a.m) (val b.m):=by rw[Int.gcd,Wh.abs,Wh.abs]
 have h4:(ofNat (Nat.gcd (val a.m) (val b.m))).length<=a.m.length+b.m.length:=by
  rcases Nat.eq_zero_or_pos (val a.m)with h |h
  ·rw[h,Nat.gcd_zero_left,Wh.ofNat_m hb];omega
  ·exact le_trans (fm (lt_of_le_of_lt (Nat.gcd_le_left _ h) (ci _ (Wh.ws ha)))) oz
 refine aj func293 ?_;refine gc (kK a ha) ?_;refine gc (kK b hb) ?_;refine gc (Nr a.m b.m (Wh.ws ha) (Wh.ws hb) a.nz b.nz oz) ?_;refine gc (j4 false _ (dh _) oz) ?_;refine gD ?_;refine af ?_;rw[co,h3];rfl
theorem Pg(a b:Wh)(ha:a.ok)(hb:b.ok)(la:a.mag.length+1<aD)(lb:b.mag.length<aD)(h0:b.z≠0):FP 294 [a.av,b.av] (.tup [zA (a.z/b.z),zA (a.z%b.z),i64 0]):=by
 have hm1:=Wh.m_le (w:=a);have hm2:=Wh.m_le (w:=b);have hb1:val b.m≠0:=by have:=Wh.abs (w:=b);omega
 have hl1:(ofNat (val a.m/val b.m)).length<=a.m.length:=fm (lt_of_le_of_lt (Nat.div_le_self _ _) (ci _ (Wh.ws ha)));have hmod:=Nat.mod_lt (val a.m) (show 0<val b.m by omega);have hl2:(ofNat (val a.m%val b.m)).length<=b.m.length:=fm (Nat.lt_trans hmod (ci _ (Wh.ws hb)));have hl3:(ofNat (val a.m/val b.m+1)).length<=a.m.length+1:=fm (by have h7:=lt_of_le_of_lt (Nat.div_le_self (val a.m) (val b.m)) (ci _ (Wh.ws ha));rw[Nat.pow_succ];generalize val a.m/val b.m=m at *;omega);have hl4:(ofNat (val b.m-val a.m%val b.m)).length<=b.m.length:=fm (by have:=ci _ (Wh.ws hb);omega);have hv1:val [1]=1:=rfl;refine aj func294 ?_;refine gc (x7 b hb) ?_;refine gC (fun t11=>?_) (fun t11=>?_) (st1:=(2,0));exact absurd (Int.sign_eq_zero_iff_zero.1 (by simpa[aa]using t11)) h0;refine gc (kK a ha) ?_;refine gc (kK b hb) ?_;refine gc (QY a.m b.m (Wh.ws ha) (Wh.ws hb) a.nz hb1 oz oz) ?_;refine gD ?_;refine gc (iZ a ha) ?_;refine cE ?_;refine gC (fun t28=>?_) (fun t28=>?_)
 ·have h1:a.n = true /\ 0 < val a.m % val b.m:=vU.1 t28;obtain ⟨e1,e2⟩:=Cg hb1 h1.1 h1.2;refine gc (BG (ofNat (val a.m / val b.m)) [1] (dh _) (uc oz) oz (by unfold aD; simp)) ?_;refine gc (kK b hb) ?_;refine gc (Bu b.m (ofNat (val a.m % val b.m)) (Wh.ws hb) (dh _) oz (by rw [co]; omega)) ?_;refine gD ?_ (6,0);refine gW (Wk.of (sl:=[(2,some (.ptr 2 0)),(3,some (.ptr 3 0)),(4,some (.ptr 4 0)),(5,some (.ptr 5 0)),(7,some (ws (ofNat (val a.m / val b.m + 1)))),(8,some (ws (ofNat (val b.m - val a.m % val b.m))))]) (hp:=[(2,some (.box [bl a.neg,ws a.mag])),(3,some (.box [bl b.neg,ws b.mag])),(4,some (.box [.v (.bool false),nS])),(5,some (.box [.v (.bool false),nS]))]) (.k (.k (.k (.k (.cons rfl (Sub.of (by rw [co,hv1])) (.cons rfl (Sub.of (by rw [co])) .nil)))))) (.k (.k (.k (.k .nil))))) ?_
  refine gc (iZ a ha) ?_;refine gc (iZ b hb) ?_;refine gc (by apply j4 _ _ (dh _) oz) ?_;refine gc (by apply j4 _ _ (dh _) oz) ?_;refine gD ?_;refine gR ?_;exact sf (by rw[co,co,e1,show sgn false _=_ from e2];rfl)
 have h1:¬(a.n=true/\0<val a.m%val b.m):=fun h=>Bool.eq_false_iff.1 t28 (vU.2 h)
 obtain⟨e1,e2⟩:=Ga hb1 h1;refine gc (iZ a ha) ?_;refine gc (iZ b hb) ?_;refine gc (by apply j4 _ _ (dh _) oz) ?_;refine gc (by apply j4 _ _ (dh _) oz) ?_;refine gD ?_;refine gR ?_;exact sf (by rw[co,co,e1,show sgn false _=_ from e2];rfl)
theorem sY{x:Int}(hx:Zs x):FP 306 [zA x] (i64 x.sign):=by
 have h:=AD (ofInt x) hx.ok;rw[dH]at h;exact h
theorem xd{x:Int}(hx:Zs x):FP 234 [zA x] (zA (-x)):=by
 have h:=Pf (ofInt x) hx.ok (by have:=hx.len;unfold aD;omega);rw[dH]at h;exact h
theorem Dx{x y:Int}(hx:Zs x)(hy:Zs y):FP 304 [zA x,zA y] (i64 (gy x y)):=by
 have h:=NX (ofInt x) (ofInt y) hx.ok hy.ok;rw[dH,dH]at h;exact h
theorem VO{x y:Int}(hx:Zs x)(hy:Zs y):FP 320 [zA x,zA y] (zA (x+y)):=by
 have h:=Kv (ofInt x) (ofInt y) hx.ok hy.ok (by have:=hx.len;unfold aD;omega) (by have:=hy.len;unfold aD;omega);rw[dH,dH]at h;exact h
theorem mH{x y:Int}(hx:Zs x)(hy:Zs y):FP 321 [zA x,zA y] (zA (x*y)):=by
 have h:=MQ (ofInt x) (ofInt y) hx.ok hy.ok (by have:=hx.len;have:=hy.len;unfold aD;omega);rw[dH,dH]at h;exact h
theorem U6{x y:Int}(hx:Zs x)(hy:Zs y):FP 305 [zA x,zA y] (zA (Int.gcd x y)):=by
 have h:=FK (ofInt x) (ofInt y) hx.ok hy.ok (by have:=hx.len;unfold aD;omega) (by have:=hy.len;unfold aD;omega);rw[dH,dH]at h;exact h
theorem EZ{x y:Int}(hx:Zs x)(hy:Zs y)(h0:y≠0):FP 322 [zA x,zA y] (.tup [zA (x/y),zA (x%y),.v .nilIface]):=by
 have h:=JK (ofInt x) (ofInt y) hx.ok hy.ok (by have:=hx.len;unfold aD;omega) (by have:=hy.len;unfold aD;omega) (by rw[dH];exact h0);rw[dH,dH]at h;exact h
theorem vH{x:Int}(hx:Zs x):FP 221 [zA x] (i64 x.sign):=by
 have h:=x7 (ofInt x) hx.ok;rw[dH]at h;exact h
theorem BA{x:Int}(hx:Zs x):FP 292 [zA x] (zA (-x)):=by
 have h:=Ii (ofInt x) hx.ok (by have:=hx.len;unfold aD;omega);rw[dH]at h;exact h
theorem Uk{x y:Int}(hx:Zs x)(hy:Zs y):FP 327 [zA x,zA y] (i64 (gy x y)):=by
 have h:=Lq (ofInt x) (ofInt y) hx.ok hy.ok (by have:=hx.len;unfold aD;omega) (by have:=hy.len;unfold aD;omega);rw[dH,dH]at h;exact h
theorem SV{x y:Int}(hx:Zs x)(hy:Zs y):FP 247 [zA x,zA y] (zA (x+y)):=by
 have h:=GP (ofInt x) (ofInt y) hx.ok hy.ok (by have:=hx.len;unfold aD;omega) (by have:=hy.len;unfold aD;omega);rw[dH,dH]at h;exact h
theorem oO{x y:Int}(hx:Zs x)(hy:Zs y):FP 248 [zA x,zA y] (zA (x*y)):=by
 have h:=OA (ofInt x) (ofInt y) hx.ok hy.ok (by have:=hx.len;have:=hy.len;unfold aD;omega);rw[dH,dH]at h;exact h
theorem Sr{x y:Int}(hx:Zs x)(hy:Zs y):FP 293 [zA x,zA y] (zA (Int.gcd x y)):=by
 have h:=FV (ofInt x) (ofInt y) hx.ok hy.ok (by have:=hx.len;have:=hy.len;unfold aD;omega);rw[dH,dH]at h;exact h
theorem IS{x y:Int}(hx:Zs x)(hy:Zs y)(h0:y≠0):FP 294 [zA x,zA y] (.tup [zA (x/y),zA (x%y),i64 0]):=by
 have h:=Pg (ofInt x) (ofInt y) hx.ok hy.ok (by have:=hx.len;unfold aD;omega) (by have:=hy.len;unfold aD;omega) (by rw[dH];exact h0);rw[dH,dH]at h;exact h
def kO(e:Nat):Value:=match e with |0=>.nilIface |e+1=>.iface 60 (.int .i64 ((e+1:Nat):Int))
def cq(e:Nat):AV:=.v (kO e)
theorem Oz(e:Nat):kO e=.nilIface\/∃T u,kO e=.iface T u:=by cases e;exact .inl rfl;exact .inr ⟨_,_,rfl⟩
theorem IV(e:Nat):fC (kO e)=decide (e=0):=by cases e <;> simp[kO,fC]
theorem Og{e:Nat}(h:fC (kO e)=true):e=0:=by rw[IV]at h;exact of_decide_eq_true h
theorem QL{e:Nat}(h:fC (kO e)=false):e≠0:=by rw[IV]at h;exact of_decide_eq_false h
theorem fc{e:Nat}(h:(!fC (kO e))=true):e≠0:=QL (by cases h':fC (kO e) <;> simp_all)
theorem eH{e:Nat}(h:(!fC (kO e))=false):e=0:=Og (by cases h':fC (kO e) <;> simp_all)
theorem Be:FP 258 [] (zA 1):=by
 refine aj func258 ?_;refine gc (GO 1 oz) ?_;refine af ?_
 first |rfl |(simp;done)
theorem tx(r:Rt)(h:r.ok):FP 208 [r.av] (bl r.valid):=by
 have hn:=h.n0;have hd:=h.d0;refine aj func208 ?_;refine gl ?_;refine cE ?_;refine gC (fun t14=>?_) (fun t14=>?_)
 ·have h0 : r.num = [] /\ r.den = [] := by simpa [aa] using t14
  refine af ?_;unfold Rt.valid;rw[if_pos h0];rfl
 have h0:¬(r.num=[]/\r.den=[]):=by
  have:=t14;simp[aa]at this;exact fun h=>this h.1 h.2
 refine gD ?_;refine gl ?_;refine cE ?_;refine bU (fun _=>(vL r.n0 hn)) ?_;refine bU (fun _=>(vL r.d0 hd)) ?_;refine gC (fun t43=>?_) (fun t43=>?_)
 ·have h1:r.valid=false:=zx h0 t43;refine af ?_;rw[h1];rfl
 have h1:=Gk h0 t43;refine gc (FK r.n0 r.d0 hn hd h.n0l h.d0l) ?_;refine gc (by apply Be) ?_;refine gc (Dx (Rt.gcd_zs h) xl) ?_;refine af ?_;rw[h1];rfl
theorem lF(r:Rt)(h:r.ok):FP 232 [r.av] (.tup [zA r.q.num,zA r.q.den]):=by
 have hl1:r.num.length<=137438953472:=h.2.2.1;have hl2:r.den.length<=137438953472:=h.2.2.2;refine aj func232 ?_;refine gc (tx r h) ?_;refine cE ?_;refine gC (fun t12=>?_) (fun t12=>?_)
 ·have h0:¬(r.valid=true/\r.num≠[]):=by
   have:=t12;intro h';simp[aa,h'.1,h'.2]at this
  refine gc Be ?_;refine gR ?_;exact d7 (by rw[Rt.zero h0];exact Sub.tup (.cons IG (.cons (.refl _) .nil)))
 have h0:r.valid=true/\r.num≠[]:=by
  have:=t12;cases hv:r.valid
  ·rw[hv]at this;cases this
  ·rw[hv]at this;exact⟨rfl,by simpa[aa]using this⟩
 obtain⟨e1,e2,e3,e4,e5,e6⟩:=Rt.parts h h0.1 h0.2;refine gs (ku T43 rfl T350 rfl rfl rfl) ?_;refine gs (de (.tmp rfl) rfl rfl (.tmp rfl) T43 rfl T350 rfl rfl (by simp only[length_map];omega) rfl rfl) ?_;refine gD ?_ (4,0);refine gW ((Wk.freeze (k:=20) rfl).trans<|Wk.of (sl:=[(1,some (.ptr 1 0)),(2,some (.ptr 2 0)),(3,some (.ptr 3 0))]) (hp:=[(1,some (.box [bl r.neg,ws r.num,ws r.den])),(2,some (.box [bl r.neg,ws r.num])),(3,some (.box [bl false,nS]))]) bg (.k (.cons rfl (BlkSub.bL (.cons (.refl _) (.cons (.of (cr (by simp))) .nil)) rfl) (.k .nil)))) ?_;refine gs (ku T43 rfl T350 rfl rfl rfl) ?_;refine gs (de (.tmp rfl) rfl rfl (.tmp rfl) T43 rfl T350 rfl rfl (by simp only[length_map];omega) rfl rfl) ?_;refine gD ?_ (77777,0);refine gW ((Wk.freeze (k:=26) rfl).trans<|Wk.of (sl:=[(2,some (.ptr 2 0)),(3,some (.ptr 3 0))]) (hp:=[(2,some (.box [bl r.neg,ws r.num])),(3,some (.box [bl false,ws r.den]))]) bg (.k (.cons rfl (BlkSub.bL (.cons (.refl _) (.cons (.of (cr (by simp))) .nil)) rfl) .nil))) ?_;refine bE ?_;rw[e1,e2];exact IT e3 e4 e5
theorem tC{n d:Int}(hn:Zs n)(hd:Zs d)(h0:d≠0):FP 233 [zA n,zA d] (qA (Rat.divInt n d)):=by
 refine aj func233 ?_;refine gc (sY hn) ?_;refine gC (fun t9=>?_) (fun t9=>?_)
 ·have e0 : n=0 := Int.sign_eq_zero_iff_zero.1 (by simpa[aa]using t9);refine gR ?_;exact iN (by rw[e0,Rat.zero_divInt];exact jL)
 have e0:n≠0:=fun h=>by rw[h]at t9;cases t9
 refine gc (sY hd) ?_;refine Bl [2,3,4] [4] (fun(n1 d1:Int)=>[]) (fun n1 d1=>[(2,some (.box (zA n1).cells)),(3,some (.box (zA d1).cells))]) (fun n1 d1=>0<d1/\n1≠0/\Zs n1/\Zs d1/\Rat.divInt n1 d1=Rat.divInt n d) ?_ ?_
 ·intro K1 J1;refine gC (fun t13=>?_) (fun t13=>?_)
  ·have e1 : d<0 := Int.sign_eq_neg_one_iff_neg.1 (by have := Int.sign_trichotomy d;have h9 : d.sign<0 := (by simpa[aa]using t13);omega);refine gc (xd hn) ?_;refine gc (xd hd) ?_;refine gD ?_;exact pS J1 (-n) (-d) ⟨by omega,by omega,hn.neg,hd.neg,BW n d⟩
  have e1:0<d:=by
   have h9:0<=d.sign:=by simpa[aa]using t13
   have:=Int.sign_nonneg_iff.1 h9;omega
  exact pS J1 n d ⟨e1,e0,hn,hd,rfl⟩
 rintro n1 d1 ⟨f1,f2,f3,f4,f5⟩;refine gc (U6 f3 f4) ?_;refine gc (sY f3) ?_;refine BF [2,3,4,5] [3,4,5] (fun(n2:Int)=>[(6,some (bl (decide (n1<0))))]) (fun n2=>[(2,some (.box (zA n2).cells))]) (fun n2=>n2=(n1.natAbs:Int)) ?_ ?_
 ·intro K2 J2;refine gC (fun t24=>?_) (fun t24=>?_)
  ·have e2 : n1<0 := Int.sign_eq_neg_one_iff_neg.1 (by have := Int.sign_trichotomy n1;have h9 : n1.sign<0 := (by simpa[aa]using t24);omega);refine gc (xd f3) ?_;exact qo J2 (-n1) oz (hw:=Wk.of (.cons rfl (Sub.of (by rw[show aa .lss n1.sign 0=true from t24,decide_eq_true e2];rfl)) (.k (.k (.k (.k .nil))))) (.k (.k (.k (.k .nil)))))
  have e2:0<n1:=by
   have h9:0<=n1.sign:=by simpa[aa]using t24
   have:=Int.sign_nonneg_iff.1 h9;omega
  exact qo J2 n1 oz (hw:=Wk.of (.cons rfl (Sub.of (by rw[show aa .lss n1.sign 0=false from t24,decide_eq_false oz];rfl)) (.k (.k (.k (.k .nil))))) (.k (.k (.k (.k .nil)))))
 rintro n2 g1;have g2:Zs (Int.gcd n1 d1:Int):=f3.of_le (by rw[natAbs_natCast];exact Nat.le_of_dvd oz (Int.gcd_dvd_natAbs_left _ _));have g3:(Int.gcd n1 d1:Int)≠0:=by have:=Int.gcd_pos_of_ne_zero_left d1 f2;omega
 have g4:Zs n2:=f3.of_le oz;refine gc (EZ g4 g2 g3) ?_;refine gc (EZ f4 g2 g3) ?_;refine af ?_;rw[<- f5,<- MS f1 f2,<- g1];rfl
theorem Nv{n d:Int}(hn:Zs n)(hd:Zs d):FP 404 [zA n,zA d] (.tup [qA (Rat.divInt n d),cq (if d=0 then 8 else 0)]):=by
 refine aj func404 ?_;refine gc (sY hd) ?_;refine gC (fun t8=>?_) (fun t8=>?_)
 ·have h0 : d=0 := Int.sign_eq_zero_iff_zero.1 (by simpa[aa]using t8);refine gR ?_;exact d7 (by rw[if_pos h0,h0,Rat.divInt_zero];exact Sub.tup (.cons jL (.cons (.refl _) .nil)))
 have h0:d≠0:=fun h=>by rw[h]at t8;cases t8
 refine gc (tC hn hd h0) ?_;refine bE ?_;rw[if_neg h0];rfl
theorem mV(n:Int)(h:-9223372036854775808<=n/\n<=9223372036854775807):FP 151 [i64 n] (qA n):=by
 have hz:Zs n:=⟨2,by omega,by unfold Lz;simp only[Nat.reducePow];omega⟩
 refine aj func151 ?_;refine gc (GO n h) ?_;refine gc Be ?_;refine gc (tC hz xl oz) ?_;refine af ?_;exact congrArg qA (Rat.num_divInt_den (n:Rat))
theorem CK(a:Rt)(ha:a.ok):FP 121 [a.av] (qA (-a.q)):=by
 have za:=ha.qs;refine aj func121 ?_;refine gc (lF a ha) ?_;refine gc (xd za.num) ?_;refine gc (tC za.num.neg za.den (by have:=a.q.den_nz;omega)) ?_;refine gD ?_;refine af ?_;rw[Hr];rfl
theorem vW(a:Rt)(ha:a.ok):FP 209 [a.av] (i64 (bP a.q)):=by
 refine aj func209 ?_;refine gc (lF a ha) ?_;refine gc (sY ha.qs.num) ?_;refine af ?_;rw[CJ]
theorem D5(a b:Rt)(ha:a.ok)(hb:b.ok):FP 365 [a.av,b.av] (i64 (bP (a.q-b.q))):=by
 have za:=ha.qs;have zb:=hb.qs;have m1:=za.mul zb;have m2:=zb.mul za;refine aj func365 ?_;refine gc (lF a ha) ?_;refine gc (lF b hb) ?_;refine gc (mH za.num zb.den) ?_;refine gc (mH zb.num za.den) ?_;refine gc (Dx m1.1 m2.1) ?_;refine gD ?_;refine af ?_;rw[TO]
theorem rm(a b:Rt)(ha:a.ok)(hb:b.ok):FP 231 [a.av,b.av] (qA (a.q+b.q)):=by
 have za:=ha.qs;have zb:=hb.qs;have m1:=za.mul zb;have m2:=zb.mul za;refine aj func231 ?_;refine gc (lF a ha) ?_;refine gc (lF b hb) ?_;refine gc (mH za.num zb.den) ?_;refine gc (mH zb.num za.den) ?_;refine gc (VO m1.1 m2.1) ?_;refine gc (mH za.den zb.den) ?_;refine gc (tC (za.cross zb) m1.2.2.1 (Int.mul_ne_zero (by have:=a.q.den_nz;omega) (by have:=b.q.den_nz;omega))) ?_;refine gD ?_;refine af ?_;rw[xH];rfl
theorem Oe(a b:Rt)(ha:a.ok)(hb:b.ok):FP 262 [a.av,b.av] (qA (a.q-b.q)):=by
 refine aj func262 ?_;refine gc (CK b hb) ?_;refine gc (rm a (rt (-b.q)) ha hb.qs.neg.ok) ?_;refine gD ?_;refine af ?_;rw[bK,<- Rat.sub_eq_add_neg];rfl
theorem F7(a b:Rt)(ha:a.ok)(hb:b.ok):FP 286 [a.av,b.av] (qA (a.q*b.q)):=by
 have za:=ha.qs;have zb:=hb.qs;have m1:=za.mul zb;refine aj func286 ?_;refine gc (lF a ha) ?_;refine gc (lF b hb) ?_;refine gc (mH za.num zb.num) ?_;refine gc (mH za.den zb.den) ?_;refine gc (tC m1.2.1 m1.2.2.1 (Int.mul_ne_zero (by have:=a.q.den_nz;omega) (by have:=b.q.den_nz;omega))) ?_;refine gD ?_;refine af ?_;rw[By];rfl
theorem Ce(a b:Rt)(ha:a.ok)(hb:b.ok):FP 385 [a.av,b.av] (.tup [qA (a.q/b.q),cq (if b.q=0 then 8 else 0)]):=by
 have za:=ha.qs;have zb:=hb.qs;have m1:=za.mul zb;refine aj func385 ?_;refine gc (lF a ha) ?_;refine gc (lF b hb) ?_;refine gc (mH za.num zb.den) ?_;refine gc (mH za.den zb.num) ?_;refine gc (Nv m1.1 m1.2.2.2) ?_;refine gD ?_;refine bE ?_
 have e1:((a.q.den:Int)*b.q.num=0)=(b.q=0):=by
  apply propext;rw[<- Rat.num_eq_zero,Int.mul_eq_zero];exact⟨fun h=>h.resolve_left (by have:=a.q.den_nz;omega),.inr⟩
 simp only[AT,e1];rfl
theorem x5{p:Pse}(h:p.ok=true):p.turn.err=0/\p.at_.x.valid=true/\p.at_.y.valid=true:=by
 unfold Pse.ok at h;simp only[and_eq_true,decide_eq_true_eq]at h;exact⟨h.1.1,h.1.2,h.2⟩
structure Pq where
  c:List Rat
  s:List Rat
  x:List Rat
  y:List Rat
def Pq.av(p:Pq):AV:=.agg [nA p.c,nA p.s,nA p.x,nA p.y]
structure Pq.ok(n e:Nat)(p:Pq):Prop where
  c:Nm n e p.c
  s:Nm n e p.s
  x:Nm n e p.x
  y:Nm n e p.y
def bG(p:Pse):Pq:=⟨sh 0 (dR p.turn.half p.turn.t.q:Rat),sh 0 (d5 p.turn.half p.turn.t.q:Rat),sh 0 (p.at_.x.q:Rat),sh 0 (p.at_.y.q:Rat)⟩
def Cq(ps:List Pse):Nat:=if ps.all Pse.ok=true then 0 else 2
def ofL(ps:List Pse):List Pq:=if ps.all Pse.ok=true then ps.map bG else[]
def CT(bs:List Pq):AV:=.agg [.lst 1 [],.lst 4 (bs.map Pq.av),.lst 1 []]
theorem JN{bs:List Pq}:Sub (.agg [.v (.slice none 0 0),.lst 4 (bs.map Pq.av),.v (.slice none 0 0)]) (CT bs):=.agg (.cons (.nil _ _ _) (.cons (.refl _) (.cons (.nil _ _ _) .nil))) rfl
theorem oP{half:Bool}{t:Rat}{e:Nat}(h:Qb e t):Qb (4*e+6) (dR half t):=by
 unfold dR;split
 ·exact Qb.one.neg.mono oz
 ·exact((Qb.one.sub (h.mul h)).div (Qb.one.add (h.mul h))).mono oz
theorem pC{half:Bool}{t:Rat}{e:Nat}(h:Qb e t):Qb (4*e+6) (d5 half t):=by
 unfold d5;split
 ·exact Qb.zero.mono oz
 ·exact((h.add h).div (Qb.one.add (h.mul h))).mono oz
theorem oX{n e:Nat}{q:Rat}(hn:n<=5)(h:Qb e q):Nm n (e+e) (sh 0 (q:Rat)):=by
 have h1:Nl n (sh 0 (q:Rat)):=by
  have:Nl 0 (sh 0 (q:Rat)):=di 0 _;rcases this with h |⟨j,hj,h⟩
  ·exact .inl h
  ·exact .inr ⟨j,by omega,h⟩
 refine⟨hn,h1,?_⟩
 have hm:∀p∈sh 0 (q:Rat),Qb e p:=by
  intro p hp
  have:p=q:=by
   unfold sh at hp;split at hp
   ·cases hp
   ·exact List.mem_singleton.1 hp
  rw[this];exact h
 obtain⟨D,N,h3,h4,h5⟩:=uN hm
 have h6:(sh 0 (q:Rat)).length<=1:=by
  rcases(di 0 (q:Rat))with h |⟨j,hj,h⟩
  ·rw[h];simp
  ·have : j = 0 := by omega
   subst this;rw[h];simp
 have h7:e*(sh 0 (q:Rat)).length<=e*1:=mul_le_mul_left _ h6;exact⟨D,N,h3,le_trans h4 (b9 oz),le_trans h5 (b9 oz)⟩
theorem Ao{n:Nat}{p:Pse}(hn:n<=5)(h:p.lok):(bG p).ok n 1000 :=
 ⟨(oX hn (oP h.t)).mono oz,(oX hn (pC h.t)).mono oz,(oX hn h.x).mono oz,(oX hn h.y).mono oz⟩
def Lk(ts:LL)(b:Pl)(w:Pq):Bool :=
  eG ts (ac ts.length (lq b.c)) (ac ts.length w.c)&&eG ts (ac ts.length (lq b.s)) (ac ts.length w.s)&&eG ts (ac ts.length (lq b.x)) (ac ts.length w.x)&&eG ts (ac ts.length (lq b.y)) (ac ts.length w.y)
def mE(a:As)(ps:List Pse):Nat :=
  if bq a.rs≠0 then bq a.rs else if Cq ps≠0 then Cq ps else if a.bs.length≠ps.length then 10 else fH (a.bs.map (fun b=>bb a.rs b.l))
def mB(a:As)(ps:List Pse):Bool:=decide (mE a ps=0)&&(a.bs.zip ps).all (fun z=>Lk (llq a.rs) z.1 (bG z.2))
theorem w7{rs:List (List Rt)}{b:Pl}{E:Nat}(h:bb rs b.l=0)(hb:∀x∈b.l,NR x E)(h5:rs.length<=5) :
  b.av=Pq.av ⟨lq b.c,lq b.s,lq b.x,lq b.y⟩/\Pq.ok rs.length E ⟨lq b.c,lq b.s,lq b.x,lq b.y⟩:=by
 have h1:=(jp h).2
 have g:∀x∈b.l,nR x=nA (lq x)/\Nm rs.length E (lq x):=fun x hx=>by
  obtain⟨e1,e2⟩:=(hb x hx).num (h1 x hx);exact⟨e1,h5,e2,(hb x hx).cb⟩
 have c:=g b.c (by simp[Pl.l]);have s:=g b.s (by simp[Pl.l]);have x:=g b.x (by simp[Pl.l]);have y:=g b.y (by simp[Pl.l]);exact⟨by unfold Pl.av Pq.av;rw[c.1,s.1,x.1,y.1],c.2,s.2,x.2,y.2⟩
instance:Inhabited Tn:=⟨⟨⟨false,[],[]⟩,false⟩⟩
def dB(n:Nat)(ok:Nat->Bool):Option Nat:=(List.range n).find? (fun i=>!ok i)
theorem iW{n i:Nat}{ok:Nat->Bool}(hi:i<n)(h:∀j,j<i->ok j=true)(he:ok i=false):dB n ok=some i:=by
 unfold dB;rw[List.find?_range_eq_some];exact⟨by rw[he];rfl,by simpa using hi,fun j hj=>by rw[h j hj];rfl⟩
theorem jB{n:Nat}{ok:Nat->Bool}(h:∀j,j<n->ok j=true):dB n ok=none:=by
 unfold dB;rw[List.find?_range_eq_none];exact fun j hj=>by rw[h j hj];rfl
theorem QM{n:Nat}{ok:Nat->Bool}(h:dB n ok=none):∀j,j<n->ok j=true:=by
 unfold dB at h;rw[List.find?_range_eq_none]at h;intro j hj;have:=h j hj;simpa using this
def ni:Option Nat->Int
  |none=>-1
  |some i=>i
def sC:Pq:=⟨[1],[],[],[]⟩
abbrev fo(ts:LL)(x:List Rt):T ts.length:=ac ts.length (lq x)
def m9(ts:LL)(b:Pl)(m:Mk):T ts.length×T ts.length:=(qw ts (fo ts b.c) (fo ts b.s) (fo ts b.x) m.x.q m.y.q,rq ts (fo ts b.c) (fo ts b.s) (fo ts b.y) m.x.q m.y.q)
def fF(l:Li)(a:As)(body pt:Int):T (llq a.rs).length×T (llq a.rs).length:=m9 (llq a.rs) (a.bs.getD body.toNat default) ((cF l body).getD pt.toNat default)
def mY(l:Li)(a:As)(j:Jt):Bool :=
  if j.kind=0 then eG (llq a.rs) (fF l a j.a j.point).1 (fF l a j.b j.on).1&&eG (llq a.rs) (fF l a j.a j.point).2 (fF l a j.b j.on).2
  else decide (T.sgn (ao (llq a.rs)) (llq a.rs).length (rF (llq a.rs) (fF l a j.b j.on).1 (fF l a j.b j.on).2 (fF l a j.b j.to).1 (fF l a j.b j.to).2 (fF l a j.a j.point).1 (fF l a j.a j.point).2)=0)
def CQ(ts:LL)(b:Pl)(x:Tn):Bool :=
  eG ts (fo ts b.c) (ac ts.length (sh 0 (dR x.half x.t.q:Rat)))&&eG ts (fo ts b.s) (ac ts.length (sh 0 (d5 x.half x.t.q:Rat)))
def C0(l:Li)(xs:List Tn)(a:As)(i:Nat):Bool:=CQ (llq a.rs) (a.bs.getD (l.dv.getD i default).body.toNat default) (xs.getD i default)
theorem dZ{l:Li}(h:aP l=0):iu l=0/\eM l=0/\iI l=0/\l.bo.length<=8/\l.bo.length≠0:=by
 unfold aP at h;split at h
 ·cases h
 ·split at h
  ·cases h
  ·split at h
   ·cases h
   ·split at h
    ·rename_i h1;exact absurd h h1
    ·rename_i g1 _ h1;split at h
     ·rename_i h2;exact absurd h h2
     ·rename_i h2;exact⟨Decidable.not_not.1 h1,Decidable.not_not.1 h2,h,by omega,by omega⟩
theorem IE{l:Li}(h:aP l=0){i:Nat}{j:Jt}(hj:l.jo[i]?=some j):eF l j=0:=by
 have h1:=(dZ h).2.1;unfold eM at h1;split at h1
 ·cases h1
 ·have h2:=uQ h1 i (List.getElem?_eq_some_iff.1 hj).1;unfold f6 at h2;rw[aw hj]at h2;split at h2
  ·cases h2
  ·split at h2
   ·cases h2
   ·exact h2
theorem cH{l:Li}(h:aP l=0){i:Nat}{j:Jt}(hj:l.jo[i]?=some j) :
  bA j.a l.bo.length=true/\bA j.b l.bo.length=true/\bA j.point (cF l j.a).length=true/\bA j.on (cF l j.b).length=true/\(j.kind≠0->bA j.to (cF l j.b).length=true):=by
 have h1:=IE h hj;unfold eF at h1;split at h1
 ·cases h1
 ·split at h1
  ·cases h1
  ·rename_i h2;split at h1
   ·cases h1
   ·split at h1
    ·cases h1
    ·rename_i h3;have a1:bA j.a l.bo.length = true:=by cases h:bA j.a l.bo.length <;> simp_all
     have a2:bA j.b l.bo.length=true:=by cases h:bA j.b l.bo.length <;> simp_all
     have a3:bA j.point (cF l j.a).length=true:=by cases h:bA j.point (cF l j.a).length <;> simp_all
     have a4:bA j.on (cF l j.b).length=true:=by cases h:bA j.on (cF l j.b).length <;> simp_all
     refine⟨a1,a2,a3,a4,fun hk=>?_⟩;rw[if_neg hk]at h1;split at h1
     ·cases h1
     ·rename_i h4;cases h:bA j.to (cF l j.b).length <;> simp_all
theorem mb{l:Li}(h:aP l=0){i:Nat}{d:Dr}(hd:l.dv[i]?=some d):bA d.body l.bo.length=true:=by
 have h1:=(dZ h).2.2.1;unfold iI at h1;split at h1
 ·cases h1
 ·have h2:=uQ h1 i (List.getElem?_eq_some_iff.1 hd).1;unfold d6 at h2;rw[aw hd]at h2;split at h2
  ·cases h2
  ·split at h2
   ·cases h2
   ·split at h2
    ·cases h2
    ·rename_i h3;cases h:bA d.body l.bo.length <;> simp_all
theorem Ix{l:Li}(h:aP l=0){n k:Nat}{b:Bd}{m:Mk}(hb:l.bo[n]?=some b)(hm:b.pts[k]?=some m):m.x.valid=true/\m.y.valid=true:=by
 have h2:=uQ (dZ h).1 n (List.getElem?_eq_some_iff.1 hb).1;unfold er at h2;rw[aw hb]at h2;split at h2
 ·cases h2
 ·split at h2
  ·cases h2
  ·split at h2
   ·cases h2
   ·have h3:=uQ h2 k (List.getElem?_eq_some_iff.1 hm).1;unfold d9 at h3;rw[aw hm]at h3;split at h3
    ·cases h3
    ·split at h3
     ·cases h3
     ·split at h3
      ·assumption
      ·cases h3
structure Good(l:Li)(a:As):Prop where
  lo:l.ok
  li:aP l=0
  al:AL a
  ck:bq a.rs=0
  cb:∀b∈a.bs,bb a.rs b.l=0
  ln:a.bs.length=l.bo.length
theorem Good.tw{l:Li}{a:As}(h:Good l a):Tw (llq a.rs) 40000/\cz a.rs=aO (llq a.rs)/\a.rs.length<=5/\(llq a.rs).length=a.rs.length:=by
 obtain⟨tw,hta⟩:=cA h.al.tr h.ck;have h5:a.rs.length<=5:=by have:=tw.five;rwa [length_map]at this
 exact⟨tw,hta,h5,length_map _⟩
theorem Good.pl{l:Li}{a:As}(h:Good l a){n:Nat}{b:Pl}(hb:a.bs[n]?=some b) :
  b.av=Pq.av ⟨lq b.c,lq b.s,lq b.x,lq b.y⟩/\Pq.ok (llq a.rs).length 4000 ⟨lq b.c,lq b.s,lq b.x,lq b.y⟩:=by
 have h1:=w7 (h.cb b (mem_of_getElem? hb)) (h.al.nr b (mem_of_getElem? hb)) h.tw.2.2.1;rw[h.tw.2.2.2];exact h1
structure AtP(l:Li)(a:As)(body pt:Int)(n k:Nat)(bd:Bd)(m:Mk)(b:Pl):Prop where
  hn:body=n
  hk:pt=k
  gbd:l.bo[n]?=some bd
  gm:bd.pts[k]?=some m
  gb:a.bs[n]?=some b
  eq:fF l a body pt=m9 (llq a.rs) b m
  mx:m.x.av=qA m.x.q
  my:m.y.av=qA m.y.q
  qx:Qb 4000 m.x.q
  qy:Qb 4000 m.y.q
theorem Good.at{l:Li}{a:As}(h:Good l a){body pt:Int}(h1:bA body l.bo.length=true)(h2:bA pt (cF l body).length=true):∃n k bd m b,AtP l a body pt n k bd m b:=by
 obtain⟨bd,g1,g2,g3,g4⟩:=oV h1;rw[g2]at h2;obtain⟨m,g5,g6,g7,g8⟩:=qJ h2;obtain⟨b,hb⟩:=aH (l:=a.bs) (i:=body.toNat) (by rw[h.ln];exact(List.getElem?_eq_some_iff.1 g1).1);have hv:=Ix h.li g1 g5;have ho:=(h.lo.bo bd g3).pts m g7
 exact ⟨body.toNat, pt.toNat, bd, m, b, by omega, by omega, g1, g5, hb, by unfold fF; rw [aw hb, g2, g6],
  by rw[show qA m.x.q=(rt m.x.q).av from rfl,<- Rt.eq_rt ho.x hv.1],by rw[show qA m.y.q=(rt m.y.q).av from rfl,<- Rt.eq_rt ho.y hv.2],ho.qx.mono oz,ho.qy.mono oz⟩
theorem wV{ts:LL}{r e f:Nat}(tw:Tw ts r){b:Pl}{m:Mk}(hb:Pq.ok ts.length e ⟨lq b.c,lq b.s,lq b.x,lq b.y⟩)(hx:Qb f m.x.q)(hy:Qb f m.y.q) :
  Nm ts.length (3*e+2*f+2*kB r ts.length+10) (sh ts.length (m9 ts b m).1)/\Nm ts.length (3*e+2*f+2*kB r ts.length+10) (sh ts.length (m9 ts b m).2):=by
 have nx:=Nm.ofQ tw.five (Cb.one hx);have ny:=Nm.ofQ tw.five (Cb.one hy);have h1:=(tM tw hb.c hb.s nx ny).add hb.x;rw[xh]at h1;have h2:=(uG tw hb.c hb.s nx ny).add hb.y;rw[uO]at h2;exact⟨h1.mono oz,h2.mono oz⟩
theorem L5{n:Nat}(hn:n<=5):sC.ok n 4000:=by
 have h1:Nm n 4000 ([1]:List Rat):=by
  have:=oX (q:=1) hn Qb.one;have e:sh 0 (1:Rat)=([1]:List Rat):=rfl;rw[e]at this;exact this.mono oz
 have h0:Nm n 4000 ([]:List Rat):=⟨hn,.inl rfl,Cb.nil.mono oz⟩
 exact⟨h1,h0,h0,h0⟩
structure DrP(l:Li)(xs:List Tn)(a:As)(i:Nat)(d:Dr)(n:Nat)(b:Pl)(x:Tn):Prop where
  hn:d.body=n
  gb:a.bs[n]?=some b
  gx:xs[i]?=some x
  ec:nR b.c=nA (lq b.c)
  es:nR b.s=nA (lq b.s)
  av:b.av=Pq.av ⟨lq b.c,lq b.s,lq b.x,lq b.y⟩
  po:Pq.ok (llq a.rs).length 4000 ⟨lq b.c,lq b.s,lq b.x,lq b.y⟩
  eq:C0 l xs a i=CQ (llq a.rs) b x
theorem Good.dr{l:Li}{a:As}(h:Good l a){xs:List Tn}(hx:∀x∈xs,x.t.ok/\x.err=0/\Qb 1000 x.t.q)(hxl:xs.length=l.dv.length){i:Nat}{d:Dr}(hd:l.dv[i]?=some d):∃n b x,DrP l xs a i d n b x:=by
 have h1:=dM (mb h.li hd);obtain⟨b,hb⟩:=aH (l:=a.bs) (i:=d.body.toNat) (by rw[h.ln];omega);obtain⟨x,hxx⟩:=aH (l:=xs) (i:=i) (by rw[hxl];exact(List.getElem?_eq_some_iff.1 hd).1);obtain⟨g1,g2⟩:=h.pl hb;have g3:=(jp (h.cb b (mem_of_getElem? hb))).2;have g4:=h.al.nr b (mem_of_getElem? hb)
 exact ⟨d.body.toNat, b, x, by omega, hb, hxx, ((g4 b.c (by simp [Pl.l])).num (g3 b.c (by simp [Pl.l]))).1, ((g4 b.s (by simp [Pl.l])).num (g3 b.s (by simp [Pl.l]))).1, g1, g2,
  by unfold C0;rw[aw hd,aw hb,aw hxx]⟩
structure Gr where
  kind:Int
  bo:List Int
  jo:List Int
  driver:Int
instance:Inhabited Gr:=⟨⟨0,[],[],0⟩⟩
def Gr.av(g:Gr):AV:=.agg [i64 g.kind,.lst 1 (g.bo.map i64),.lst 1 (g.jo.map i64),i64 g.driver]
def kn(k:List Bool)(i:Int):Bool:=k.getD i.toNat false
def dq(n:Nat)(b:Int):List Bool:=(List.replicate n false).set b.toNat true
def oJ(l:Li)(b:Int):Bool:=l.dv.any (fun d=>decide (d.body=b))
def freeB(l:Li)(kw:List Bool)(b:Int):Bool:=!kn kw b&&!oJ l b
def lQ(kind body:Int)(oth:List Bool)(j:Jt):Bool:=decide (j.kind=kind)&&(decide (j.a=body)&&kn oth j.b||decide (j.b=body)&&kn oth j.a)
def jointI(l:Li)(kind body:Int)(oth:List Bool):Int:=ni (dB l.jo.length (fun i=>!lQ kind body oth (l.jo.getD i default)))
def drHit(l:Li)(kw:List Bool)(i:Nat):Bool:=!kn kw (l.dv.getD i default).body&&decide (0<=jointI l 0 (l.dv.getD i default).body kw)
def driverG(l:Li)(kw:List Bool):Option Gr :=
  (dB l.dv.length (fun i=>!drHit l kw i)).map fun i=>⟨0,[(l.dv.getD i default).body],[jointI l 0 (l.dv.getD i default).body kw],i⟩
def prHit(l:Li)(kw:List Bool)(i k:Nat):Bool :=
  (freeB l kw i&&freeB l kw k)&&(decide (0<=jointI l 0 i kw)&&decide (0<=jointI l 0 k kw)&&decide (0<=jointI l 0 i (dq l.bo.length k)))
def prAt(l:Li)(kw:List Bool)(i:Nat):Option Nat:=(dB (l.bo.length-(i+1)) (fun k=>!prHit l kw i (i+1+k))).map (·+(i+1))
def prG(l:Li)(kw:List Bool)(i k:Nat):Gr:=⟨1,[i,k],[jointI l 0 i kw,jointI l 0 k kw,jointI l 0 i (dq l.bo.length k)],0⟩
def pairG(l:Li)(kw:List Bool):Option Gr :=
  (dB l.bo.length (fun i=>(prAt l kw i).isNone)).map fun i=>match prAt l kw i with
    |some k=>prG l kw i k
    |none=>default
def sgHit(l:Li)(kw:List Bool)(i:Nat):Bool:=freeB l kw i&&(decide (0<=jointI l 0 i kw)&&decide (0<=jointI l 1 i kw))
def sgG(l:Li)(kw:List Bool)(i:Nat):Gr :=
  ⟨if(l.jo.getD (jointI l 1 i kw).toNat default).a=i then 2 else 3,[i],[jointI l 0 i kw,jointI l 1 i kw],0⟩
def singleG(l:Li)(kw:List Bool):Option Gr:=(dB l.bo.length (fun i=>!sgHit l kw i)).map (sgG l kw)
def nextG(l:Li)(kw:List Bool):Option Gr:=(driverG l kw).or ((pairG l kw).or (singleG l kw))
def bW(kw:List Bool)(bs:List Int):List Bool:=bs.foldl (fun k b=>k.set b.toNat true) kw
def findFrom(l:Li):Nat->List Bool->List Gr->List Bool×List Gr
  |0,kw,out=>(kw,out)
  |n+1,kw,out=>match nextG l kw with
    |none=>(kw,out)
    |some g=>findFrom l n (bW kw g.bo) (out++[g])
def findG(l:Li):List Gr:=(findFrom l l.bo.length (dq l.bo.length 0) []).2
def cP(l:Li):List Bool:=(findG l).foldl (fun k g=>bW k g.bo) (dq l.bo.length 0)
def fe(l:Li):List Bool:=(findG l).foldl (fun k g=>bW k g.jo) (List.replicate l.jo.length false)
def fV(k:List Bool):List Int:=((List.range k.length).filter (fun i=>!k.getD i false)).map (fun i:Nat=>((i:Nat):Int))
def splitE(l:Li):Nat:=if(fV (cP l)).length+(fV (fe l)).length=0 then 0 else 7
def splitG(l:Li):List Gr:=if splitE l=0 then findG l else[]
theorem B7{kind body:Int}{oth:List Bool}{j:Jt}{va vb:Bool}(ea:kn oth j.a=va)(eb:kn oth j.b=vb) :
  cond (aa .eql j.kind kind) (cond (cond (aa .eql j.a body) vb false) true (cond (aa .eql j.b body) va false)) false=lQ kind body oth j:=by
 unfold lQ;rw[rQ,rQ,rQ,ea,eb,gX,gX,gX,se]
theorem jv(n:Nat)(b:Int):(dq n b).length=n:=by unfold dq;simp
theorem k8:∀(bs:List Int)(k:List Bool),(bW k bs).length=k.length
 |[],k=>rfl
 |b::bs,k=>by
  show(bW (k.set b.toNat true) bs).length=_;rw[k8 bs];simp
theorem iH{n i:Nat}{ok:Nat->Bool}(h:dB n ok=some i):i<n/\ok i=false:=by
 unfold dB at h;rw[List.find?_range_eq_some]at h;exact⟨by simpa using h.2.1,by simpa using h.1⟩
theorem n8{l:Li}{kind body:Int}{oth:List Bool}:-1<=jointI l kind body oth/\jointI l kind body oth<l.jo.length:=by
 unfold jointI;cases h:dB l.jo.length (fun i=>!lQ kind body oth (l.jo.getD i default))with
 |none=>exact⟨by decide,by show(-1:Int)<_;omega⟩
 |some i=>have:=(iH h).1;exact⟨by show(-1:Int)<=(i:Int);omega,by show(i:Int)<_;omega⟩
structure GrOk(l:Li)(g:Gr):Prop where
  b:∀x∈g.bo,0<=x/\x<l.bo.length
  j:∀x∈g.jo,0<=x/\x<l.jo.length
  lb:g.bo.length<=2
  lj:g.jo.length<=3
theorem Jw{l:Li}(hl:aP l=0){kw:List Bool}{g:Gr}(h:driverG l kw=some g):GrOk l g:=by
 unfold driverG at h;rw[map_eq_some_iff]at h;obtain⟨i,hi,rfl⟩:=h;obtain⟨h1,h2⟩:=iH hi;obtain⟨d,hd⟩:=aH h1;have h3:=dM (mb hl hd);unfold drHit at h2;simp only[Bool.not_eq_false',and_eq_true,decide_eq_true_eq]at h2;rw[aw hd]at h2 ⊢;have h4:=n8 (l:=l) (kind:=0) (body:=d.body) (oth:=kw);refine⟨fun x hx=>?_,fun x hx=>?_,by simp,by simp⟩
 ·rw[List.mem_singleton.1 hx];exact h3
 ·rw[List.mem_singleton.1 hx];exact⟨h2.2,h4.2⟩
theorem RM{l:Li}{kw:List Bool}{g:Gr}(h:pairG l kw=some g):GrOk l g:=by
 unfold pairG at h;rw[map_eq_some_iff]at h;obtain⟨i,hi,h⟩:=h;obtain⟨h1,h2⟩:=iH hi;split at h
 ·rename_i k hk;subst h;unfold prAt at hk;rw [map_eq_some_iff] at hk;obtain ⟨k',hk',rfl⟩:=hk;obtain ⟨h3,h4⟩:=iH hk';rw [show i + 1 + k' = k' + (i + 1) by omega] at h4;unfold prHit at h4;simp only [Bool.not_eq_false',and_eq_true,decide_eq_true_eq] at h4;obtain ⟨_,⟨j1,j2⟩,j3⟩:=h4;refine ⟨fun x hx=>?_,fun x hx=>?_,by simp [prG],by simp [prG]⟩
  ·simp only[prG,mem_cons,not_mem_nil,or_false]at hx;rcases hx with rfl |rfl <;> constructor <;> omega
  ·simp only[prG,mem_cons,not_mem_nil,or_false]at hx;rcases hx with rfl |rfl |rfl
   ·exact⟨j1,n8.2⟩
   ·exact⟨j2,n8.2⟩
   ·exact⟨j3,n8.2⟩
 ·rename_i hk;rw[hk]at h2;cases h2
theorem NE{l:Li}{kw:List Bool}{g:Gr}(h:singleG l kw=some g):GrOk l g:=by
 unfold singleG at h;rw[map_eq_some_iff]at h;obtain⟨i,hi,rfl⟩:=h;obtain⟨h1,h2⟩:=iH hi;unfold sgHit at h2;simp only[Bool.not_eq_false',and_eq_true,decide_eq_true_eq]at h2;obtain⟨_,j1,j2⟩:=h2;refine⟨fun x hx=>?_,fun x hx=>?_,by simp[sgG],by simp[sgG]⟩
 ·simp only[sgG,mem_cons,not_mem_nil,or_false]at hx;subst hx;constructor <;> omega
 ·simp only[sgG,mem_cons,not_mem_nil,or_false]at hx;rcases hx with rfl |rfl
  ·exact⟨j1,n8.2⟩
  ·exact⟨j2,n8.2⟩
theorem yL{l:Li}(hl:aP l=0){kw:List Bool}{g:Gr}(h:nextG l kw=some g):GrOk l g:=by
 unfold nextG at h;cases h1:driverG l kw with
 |some g'=>rw[h1]at h;cases h;exact Jw hl h1
 |none =>
  rw[h1]at h;cases h2:pairG l kw with
  |some g'=>rw[h2]at h;cases h;exact RM h2
  |none=>rw[h2]at h;exact NE h
theorem HU{l:Li}(hl:aP l=0):∀(n:Nat)(kw:List Bool)(out:List Gr),(∀g∈out,GrOk l g)->(∀g∈(findFrom l n kw out).2,GrOk l g)/\(findFrom l n kw out).2.length<=out.length+n
 |0,kw,out,h=>⟨h,by simp[findFrom]⟩
 |n+1,kw,out,h=>by
  unfold findFrom;cases hg:nextG l kw with
  |none=>exact⟨h,by simp⟩
  |some g =>
   have h1:=HU hl n (bW kw g.bo) (out++[g]) (fun x hx=>by
    rcases List.mem_append.1 hx with hx |hx
    ·exact h x hx
    ·rw[List.mem_singleton.1 hx];exact yL hl hg)
   refine⟨h1.1,?_⟩;have:=h1.2;rw[length_append]at this;show(findFrom l n (bW kw g.bo) (out++[g])).2.length<=_;simp only[length_cons,length_nil]at this;omega
theorem sW{l:Li}(hl:aP l=0):(∀g∈findG l,GrOk l g)/\(findG l).length<=8:=by
 have h:=HU hl l.bo.length (dq l.bo.length 0) [] (fun g hg=>by cases hg);have h8:=(dZ hl).2.2.2.1;exact⟨h.1,by have:=h.2;simp only[length_nil]at this;unfold findG;omega⟩
def jX(j:Jt)(b:Int):Int:=if b=j.a then j.b else if b=j.b then j.a else -1
def vG(kind body:Int)(p:Int->Bool)(j:Jt):Bool:=decide (j.kind=kind)&&(decide (0<=jX j body)&&p (jX j body))
def gJ(l:Li)(kind body:Int)(p:Int->Bool):Int:=ni (dB l.jo.length (fun i=>!vG kind body p (l.jo.getD i default)))
theorem KT{b:Bool}{z:Int}(h:cond b (aa .geq z 0) false=true):0<=z:=by
 cases b
 ·cases h
 ·exact of_decide_eq_true h
theorem OV{a k z:Int}{q:Bool}:cond (cond (aa .eql a k) (aa .geq z 0) false) q false=(decide (a=k)&&(decide (0<=z)&&q)):=by
 rw[rQ,show aa .geq z 0=decide (0<=z)from rfl,gX,gX,Bool.and_assoc]
theorem V8{l:Li}(hli:aP l=0){i:Nat}{j:Jt}(hj:l.jo[i]?=some j)(b:Int):jX j b<l.bo.length:=by
 obtain⟨i1,i2,_⟩:=cH hli hj;have b1:=dM i1;have b2:=dM i2;unfold jX;split
 ·omega
 ·split <;> omega
theorem TP{n:Nat}{ok ok':Nat->Bool}(h:∀i,i<n->ok i=ok' i):dB n ok=dB n ok':=by
 unfold dB
 have:∀l:List Nat,(∀i∈l,i<n)->l.find? (fun i=>!ok i)=l.find? (fun i=>!ok' i):=by
  intro l
  induction l with
  |nil=>intro _;rfl
  |cons a l ih =>
   intro hl;simp only[List.find?_cons,h a (hl a (by simp)),ih (fun i hi=>hl i (by simp[hi]))]
 exact this _ (fun i hi=>List.mem_range.1 hi)
theorem yr{l:Li}(hli:aP l=0){kind body:Int}{p:Int->Bool}{oth:List Bool}(h:∀o:Int,0<=o->o<l.bo.length->p o=kn oth o):gJ l kind body p=jointI l kind body oth:=by
 unfold gJ jointI;rw[TP];intro i hi;obtain⟨j,hj⟩:=aH hi;rw[aw hj];obtain⟨i1,i2,_⟩:=cH hli hj;have b1:=dM i1;have b2:=dM i2;congr 1;unfold vG lQ;congr 1;unfold jX
 by_cases h1:body=j.a
 ·subst h1;rw[if_pos rfl,h _ b2.1 b2.2]
  by_cases h2:j.b=j.a
  ·simp[h2,b1.1]
  ·simp[h2,b2.1]
 ·rw[if_neg h1]
  by_cases h2:body=j.b
  ·subst h2;rw[if_pos rfl,h _ b1.1 b1.2];have h3:¬j.a=j.b:=fun e=>h1 e.symm
   simp[h3,b1.1]
  ·rw[if_neg h2];have h3:¬j.a=body:=fun e=>h1 e.symm
   have h4:¬j.b=body:=fun e=>h2 e.symm
   simp[h3,h4]
theorem FC{k:List Bool}{i:Nat}{b:Int}(h0:0<=b)(hi:i<k.length):kn (k.set i true) b=(decide (b=i)||kn k b):=by
 unfold kn;rw[getD_eq_getElem?_getD,List.getElem?_set,getD_eq_getElem?_getD]
 by_cases h:b=i
 ·rw[decide_eq_true h,Bool.true_or,if_pos oz];rw[if_pos oz];rfl
 ·rw[decide_eq_false h,Bool.false_or,if_neg oz]
theorem Dk:∀{bs:List Int}{k:List Bool}{b:Int},0<=b->(∀x∈bs,0<=x/\x<k.length)->kn (bW k bs) b=(bs.any (fun x=>decide (x=b))||kn k b)
 |[],k,b,h0,h=>by simp[bW]
 |x::bs,k,b,h0,h=>by
  show kn (bW (k.set x.toNat true) bs) b=_;obtain⟨hx0,hx1⟩:=h x (by simp);rw[Dk h0 (fun y hy=>by rw[length_set];exact h y (by simp[hy])),FC h0 oz,List.any_cons];have e:decide (b=(x.toNat:Int))=decide (x=b):=decide_eq_decide.2 oz;rw[e];cases decide (x=b) <;> simp
theorem CU(n:Nat)(b:Int):kn (List.replicate n false) b=false:=by
 unfold kn;rw[getD_eq_getElem?_getD,List.getElem?_replicate];split <;> rfl
def cc(l:Li):List Bool:=bW (List.replicate l.bo.length false) (l.dv.map Dr.body)
theorem uf(l:Li):(cc l).length=l.bo.length:=by unfold cc;rw[k8,length_replicate]
theorem Md{l:Li}(hli:aP l=0){b:Int}(h0:0<=b):kn (cc l) b=oJ l b:=by
 unfold cc oJ;rw[Dk h0,CU,Bool.or_false,List.any_map]
 ·rfl
 ·intro x hx;obtain⟨d,hd,rfl⟩:=List.mem_map.1 hx;obtain⟨i,hi⟩:=List.mem_iff_getElem?.1 hd;have:=dM (mb hli hi);rw[length_replicate];omega
theorem yg{n:Nat}{b o:Int}(h0:0<=o)(hb0:0<=b)(hb:b<n):kn (dq n b) o=decide (o=b):=by
 unfold dq;rw[FC h0 (by rw[length_replicate];omega),CU,Bool.or_false];exact decide_eq_decide.2 oz
def dQ(k:List Bool):Nat:=k.countP (fun x=>!x)
theorem SK{k:List Bool}{i:Nat}(h:k[i]?=some false):dQ (k.set i true)+1=dQ k:=by
 unfold dQ;have hi:=(List.getElem?_eq_some_iff.1 h).1;have he:=(List.getElem?_eq_some_iff.1 h).2;rw[List.countP_set hi,he];have:0<k.countP (fun x=>!x):=List.countP_pos_iff.2 ⟨false,mem_of_getElem? h,rfl⟩;simp;omega
theorem Kd(k:List Bool)(i:Nat):dQ (k.set i true)<=dQ k:=by
 by_cases hi:i<k.length
 ·unfold dQ;rw[List.countP_set hi];simp
 ·rw[List.set_eq_of_length_le oz];exact le_refl _
theorem H0:∀(bs:List Int)(k:List Bool),dQ (bW k bs)<=dQ k
 |[],k=>le_refl _
 |x::bs,k=>le_trans (H0 bs (k.set x.toNat true)) (Kd k _)
theorem JB{x:Int}{bs:List Int}{k:List Bool}(h:k[x.toNat]?=some false):dQ (bW k (x::bs))<dQ k:=by
 have h1:=H0 bs (k.set x.toNat true);have h2:=SK h;show dQ (bW (k.set x.toNat true) bs)<_;omega
theorem zD{k:List Bool}{b:Int}(h:kn k b=false)(h1:b.toNat<k.length):k[b.toNat]?=some false:=by
 unfold kn at h;rw[getD_eq_getElem?_getD,getElem?_eq_getElem h1]at h;rw[getElem?_eq_getElem h1];simpa using h
theorem Uh{l:Li}(hl:aP l=0){kw:List Bool}(hk:kw.length=l.bo.length){g:Gr}(h:nextG l kw=some g):∃x bs,g.bo=x::bs/\kw[x.toNat]?=some false:=by
 unfold nextG at h;cases h1:driverG l kw with
 |some g' =>
  rw[h1]at h;cases h
  unfold driverG at h1;rw[map_eq_some_iff]at h1;obtain⟨i,hi,rfl⟩:=h1;obtain⟨h2,h3⟩:=iH hi;obtain⟨d,hd⟩:=aH h2;have h4:=dM (mb hl hd);rw[aw hd]at *;unfold drHit at h3;rw[aw hd]at h3;simp only[Bool.not_eq_false',and_eq_true,Bool.not_eq_true',decide_eq_true_eq]at h3;exact⟨_,_,rfl,zD h3.1 oz⟩
 |none =>
  rw[h1]at h;cases h2:pairG l kw with
  |some g' =>
   rw[h2]at h;cases h
   unfold pairG at h2;rw[map_eq_some_iff]at h2;obtain⟨i,hi,h2⟩:=h2;obtain⟨h3,h4⟩:=iH hi;split at h2
   ·rename_i k hk';subst h2;unfold prAt at hk';rw[map_eq_some_iff]at hk';obtain⟨k',hk',rfl⟩:=hk';obtain⟨h5,h6⟩:=iH hk';unfold prHit freeB at h6;simp only[Bool.not_eq_false',and_eq_true,Bool.not_eq_true',decide_eq_true_eq]at h6;exact⟨_,_,rfl,zD h6.1.1.1 oz⟩
   ·rename_i hk';rw[hk']at h4;cases h4
  |none =>
   rw[h2]at h;have h:singleG l kw=some g:=h;unfold singleG at h;rw[map_eq_some_iff]at h;obtain⟨i,hi,rfl⟩:=h;obtain⟨h3,h4⟩:=iH hi;unfold sgHit freeB at h4;simp only[Bool.not_eq_false',and_eq_true,Bool.not_eq_true',decide_eq_true_eq]at h4;exact⟨_,_,rfl,zD h4.1.1 oz⟩
theorem sP{l:Li}(hl:aP l=0){kw:List Bool}(hk:kw.length=l.bo.length){g:Gr}(h:nextG l kw=some g):dQ (bW kw g.bo)<dQ kw:=by
 obtain⟨x,bs,e,h1⟩:=Uh hl hk h;rw[e];exact JB h1
theorem Am{l:Li}(hl:aP l=0):∀(n m:Nat)(kw:List Bool)(out:List Gr),kw.length=l.bo.length->dQ kw<=n->dQ kw<=m->findFrom l n kw out=findFrom l m kw out
 |0,0,kw,out,hk,h1,h2=>rfl
 |0,m+1,kw,out,hk,h1,h2=>by
  unfold findFrom;cases hg:nextG l kw with
  |none=>rfl
  |some g=>have:=sP hl hk hg;omega
 |n+1,0,kw,out,hk,h1,h2=>by
  unfold findFrom;cases hg:nextG l kw with
  |none=>rfl
  |some g=>have:=sP hl hk hg;omega
 |n+1,m+1,kw,out,hk,h1,h2=>by
  unfold findFrom;cases hg:nextG l kw with
  |none=>rfl
  |some g =>
   have:=sP hl hk hg;exact Am hl n m _ _ (by rw[k8];exact hk) oz oz
theorem AP{l:Li}:∀(n:Nat)(kw:List Bool)(out:List Gr),∃gs,findFrom l n kw out=(gs.foldl (fun k g=>bW k g.bo) kw,out++gs)
 |0,kw,out=>⟨[],by simp[findFrom]⟩
 |n+1,kw,out=>by
  unfold findFrom;cases hg:nextG l kw with
  |none=>exact⟨[],by simp⟩
  |some g =>
   obtain⟨gs,e⟩:=AP n (bW kw g.bo) (out++[g]);exact⟨g::gs,by show findFrom l n _ _=_;rw[e];simp⟩
theorem K8(l:Li):findFrom l l.bo.length (dq l.bo.length 0) []=(cP l,findG l):=by
 obtain⟨gs,e⟩:=AP (l:=l) l.bo.length (dq l.bo.length 0) [];unfold cP findG;rw[e];simp
theorem F4{k:List Bool}:(fV k).length=0↔k.contains false=false:=by
 unfold fV;rw[length_map,List.length_eq_zero_iff,List.filter_eq_nil_iff];constructor
 ·intro h;rw[<- Bool.not_eq_true,List.contains_iff_mem];intro hm;obtain⟨i,hi⟩:=List.mem_iff_getElem?.1 hm;have hlt:=(List.getElem?_eq_some_iff.1 hi).1;have:=h i (List.mem_range.2 hlt);rw[getD_eq_getElem?_getD,hi]at this;simp at this
 ·intro h i hi;rw[<- Bool.not_eq_true,List.contains_iff_mem]at h;intro hc;have hlt:=List.mem_range.1 hi;rw[getD_eq_getElem?_getD,getElem?_eq_getElem hlt]at hc;simp at hc;exact h (hc▸List.getElem_mem hlt)
theorem qr:Sub (.agg [.v (.int .i64 0),.v (.slice none 0 0),.v (.slice none 0 0),.v (.int .i64 0)]) (Gr.av default):=.agg (.cons (.refl _) (.cons (.nil _ _ _) (.cons (.nil _ _ _) (.cons (.refl _) .nil)))) rfl
theorem CW{z:Int}(h:aa .geq z 0=true):0<=z:=of_decide_eq_true h
theorem IM{z:Int}(h:aa .geq z 0=false):¬0<=z:=of_decide_eq_false h
theorem uU{a b c:Int}:cond (cond (aa .geq a 0) (aa .geq b 0) false) (aa .geq c 0) false=(decide (0<=a)&&decide (0<=b)&&decide (0<=c)):=by
 have e:∀z:Int,aa .geq z 0=decide (0<=z):=fun z=>rfl
 rw[e,e,e,gX,gX]
theorem FX{a b:Int}:cond (aa .lss a 0) true (aa .lss b 0)=!(decide (0<=a)&&decide (0<=b)):=by
 have e:∀z:Int,aa .lss z 0=!decide (0<=z):=fun z=>by rw[<- decide_not];exact decide_eq_decide.2 oz
 rw[e,e,se,Bool.not_and]
theorem F0{a b:Int}(h:cond (aa .lss a 0) true (aa .lss b 0)=true):(decide (0<=a)&&decide (0<=b))=false:=by rw[FX]at h;exact dF h
theorem G7{a b:Int}(h:cond (aa .lss a 0) true (aa .lss b 0)=false):0<=a/\0<=b:=by
 rw[FX]at h;have:=dw h;simpa using this
structure TieO(l:Li)(kind:Int)(bs:List Int)(z b:Int)(j:Jt):Prop where
  hz:0<=z
  hj:l.jo[z.toNat]?=some j
  kd:j.kind=kind
  tie:(j.a=b/\j.b∉bs)\/(j.b=b/\j.a∉bs)
inductive DyK(l:Li):Gr->Prop where
  |drv {b z d:Int} {j:Jt} {x:Dr} (t:TieO l 0 [b] z b j) (d0:0<=d) (hd:l.dv[d.toNat]?=some x) (hb:x.body=b):DyK l ⟨0,[b],[z],d⟩
  |rrr {i k z0 z1 z2:Int} {j0 j1 j2:Jt} (ne:i≠k) (t0:TieO l 0 [i,k] z0 i j0) (t1:TieO l 0 [i,k] z1 k j1) (h0:0<=z2) (h2:l.jo[z2.toNat]?=some j2) (kd:j2.kind=0)
      (tie:(j2.a=i/\j2.b=k)\/(j2.b=i/\j2.a=k)):DyK l ⟨1,[i,k],[z0,z1,z2],0⟩
  |pr {i z0 z1:Int} {j0 j1:Jt} (t0:TieO l 0 [i] z0 i j0) (t1:TieO l 1 [i] z1 i j1) (ha:j1.a=i):DyK l ⟨2,[i],[z0,z1],0⟩
  |rp {i z0 z1:Int} {j0 j1:Jt} (t0:TieO l 0 [i] z0 i j0) (t1:TieO l 1 [i] z1 i j1) (ha:j1.a≠i):DyK l ⟨3,[i],[z0,z1],0⟩
theorem De{l:Li}{kind b:Int}{oth:List Bool}(h:0<=jointI l kind b oth) :
  ∃(i:Nat)(j:Jt),jointI l kind b oth=(i:Int)/\l.jo[i]?=some j/\j.kind=kind/\((j.a=b/\kn oth j.b=true)\/(j.b=b/\kn oth j.a=true)):=by
 unfold jointI at h ⊢;cases hf:dB l.jo.length (fun i=>!lQ kind b oth (l.jo.getD i default))with
 |none=>rw[hf]at h;exact absurd h (by decide)
 |some i =>
  obtain⟨h1,h2⟩:=iH hf;obtain⟨j,hj⟩:=aH h1;rw[aw hj]at h2;unfold lQ at h2;simp only[Bool.not_eq_false',and_eq_true,or_eq_true,decide_eq_true_eq]at h2;exact⟨i,j,rfl,hj,h2.1,h2.2⟩
theorem uq{l:Li}{kind b:Int}{kw:List Bool}{bs:List Int}(hb:∀x∈bs,kn kw x=false)(h:0<=jointI l kind b kw):∃j,TieO l kind bs (jointI l kind b kw) b j:=by
 obtain⟨i,j,e,hj,hk,ht⟩:=De h;have hn:∀x,kn kw x=true->x∉bs:=fun x hx hm=>by rw[hb x hm]at hx;cases hx
 refine⟨j,h,by rw[e,toNat_natCast];exact hj,hk,?_⟩;rcases ht with⟨h1,h2⟩ |⟨h1,h2⟩
 ·exact .inl ⟨h1,hn _ h2⟩
 ·exact .inr ⟨h1,hn _ h2⟩
theorem vf{l:Li}{kw:List Bool}{b:Int}(h:freeB l kw b=true):kn kw b=false:=by
 unfold freeB at h;simp only[and_eq_true,Bool.not_eq_true']at h;exact h.1
theorem Bg{kw:List Bool}{b:Int}(h:kn kw b=false):∀x∈[b],kn kw x=false:=fun x hx=>by rw[List.mem_singleton.1 hx];exact h
theorem Kg{l:Li}(hl:aP l=0){kw:List Bool}{g:Gr}(h:driverG l kw=some g):DyK l g:=by
 unfold driverG at h;rw[map_eq_some_iff]at h;obtain⟨i,hi,rfl⟩:=h;obtain⟨h1,h2⟩:=iH hi;obtain⟨d,hd⟩:=aH h1;unfold drHit at h2;simp only[Bool.not_eq_false',and_eq_true,decide_eq_true_eq,Bool.not_eq_true']at h2;rw[aw hd]at h2 ⊢;obtain⟨j,hj⟩:=uq (Bg h2.1) h2.2;exact .drv hj oz (by rw[toNat_natCast];exact hd) rfl
theorem MN{l:Li}(hl:aP l=0){kw:List Bool}{g:Gr}(h:pairG l kw=some g):DyK l g:=by
 unfold pairG at h;rw[map_eq_some_iff]at h;obtain⟨i,hi,h⟩:=h;obtain⟨h1,h2⟩:=iH hi;split at h
 ·rename_i k hk;subst h;unfold prAt at hk;rw [map_eq_some_iff] at hk;obtain ⟨k',hk',rfl⟩:=hk;obtain ⟨h3,h4⟩:=iH hk';rw [show i + 1 + k' = k' + (i + 1) by omega] at h4;unfold prHit at h4;simp only [Bool.not_eq_false',and_eq_true,decide_eq_true_eq] at h4;obtain ⟨⟨f1,f2⟩,⟨j1,j2⟩,j3⟩:=h4
  have hb:∀x∈[(i:Int),((k'+(i+1):Nat):Int)],kn kw x=false:=fun x hx=>by
   simp only[mem_cons,not_mem_nil,or_false]at hx;rcases hx with rfl |rfl
   ·exact vf f1
   ·exact vf f2
  obtain⟨a0,t0⟩:=uq hb j1;obtain⟨a1,t1⟩:=uq hb j2;obtain⟨n,a2,e,hj,hkd,ht⟩:=De j3;obtain⟨i1,i2,_⟩:=cH hl hj;have i1:=(dM i1).1;have i2:=(dM i2).1;refine .rrr oz t0 t1 j3 (by rw[e,toNat_natCast];exact hj) hkd ?_;rcases ht with⟨e1,e2⟩ |⟨e1,e2⟩
  ·rw[yg i2 oz oz]at e2;exact .inl ⟨e1,of_decide_eq_true e2⟩
  ·rw[yg i1 oz oz]at e2;exact .inr ⟨e1,of_decide_eq_true e2⟩
 ·rename_i hk;rw[hk]at h2;cases h2
theorem JJ{l:Li}{kw:List Bool}{g:Gr}(h:singleG l kw=some g):DyK l g:=by
 unfold singleG at h;rw[map_eq_some_iff]at h;obtain⟨i,hi,rfl⟩:=h;obtain⟨h1,h2⟩:=iH hi;unfold sgHit at h2;simp only[Bool.not_eq_false',and_eq_true,decide_eq_true_eq]at h2;obtain⟨f1,j1,j2⟩:=h2;obtain⟨a0,t0⟩:=uq (Bg (vf f1)) j1;obtain⟨a1,t1⟩:=uq (Bg (vf f1)) j2;unfold sgG;rw[aw t1.hj]
 by_cases e:a1.a=i
 ·rw[if_pos e];exact .pr t0 t1 e
 ·rw[if_neg e];exact .rp t0 t1 e
theorem MT{l:Li}(hl:aP l=0){kw:List Bool}{g:Gr}(h:nextG l kw=some g):DyK l g:=by
 unfold nextG at h;cases h1:driverG l kw with
 |some g'=>rw[h1]at h;cases h;exact Kg hl h1
 |none =>
  rw[h1]at h;cases h2:pairG l kw with
  |some g'=>rw[h2]at h;cases h;exact MN hl h2
  |none=>rw[h2]at h;exact JJ h
theorem Fz{l:Li}(hl:aP l=0):∀(n:Nat)(kw:List Bool)(out:List Gr),(∀g∈out,DyK l g)->∀g∈(findFrom l n kw out).2,DyK l g
 |0,kw,out,h=>h
 |n+1,kw,out,h=>by
  unfold findFrom;cases hg:nextG l kw with
  |none=>exact h
  |some g=>exact Fz hl n (bW kw g.bo) (out++[g]) (fun x hx=>by
    rcases List.mem_append.1 hx with hx |hx
    ·exact h x hx
    ·rw[List.mem_singleton.1 hx];exact MT hl hg)
theorem oY{l:Li}(hl:aP l=0){g:Gr}(h:g∈splitG l):DyK l g/\GrOk l g:=by
 unfold splitG at h;split at h
 ·exact⟨Fz hl _ _ _ (fun g hg=>by cases hg) g h,(sW hl).1 g h⟩
 ·cases h
open Lean.Grind
def E(r:(k:Nat)->T k)(n:Nat):Type:=T n
namespace T
theorem ofQ_zero:∀n,ofQ n 0=zero n
 |0=>rfl
 |n+1=>by simp only[ofQ,zero,ofQ_zero n]
theorem ofQ_add:∀n (p q:Rat),ofQ n (p+q)=add n (ofQ n p) (ofQ n q)
 |0,p,q=>rfl
 |n+1,p,q=>by simp only[ofQ,add,ofQ_add n,add_zero]
theorem ofQ_neg:∀n (p:Rat),ofQ n (-p)=neg n (ofQ n p)
 |0,p=>rfl
 |n+1,p=>by simp only[ofQ,neg,ofQ_neg n,neg_zero]
end T
structure Laws(r:(k:Nat)->T k)(n:Nat):Prop where
  assoc:∀x y z,T.mul r n (T.mul r n x y) z=T.mul r n x (T.mul r n y z)
  dist:∀x y z,T.mul r n x (T.add n y z)=T.add n (T.mul r n x y) (T.mul r n x z)
  one:∀x,T.mul r n (T.ofQ n 1) x=x
theorem T.neg_mul'{r:(k:Nat)->T k}{n:Nat}(h:Laws r n)(x y:T n):T.mul r n (T.neg n x) y=T.neg n (T.mul r n x y):=by
 have h1:T.add n (T.mul r n x y) (T.mul r n (T.neg n x) y)=T.zero n:=by
  rw[T.mul_comm r n x,T.mul_comm r n (T.neg n x),<- h.dist,T.add_neg,T.mul_zero]
 have h2:=congrArg (fun z=>T.add n (T.neg n (T.mul r n x y)) z) h1;simp only[T.add_zero]at h2;rw[<- T.add_assoc,T.add_comm n (T.neg n _),T.add_neg,T.zero_add]at h2;exact h2
theorem T.mul_addr{r:(k:Nat)->T k}{n:Nat}(h:Laws r n)(a b c:T n):T.mul r n (T.add n a b) c=T.add n (T.mul r n a c) (T.mul r n b c):=by
 rw[T.mul_comm r n _ c,h.dist,T.mul_comm r n c,T.mul_comm r n c]
instance (r:(k:Nat)->T k)(n:Nat):Add (E r n):=⟨T.add n⟩
instance (r:(k:Nat)->T k)(n:Nat):Mul (E r n):=⟨T.mul r n⟩
instance (r:(k:Nat)->T k)(n:Nat):Neg (E r n):=⟨T.neg n⟩
instance (r:(k:Nat)->T k)(n:Nat):_root_.Sub (E r n):=⟨fun x y=>T.add n x (T.neg n y)⟩
instance (r:(k:Nat)->T k)(n c:Nat):OfNat (E r n) c:=⟨T.ofQ n (c:Rat)⟩
instance (r:(k:Nat)->T k)(n:Nat):NatCast (E r n):=⟨fun c=>T.ofQ n (c:Rat)⟩
instance (r:(k:Nat)->T k)(n:Nat):IntCast (E r n):=⟨fun c=>T.ofQ n (c:Rat)⟩
instance (r:(k:Nat)->T k)(n:Nat):SMul Nat (E r n):=⟨fun c x=>T.mul r n (T.ofQ n (c:Rat)) x⟩
instance (r:(k:Nat)->T k)(n:Nat):SMul Int (E r n):=⟨fun c x=>T.mul r n (T.ofQ n (c:Rat)) x⟩
def E.pow{r:(k:Nat)->T k}{n:Nat}(x:E r n):Nat->E r n
  |0=>T.ofQ n 1
  |c+1=>T.mul r n (E.pow x c) x
instance (r:(k:Nat)->T k)(n:Nat):HPow (E r n) Nat (E r n):=⟨E.pow⟩
@[reducible] def Laws.ring {r:(k:Nat)->T k} {n:Nat} (h:Laws r n):CommRing (E r n) where
  add_zero a:=by
    show T.add n a (T.ofQ n ((0:Nat):Rat))=a;rw[show(((0:Nat):Rat))=0 from rfl,T.ofQ_zero];exact T.add_zero n a
  add_comm a b:=T.add_comm n a b
  add_assoc a b c:=T.add_assoc n a b c
  mul_assoc a b c:=h.assoc a b c
  mul_one a:=(T.mul_comm r n a _).trans (h.one a)
  one_mul a:=h.one a
  left_distrib a b c:=h.dist a b c
  right_distrib a b c:=T.mul_addr h a b c
  zero_mul a:=by
    show T.mul r n (T.ofQ n ((0:Nat):Rat)) a=T.ofQ n ((0:Nat):Rat);rw[show(((0:Nat):Rat))=0 from rfl,T.ofQ_zero];exact T.zero_mul r n a
  mul_zero a:=by
    show T.mul r n a (T.ofQ n ((0:Nat):Rat))=T.ofQ n ((0:Nat):Rat);rw[show(((0:Nat):Rat))=0 from rfl,T.ofQ_zero];exact T.mul_zero r n a
  pow_zero a:=rfl
  pow_succ a c:=rfl
  ofNat_succ c:=by
    show T.ofQ n ((c+1:Nat):Rat)=T.add n (T.ofQ n (c:Rat)) (T.ofQ n ((1:Nat):Rat));rw[<- T.ofQ_add];congr 1;exact Rat.natCast_add c 1
  ofNat_eq_natCast c:=rfl
  nsmul_eq_natCast_mul c a:=rfl
  neg_add_cancel a:=(T.add_comm n (T.neg n a) a).trans ((T.add_neg n a).trans (T.ofQ_zero n).symm)
  sub a b:=T.add n a (T.neg n b)
  sub_eq_add_neg a b:=rfl
  neg_zsmul i a:=(congrArg (fun z=>T.mul r n z a) (show T.ofQ n ((-i:Int):Rat)=T.neg n (T.ofQ n (i:Rat)) by rw[Rat.intCast_neg,T.ofQ_neg])).trans (T.neg_mul' h _ a)
  zsmul_natCast_eq_nsmul c a:=rfl
  intCast_ofNat c:=rfl
  intCast_neg i:=by
    show T.ofQ n ((-i:Int):Rat)=T.neg n (T.ofQ n (i:Rat));rw[Rat.intCast_neg,T.ofQ_neg]
  mul_comm a b:=T.mul_comm r n a b
section
variable{R:Type}[CommRing R](x y u v p q d:R)
theorem JM:(x*u+y*v*d)*p+(x*v+y*u)*q*d=x*(u*p+v*q*d)+y*(u*q+v*p)*d:=by grind
theorem Qe:(x*u+y*v*d)*q+(x*v+y*u)*p=x*(u*q+v*p)+y*(u*p+v*q*d):=by grind
theorem Ml:x*(u+p)+y*(v+q)*d=(x*u+y*v*d)+(x*p+y*q*d):=by grind
theorem RH:x*(v+q)+y*(u+p)=(x*v+y*u)+(x*q+y*p):=by grind
end
theorem mT(r:(k:Nat)->T k):∀n,Laws r n
 |0=>⟨fun x y z=>Rat.mul_assoc x y z,fun x y z=>Rat.mul_add x y z,fun x=>Rat.one_mul x⟩
 |n+1=>by
  have I:=(mT r n).ring;have h1:=(mT r n).one;refine⟨?_,?_,?_⟩
  ·rintro⟨x,y⟩ ⟨u,v⟩ ⟨p,q⟩;exact Prod.ext (@JM (E r n) (mT r n).ring x y u v p q (r n)) (@Qe (E r n) (mT r n).ring x y u v p q (r n))
  ·rintro⟨x,y⟩ ⟨u,v⟩ ⟨p,q⟩;exact Prod.ext (@Ml (E r n) (mT r n).ring x y u v p q (r n)) (@RH (E r n) (mT r n).ring x y u v p q)
  ·rintro⟨u,v⟩;refine Prod.ext ?_ ?_
   ·show T.add n (T.mul r n (T.ofQ n 1) u) (T.mul r n (T.mul r n (T.zero n) v) (r n))=u;rw[h1,T.zero_mul,T.zero_mul,T.add_zero]
   ·show T.add n (T.mul r n (T.ofQ n 1) v) (T.mul r n (T.zero n) u)=v;rw[h1,T.zero_mul,T.add_zero]
instance eRing(r:(k:Nat)->T k)(n:Nat):CommRing (E r n):=(mT r n).ring
structure Sg(R:Type)[CommRing R](s:R->Int):Prop where
  cs:∀x,s x=-1\/s x=0\/s x=1
  one:s 1=1
  neg:∀x,s (-x)=-s x
  mul:∀x y,s (x*y)=s x*s y
  add:∀x y,0<=s x->0<=s y->0<=s (x+y)
namespace Sg
variable{R:Type}[CommRing R]{s:R->Int}
theorem zero(h:Sg R s):s 0=0:=by
 have h1:=h.neg 0;rw[show -(0:R)=0 by grind]at h1;omega
theorem zadd(h:Sg R s){x y:R}(hx:s x=0):s (x+y)=s y:=by
 have h1:=h.cs y;have h2:=h.cs (x+y);have n1:=h.neg x;have n2:=h.neg y;have n3:=h.neg (x+y);have a1:=h.add x y;have a2:=h.add (-x) (-y);have a3:=h.add (-x) (x+y);have a4:=h.add x (-(x+y));rw[show -x+-y=-(x+y) by grind]at a2;rw[show -x+(x+y)=y by grind]at a3;rw[show x+-(x+y)=-y by grind]at a4;omega
theorem padd(h:Sg R s){x y:R}(hx:s x=1)(hy:0<=s y):s (x+y)=1:=by
 have h2:=h.cs (x+y);have a1:=h.add x y;have n2:=h.neg y;have n3:=h.neg (x+y);have a4:=h.add (-(x+y)) y;have e:-(x+y)+y=-x:=by grind
 have n1:=h.neg x;rw[e]at a4;rcases h2 with h2 |h2 |h2
 ·omega
 ·have:=h.zadd (x:=-(x+y)) (y:=y) oz;rw[e]at this;omega
 ·exact h2
theorem sq(h:Sg R s)(x:R):0<=s (x*x):=by
 rw[h.mul];rcases h.cs x with e |e |e <;> rw[e] <;> decide
theorem sub0(h:Sg R s){x y:R}(hx:s (x-y)=0):s x=s y:=by
 have:=h.zadd (y:=y) hx
 rwa [show x-y+y=x by grind]at this
theorem sqle(h:Sg R s){a b:R}(ha:0<=s a)(hb:0<=s (a*a-b*b)):0<=s (a+b):=by
 have c1:=h.cs (a+b);rcases c1 with c1 |c1 |c1
 ·exfalso;have n1:=h.neg (a+b);have p1:s (-(a+b)+a)=1:=h.padd oz ha;rw[show -(a+b)+a=-b by grind]at p1;have p2:s (-b+a)=1:=h.padd p1 ha;have m:=h.mul (-b+a) (a+b);rw[show(-b+a)*(a+b)=a*a-b*b by grind,p2,c1]at m;omega
 ·omega
 ·omega
theorem cancel(h:Sg R s){p x:R}(hp:s p=1)(hx:0<=s (p*x)):0<=s x:=by
 rw[h.mul,hp]at hx;omega
end Sg
def bM{r:(k:Nat)->T k}{n:Nat}(x y:E r n):E r (n+1):=((x,y):T n×T n)
def sg(r:(k:Nat)->T k)(n:Nat)(x:E r n):Int:=T.sgn r n x
def bJ(r:(k:Nat)->T k)(n:Nat):E r n:=r n
variable{r:(k:Nat)->T k}{n:Nat}
theorem j6(z:E r (n+1)):∃x y:E r n,z=bM x y:=⟨z.1,z.2,rfl⟩
theorem o7(x y u v:E r n):bM x y+bM u v=bM (x+u) (y+v):=rfl
theorem s7(x y:E r n):-bM x y=bM (-x) (-y):=rfl
theorem kC(x y u v:E r n):bM x y*bM u v=bM (x*u+y*v*bJ r n) (x*v+y*u):=rfl
theorem E.zero_def:(0:E r n)=T.zero n:=T.ofQ_zero n
theorem xp:(1:E r (n+1))=bM 1 0:=by
 show T.ofQ (n+1) ((1:Nat):Rat)=(T.ofQ n ((1:Nat):Rat),T.ofQ n ((0:Nat):Rat));rw[show(((0:Nat):Rat))=0 from rfl,T.ofQ_zero];rfl
def aW(x y:E r n):E r n:=x*x+-(y*y*bJ r n)
theorem kI(x y:E r n):sg r (n+1) (bM x y)=T.sgn3 (sg r n x) (sg r n y) (sg r n (bJ r n)) (sg r n (aW x y)):=rfl
def PE(x y:E r n):Prop:=(0<=sg r n x/\0<=sg r n (aW x y))\/(0<=sg r n y/\0 <= -sg r n (aW x y))
theorem p8(h:Sg (E r n) (sg r n))(hd:sg r n (bJ r n)=1)(x y:E r n):0<=sg r (n+1) (bM x y)↔PE x y:=by
 rw[kI,hd];unfold PE
 have f1:sg r n y=0->sg r n (aW x y)=sg r n x*sg r n x:=by
  intro hy;have h1:sg r n (-(y*y*bJ r n))=0:=by rw[h.neg,h.mul,h.mul,hy];simp
  have:=h.zadd (y:=x*x) h1;unfold aW;rw[show x*x+-(y*y*bJ r n)=-(y*y*bJ r n)+x*x by grind,this,h.mul]
 have f2:sg r n x=0->sg r n (aW x y)=-(sg r n y*sg r n y):=by
  intro hx;have h1:sg r n (x*x)=0:=by rw[h.mul,hx];simp
  have:=h.zadd (y:=-(y*y*bJ r n)) h1;unfold aW;rw[this,h.neg,h.mul,h.mul,hd];simp
 have c1:=h.cs x;have c2:=h.cs y;have c3:=h.cs (aW x y)
 revert f1 f2 c1 c2 c3
 generalize sg r n x=a;generalize sg r n y=b;generalize sg r n (aW x y)=c;intro f1 f2 c1 c2 c3;rcases c1 with rfl |rfl |rfl <;> rcases c2 with rfl |rfl |rfl <;> rcases c3 with rfl |rfl |rfl <;> first |decide |(exfalso;revert f1 f2;decide)
theorem S9(h:Sg (E r n) (sg r n))(hd:sg r n (bJ r n)=1){x y u v:E r n}(h1:PE x y)(h2:PE u v):PE (x*u+y*v*bJ r n) (x*v+y*u):=by
 have nm:aW (x*u+y*v*bJ r n) (x*v+y*u)=aW x y*aW u v:=by unfold aW;grind
 have hn:=h.mul (aW x y) (aW u v);have d0:0<=sg r n (bJ r n):=by omega
 unfold PE;rw[nm,hn];rcases h1 with⟨a1,a2⟩ |⟨a1,a2⟩ <;> rcases h2 with⟨b1,b2⟩ |⟨b1,b2⟩
 ·refine .inl ⟨h.sqle ?_ ?_,Int.mul_nonneg a2 b2⟩
  ·rw[h.mul];exact Int.mul_nonneg a1 b1
  ·have e : x * u * (x * u) - y * v * bJ r n * (y * v * bJ r n) = aW x y * (u * u) + y * y * bJ r n * aW u v := by unfold aW; grind
   rw[e];refine h.add _ _ ?_ ?_
   ·rw[h.mul];exact Int.mul_nonneg a2 (h.sq u)
   ·rw[h.mul,h.mul];exact Int.mul_nonneg (Int.mul_nonneg (h.sq y) d0) b2
 ·refine .inr ⟨h.sqle ?_ ?_,?_⟩
  ·rw[h.mul];exact Int.mul_nonneg a1 b1
  ·have e : x * v * (x * v) - y * u * (y * u) = aW x y * (v * v) + y * y * -aW u v := by unfold aW; grind
   rw[e];refine h.add _ _ ?_ ?_
   ·rw[h.mul];exact Int.mul_nonneg a2 (h.sq v)
   ·rw[h.mul,h.neg];exact Int.mul_nonneg (h.sq y) b2
  ·rw[<- Int.mul_neg];exact Int.mul_nonneg a2 b2
 ·refine .inr ⟨?_,?_⟩
  ·rw [show x * v + y * u = y * u + x * v by grind];refine h.sqle ?_ ?_
   ·rw[h.mul];exact Int.mul_nonneg a1 b1
   ·have e : y * u * (y * u) - x * v * (x * v) = aW u v * (y * y) + v * v * -aW x y := by unfold aW; grind
    rw[e];refine h.add _ _ ?_ ?_
    ·rw[h.mul];exact Int.mul_nonneg b2 (h.sq y)
    ·rw[h.mul,h.neg];exact Int.mul_nonneg (h.sq v) a2
  ·rw[<- Int.neg_mul];exact Int.mul_nonneg a2 b2
 ·refine .inl ⟨?_,?_⟩
  ·rw [show x * u + y * v * bJ r n = y * v * bJ r n + x * u by grind];refine h.sqle ?_ ?_
   ·rw[h.mul,h.mul];exact Int.mul_nonneg (Int.mul_nonneg a1 b1) d0
   ·have e : y * v * bJ r n * (y * v * bJ r n) - x * u * (x * u) = -aW x y * (v * v * bJ r n) + x * x * -aW u v := by unfold aW; grind
    rw[e];refine h.add _ _ ?_ ?_
    ·rw[h.mul,h.neg,h.mul];exact Int.mul_nonneg a2 (Int.mul_nonneg (h.sq v) d0)
    ·rw[h.mul,h.neg];exact Int.mul_nonneg (h.sq x) b2
  ·rw[<- Int.neg_mul_neg];exact Int.mul_nonneg a2 b2
theorem E2(h:Sg (E r n) (sg r n))(hd:sg r n (bJ r n)=1){x y u v:E r n}(a1:0<=sg r n x)(a2:0<=sg r n (aW x y))(b1:0<=sg r n v)(b2:0 <= -sg r n (aW u v)):PE (x+u) (y+v):=by
  have cX:=h.cs (x+u);have cY:=h.cs (y+v);have cN:=h.cs (aW (x+u) (y+v));unfold PE
  by_cases hX:0<=sg r n (x+u)
  · by_cases hN:0<=sg r n (aW (x+u) (y+v))
    · exact .inl ⟨hX,hN⟩
    · by_cases hY:0<=sg r n (y+v)
      · exact .inr ⟨hY,by omega⟩
      · -- Y < 0: then N is at least 0
        exfalso;have hY':sg r n (-(y+v))=1:=by rw[h.neg];omega
        have ny:sg r n (-y)=1:=by
          have:=h.padd hY' b1
          rwa [show -(y+v)+v=-y by grind]at this
        have k1:0<=sg r n (x*v+y*u):=by
          refine h.sqle (by rw[h.mul];exact Int.mul_nonneg a1 b1) ?_;have e:x*v*(x*v)-y*u*(y*u)=aW x y*(v*v)+y*y*-aW u v:=by unfold aW;grind
          rw[e];refine h.add _ _ ?_ ?_
          · rw[h.mul];exact Int.mul_nonneg a2 (h.sq v)
          · rw[h.mul,h.neg];exact Int.mul_nonneg (h.sq y) b2
        have k2:0<=sg r n (x*v+-(y*u)):=by
          refine h.sqle (by rw[h.mul];exact Int.mul_nonneg a1 b1) ?_;have e:x*v*(x*v) - -(y*u)*-(y*u)=aW x y*(v*v)+y*y*-aW u v:=by unfold aW;grind
          rw[e];refine h.add _ _ ?_ ?_
          · rw[h.mul];exact Int.mul_nonneg a2 (h.sq v)
          · rw[h.mul,h.neg];exact Int.mul_nonneg (h.sq y) b2
        have k3:0<=sg r n (-y*(x+u)-x*-(y+v)):=by
          rw[show -y*(x+u)-x*-(y+v)=x*v+-(y*u) by grind];exact k2
        have k4:0<=sg r n (-y*(x+u)+x*-(y+v)):=by
          rw[show -y*(x+u)+x*-(y+v)=(-y*(x+u)-x*-(y+v))+(x*-(y+v)+x*-(y+v)) by grind];refine h.add _ _ k3 (h.add _ _ ?_ ?_) <;> (rw[h.mul,hY'];omega)
        have k5:0<=sg r n ((y*y)*aW (x+u) (y+v)):=by
          have e:(y*y)*aW (x+u) (y+v)=(-y*(x+u)-x*-(y+v))*(-y*(x+u)+x*-(y+v))+aW x y*(-(y+v)*-(y+v)):=by unfold aW;grind
          rw[e];refine h.add _ _ (by rw[h.mul];exact Int.mul_nonneg k3 k4) (by rw[h.mul];exact Int.mul_nonneg a2 (h.sq _))
        have k6 := h.cancel (by rw [h.mul]; rw [h.neg] at ny; have : sg r n y = -1 := by omega
                                rw[this];rfl) k5
        exact hN k6
  · have hX' : sg r n (-(x + u)) = 1 := by rw [h.neg]; omega
    have nu:sg r n (-u)=1:=by
      have:=h.padd hX' a1
      rwa [show -(x+u)+x=-u by grind]at this
    have su:sg r n u=-1:=by rw[h.neg]at nu;omega
    have hv:sg r n v=1:=by
      rcases h.cs v with e |e |e
      · omega
      · exfalso
        have h1:sg r n (-(v*v*bJ r n))=0:=by rw[h.neg,h.mul,h.mul,e];simp
        have:=h.zadd (y:=u*u) h1;rw[show -(v*v*bJ r n)+u*u=aW u v by unfold aW;grind,h.mul,su]at this;omega
      · exact e
    have k1:0<=sg r n (x*v+y*-u):=by
      refine h.sqle (by rw[h.mul];exact Int.mul_nonneg a1 b1) ?_;have e:x*v*(x*v)-y*-u*(y*-u)=aW x y*(v*v)+y*y*-aW u v:=by unfold aW;grind
      rw[e];refine h.add _ _ ?_ ?_
      · rw[h.mul];exact Int.mul_nonneg a2 (h.sq v)
      · rw[h.mul,h.neg];exact Int.mul_nonneg (h.sq y) b2
    have k3:0<=sg r n (-u*(y+v)-v*-(x+u)):=by
      rw[show -u*(y+v)-v*-(x+u)=x*v+y*-u by grind];exact k1
    have k4:0<=sg r n (v*-(x+u)):=by rw[h.mul,hv,hX'];decide
    have kY:0<=sg r n (y+v):=by
      refine h.cancel nu ?_;rw[show -u*(y+v)=(-u*(y+v)-v*-(x+u))+v*-(x+u) by grind];exact h.add _ _ k3 k4
    refine .inr ⟨kY,?_⟩
    have k5:0<=sg r n ((v*v)*-aW (x+u) (y+v)):=by
      have e:(v*v)*-aW (x+u) (y+v)=(-u*(y+v)-v*-(x+u))*(-u*(y+v)+v*-(x+u))+-aW u v*((y+v)*(y+v)):=by unfold aW;grind
      rw[e];have k6:0<=sg r n (-u*(y+v)+v*-(x+u)):=h.add _ _ (by rw[h.mul,nu];omega) k4;refine h.add _ _ (by rw[h.mul];exact Int.mul_nonneg k3 k6) (by rw[h.mul,h.neg];exact Int.mul_nonneg b2 (h.sq _))
    have k7:=h.cancel (by rw[h.mul,hv];rfl) k5
    rwa [h.neg]at k7
theorem Ly(h:Sg (E r n) (sg r n))(hd:sg r n (bJ r n)=1){x y u v:E r n}(h1:PE x y)(h2:PE u v):PE (x+u) (y+v):=by
 have d0:0<=sg r n (bJ r n):=by omega
 rcases h1 with⟨a1,a2⟩ |⟨a1,a2⟩ <;> rcases h2 with⟨b1,b2⟩ |⟨b1,b2⟩
 ·refine .inl ⟨h.add _ _ a1 b1,?_⟩
  have k:0<=sg r n (x*u+-(y*v*bJ r n)):=by
   refine h.sqle (by rw[h.mul];exact Int.mul_nonneg a1 b1) ?_;have e:x*u*(x*u) - -(y*v*bJ r n)*-(y*v*bJ r n)=aW x y*(u*u)+y*y*bJ r n*aW u v:=by unfold aW;grind
   rw[e];refine h.add _ _ ?_ ?_
   ·rw[h.mul];exact Int.mul_nonneg a2 (h.sq u)
   ·rw[h.mul,h.mul];exact Int.mul_nonneg (Int.mul_nonneg (h.sq y) d0) b2
  rw[show aW (x+u) (y+v)=(aW x y+aW u v)+((x*u+-(y*v*bJ r n))+(x*u+-(y*v*bJ r n))) by unfold aW;grind];exact h.add _ _ (h.add _ _ a2 b2) (h.add _ _ k k)
 ·exact E2 h hd a1 a2 b1 b2
 ·rw[show x+u=u+x by grind,show y+v=v+y by grind];exact E2 h hd b1 b2 a1 a2
 ·refine .inr ⟨h.add _ _ a1 b1,?_⟩
  have k:0<=sg r n (y*v*bJ r n+-(x*u)):=by
   refine h.sqle (by rw[h.mul,h.mul];exact Int.mul_nonneg (Int.mul_nonneg a1 b1) d0) ?_;have e:y*v*bJ r n*(y*v*bJ r n) - -(x*u)*-(x*u)=-aW x y*(v*v*bJ r n)+x*x*-aW u v:=by unfold aW;grind
   rw[e];refine h.add _ _ ?_ ?_
   ·rw[h.mul,h.neg,h.mul];exact Int.mul_nonneg a2 (Int.mul_nonneg (h.sq v) d0)
   ·rw[h.mul,h.neg];exact Int.mul_nonneg (h.sq x) b2
  have k2:0<=sg r n (-aW (x+u) (y+v)):=by
   rw[show -aW (x+u) (y+v)=(-aW x y+-aW u v)+((y*v*bJ r n+-(x*u))+(y*v*bJ r n+-(x*u))) by unfold aW;grind];exact h.add _ _ (h.add _ _ (by rw[h.neg];exact a2) (by rw[h.neg];exact b2)) (h.add _ _ k k)
  rwa [h.neg]at k2
theorem SG(a b c d:Int):T.sgn3 (-a) (-b) c d=-T.sgn3 a b c d:=by
 unfold T.sgn3;have e:(-a=-b \/ -b=0)↔(a=b\/b=0):=by omega
 simp only[e];split
 ·rfl
 ·split
  ·rfl
  ·by_cases h:a=0
   ·rw[if_pos oz,if_pos h]
   ·rw[if_neg oz,if_neg h,Int.neg_mul]
theorem TG(h:Sg (E r n) (sg r n))(hd:0<=sg r n (bJ r n)):Sg (E r (n+1)) (sg r (n+1)):=by
 have hcs:∀z:E r (n+1),sg r (n+1) z=-1\/sg r (n+1) z=0\/sg r (n+1) z=1:=fun z=>T.sgn_cases r (n+1) z
 have hone:sg r (n+1) 1=1:=by
  rw[xp,kI,h.one,h.zero];unfold T.sgn3;split
  ·rfl
  ·simp
 have hneg:∀z:E r (n+1),sg r (n+1) (-z)=-sg r (n+1) z:=by
  intro z;obtain⟨x,y,rfl⟩:=j6 z;rw[s7,kI,kI,h.neg,h.neg,show aW (-x) (-y)=aW x y by unfold aW;grind,SG]
 by_cases hd0:sg r n (bJ r n)=0
 ·have e0:∀x y:E r n,sg r (n+1) (bM x y)=sg r n x:=by
   intro x y;rw[kI,hd0];unfold T.sgn3;rw[if_pos rfl]
  refine⟨hcs,hone,hneg,?_,?_⟩
  ·intro z w;obtain ⟨x,y,rfl⟩:=j6 z;obtain ⟨u,v,rfl⟩:=j6 w;rw [kC,e0,e0,e0];have h1:sg r n (y * v * bJ r n) = 0:=by rw [h.mul,hd0]; simp
   have:=h.zadd (y:=x*u) h1;rw[show x*u+y*v*bJ r n=y*v*bJ r n+x*u by grind,this,h.mul]
  ·intro z w;obtain⟨x,y,rfl⟩:=j6 z;obtain⟨u,v,rfl⟩:=j6 w;rw[o7,e0,e0,e0];exact h.add x u
 ·have hd1 : sg r n (bJ r n) = 1 := by rcases h.cs (bJ r n) with e | e | e <;> omega
  have hadd:∀z w:E r (n+1),0<=sg r (n+1) z->0<=sg r (n+1) w->0<=sg r (n+1) (z+w):=by
   intro z w;obtain⟨x,y,rfl⟩:=j6 z;obtain⟨u,v,rfl⟩:=j6 w;rw[o7,p8 h hd1,p8 h hd1,p8 h hd1];exact Ly h hd1
  have hpm:∀z w:E r (n+1),0<=sg r (n+1) z->0<=sg r (n+1) w->0<=sg r (n+1) (z*w):=by
   intro z w;obtain⟨x,y,rfl⟩:=j6 z;obtain⟨u,v,rfl⟩:=j6 w;rw[kC,p8 h hd1,p8 h hd1,p8 h hd1];exact S9 h hd1
  have hzm:∀z w:E r (n+1),sg r (n+1) z=0->sg r (n+1) (w*z)=0:=by
   intro z w hz;have n1:=hneg z;have n2:=hneg w;have n3:=hneg (w*z);have m1:=hpm w z;have m2:=hpm w (-z);have m3:=hpm (-w) z;have m4:=hpm (-w) (-z);rw[show w*-z=-(w*z) by grind]at m2;rw[show -w*z=-(w*z) by grind]at m3;rw[show -w*-z=w*z by grind]at m4;rcases hcs w with e |e |e <;> omega
  have hsc:∀(a u v:E r n),sg r (n+1) (bM (a*u) (a*v))=sg r n a*sg r (n+1) (bM u v):=by
   intro a u v;rw[kI,kI,show aW (a*u) (a*v)=a*a*aW u v by unfold aW;grind,h.mul,h.mul,h.mul,h.mul,hd1]
   have f1:sg r n v=0->sg r n (aW u v)=sg r n u*sg r n u:=by
    intro hy;have h1:sg r n (-(v*v*bJ r n))=0:=by rw[h.neg,h.mul,h.mul,hy];simp
    have:=h.zadd (y:=u*u) h1;unfold aW;rw[show u*u+-(v*v*bJ r n)=-(v*v*bJ r n)+u*u by grind,this,h.mul]
   have c1:=h.cs u;have c2:=h.cs v;have c3:=h.cs (aW u v);have c4:=h.cs a
   revert c1 c2 c3 c4
   generalize sg r n u=a1;generalize sg r n v=b1;generalize sg r n (aW u v)=c1;generalize sg r n a=e1;intro c1 c2 c3 c4;rcases c1 with rfl |rfl |rfl <;> rcases c2 with rfl |rfl |rfl <;> rcases c3 with rfl |rfl |rfl <;> rcases c4 with rfl |rfl |rfl <;> decide
  have hpadd:∀z w:E r (n+1),sg r (n+1) z=1->0<=sg r (n+1) w->sg r (n+1) (z+w)=1:=by
   intro z w hz hw;have a1:=hadd z w oz hw;rcases hcs (z+w)with e |e |e
   ·omega
   ·exfalso;have n1:=hneg z;have n2:=hneg (z+w);have a2:=hadd (-(z+w)) w oz hw;rw[show -(z+w)+w=-z by grind]at a2;omega
   ·exact e
  have hpp:∀z w:E r (n+1),sg r (n+1) z=1->sg r (n+1) w=1->sg r (n+1) (z*w)=1:=by
   intro z w hz hw;obtain⟨x,y,rfl⟩:=j6 z;obtain⟨u,v,rfl⟩:=j6 w;have p0:=hpm _ _ (by omega:0<=sg r (n+1) (bM x y)) (by omega:0<=sg r (n+1) (bM u v));rcases hcs (bM x y*bM u v)with e |e |e
   ·omega
   ·exfalso
    by_cases hN:sg r n (aW x y)=0
    ·have hxy:sg r n x=1/\sg r n y=1:=by
      rw[kI,hd1,hN]at hz
      have f1:sg r n y=0->sg r n (aW x y)=sg r n x*sg r n x:=by
       intro hy;have h1:sg r n (-(y*y*bJ r n))=0:=by rw[h.neg,h.mul,h.mul,hy];simp
       have:=h.zadd (y:=x*x) h1;unfold aW;rw[show x*x+-(y*y*bJ r n)=-(y*y*bJ r n)+x*x by grind,this,h.mul]
      have f2:sg r n x=0->sg r n (aW x y)=-(sg r n y*sg r n y):=by
       intro hx;have h1:sg r n (x*x)=0:=by rw[h.mul,hx];simp
       have:=h.zadd (y:=-(y*y*bJ r n)) h1;unfold aW;rw[this,h.neg,h.mul,h.mul,hd1];simp
      rw[hN]at f1 f2;have c1:=h.cs x;have c2:=h.cs y
      revert hz f1 f2 c1 c2
      generalize sg r n x=a;generalize sg r n y=b;intro hz f1 f2 c1 c2;rcases c1 with rfl |rfl |rfl <;> rcases c2 with rfl |rfl |rfl <;> revert hz f1 f2 <;> decide
     have k1:sg r (n+1) (bM (x*u) (x*v))=1:=by rw[hsc,hxy.1,hw];rfl
     have k2:0<=sg r (n+1) (bM 0 y):=by
      rw[kI,h.zero,hxy.2,hd1];unfold T.sgn3;simp
     have k3:=hpm _ _ k2 (by omega:0<=sg r (n+1) (bM u v));have k4:=hpadd _ _ k1 k3;rw[kC,o7]at k4;rw[kC]at e;rw[show x*u+(0*u+y*v*bJ r n)=x*u+y*v*bJ r n by grind,show x*v+(0*v+y*u)=x*v+y*u by grind]at k4;omega
    ·have k1:=hzm _ (bM x (-y)) e;rw[show bM x (-y)*(bM x y*bM u v)=bM (aW x y*u) (aW x y*v) by rw[kC,kC];unfold aW;congr 1 <;> grind,hsc,hw]at k1;omega
   ·exact e
  refine⟨hcs,hone,hneg,?_,hadd⟩;intro z w;rcases hcs w with e |e |e
  ·rcases hcs z with e' |e' |e'
   ·have := hpp (-z) (-w) (by rw[hneg];omega) (by rw[hneg];omega);rw[show -z*-w=z*w by grind]at this;rw[this,e,e'];rfl
   ·have:=hzm z w e';rw[show w*z=z*w by grind]at this;rw[this,e'];simp
   ·have := hpp z (-w) e' (by rw[hneg];omega);rw[show z*-w=-(z*w) by grind,hneg]at this;rw[e,e'];omega
  ·rw[hzm w z e,e];simp
  ·rcases hcs z with e' |e' |e'
   ·have := hpp (-z) w (by rw[hneg];omega) e;rw[show -z*w=-(z*w) by grind,hneg]at this;rw[e,e'];omega
   ·have:=hzm z w e';rw[show w*z=z*w by grind]at this;rw[this,e'];simp
   ·rw[hpp z w e' e,e,e'];rfl
theorem mJ(q:Rat):bP q=-1/\q<0\/bP q=0/\q=0\/bP q=1/\0<q:=by
 unfold bP;split
 ·exact .inl ⟨rfl,by assumption⟩
 ·split
  ·exact .inr (.inr ⟨rfl,by assumption⟩)
  ·exact .inr (.inl ⟨rfl,by grind⟩)
theorem sk{q:Rat}(h:0<q):bP q=1:=by
 rcases mJ q with⟨_,h'⟩ |⟨_,h'⟩ |⟨e,_⟩
 ·grind
 ·grind
 ·exact e
theorem zp{q:Rat}(h:q<0):bP q=-1:=by
 rcases mJ q with⟨e,_⟩ |⟨_,h'⟩ |⟨_,h'⟩
 ·exact e
 ·grind
 ·grind
theorem Rq(q:Rat):bP (-q)=-bP q:=by
 rcases mJ q with⟨e,h⟩ |⟨e,h⟩ |⟨e,h⟩
 ·rw[e,sk (by grind)];rfl
 ·rw[h];rfl
 ·rw[e,zp (by grind)]
theorem PB(p q:Rat):bP (p*q)=bP p*bP q:=by
 have h0:bP 0=0:=rfl;rcases mJ p with⟨e,h⟩ |⟨e,h⟩ |⟨e,h⟩ <;> rcases mJ q with⟨e',h'⟩ |⟨e',h'⟩ |⟨e',h'⟩
 ·have := Rat.mul_pos (a := -p) (b := -q) (by grind) (by grind);rw[e,e',sk (by grind)];rfl
 ·rw[h',Rat.mul_zero,h0];simp
 ·have := Rat.mul_pos (a := -p) (b := q) (by grind) h';rw[e,e',zp (by grind)];rfl
 ·rw[h,Rat.zero_mul,h0];simp
 ·rw[h,Rat.zero_mul,h0];simp
 ·rw[h,Rat.zero_mul,h0];simp
 ·have := Rat.mul_pos (a := p) (b := -q) h (by grind);rw[e,e',zp (by grind)];rfl
 ·rw[h',Rat.mul_zero,h0];simp
 ·rw[e,e',sk (Rat.mul_pos h h')];rfl
theorem Mw(p q:Rat)(h1:0<=bP p)(h2:0<=bP q):0<=bP (p+q):=by
 rcases mJ (p+q)with⟨e,h⟩ |⟨e,h⟩ |⟨e,h⟩
 ·exfalso;rcases mJ p with⟨e1,g1⟩ |⟨e1,g1⟩ |⟨e1,g1⟩ <;> rcases mJ q with⟨e2,g2⟩ |⟨e2,g2⟩ |⟨e2,g2⟩ <;> first |omega |grind
 ·omega
 ·omega
theorem NM(r:(k:Nat)->T k):Sg (E r 0) (sg r 0) :=
 ⟨fun q=>T.sgnQ_cases q,rfl,fun q=>Rq q,fun p q=>PB p q,fun p q=>Mw p q⟩
def fh(r:(k:Nat)->T k)(n:Nat):Prop:=∀j,j<n->0<=T.sgn r j (r j)
theorem dz(r:(k:Nat)->T k):∀n,fh r n->Sg (E r n) (sg r n)
 |0,_=>NM r
 |n+1,h=>TG (dz r n (fun j hj=>h j oz)) (h n oz)
end Go.Lw
namespace Go.Lw
def xA{r:(k:Nat)->T k}{n:Nat}(x:E r n):AV:=nA (sh n x)
abbrev Pn(r:(k:Nat)->T k)(n:Nat):Type:=E r n×E r n
def mo(r:(k:Nat)->T k)(n:Nat):LL:=(List.range n).map fun k=>enc k (r k)
def qE{r:(k:Nat)->T k}{n:Nat}(q:Rat):E r n:=T.ofQ n q
theorem Bt:∀(n:Nat)(q:Rat),sh n (T.ofQ n q)=sh 0 (q:Rat)
 |0,q=>rfl
 |n+1,q=>by
  show(if T.isZ n (T.zero n)=true then sh n (T.ofQ n q)else _)=_;rw[if_pos ((T.isZ_iff n _).2 rfl),Bt n q]
theorem CS:∀n:Nat,sh n (T.zero n)=[]
 |0=>rfl
 |n+1=>by
  show(if T.isZ n (T.zero n)=true then sh n (T.zero n)else _)=_;rw[if_pos ((T.isZ_iff n _).2 rfl),CS n]
theorem sS(r:(k:Nat)->T k)(n:Nat):(mo r n).length=n:=by simp[mo]
theorem HT{r:(k:Nat)->T k}{n j:Nat}(h:j<n):(mo r n).getD j []=enc j (r j):=by
 unfold mo;rw[getD_eq_getElem?_getD,getElem?_map,List.getElem?_range h];rfl
theorem Ks{r:(k:Nat)->T k}{n j:Nat}(h:j<n):ao (mo r n) j=r j:=by
 unfold ao;rw[HT h,wT]
theorem DO{ts:LL}{R:Nat}(tw:Tw ts R):ts=mo (ao ts) ts.length:=by
 apply List.ext_getElem?;intro j
 by_cases hj:j<ts.length
 ·have h1:=HT (r:=ao ts) hj;have h2:=tw.len j hj;rw[getD_eq_getElem?_getD]at h1;rw[getElem?_eq_getElem (show j<(mo (ao ts) ts.length).length by rw[sS];exact hj)]at h1 ⊢;rw[Option.getD_some]at h1;rw[h1,getElem?_eq_getElem hj];unfold ao;rw[rh _ _ h2,getD_eq_getElem?_getD,getElem?_eq_getElem hj];rfl
 ·rw[getElem?_eq_none oz,getElem?_eq_none (by rw[sS];omega)]
class Cx(r:(k:Nat)->T k)(n:Nat)(u k:outParam Nat):Prop where
  ex:∃R,Tw (mo r n) R/\eB R n<=k
  k1:1<=k
  u3:3<=u
class Zu(u k:Nat){r:(k:Nat)->T k}{n:Nat}(x:E r n)(w v:outParam Nat):Prop where
  nm:Nm n (w*u+v*k) (sh n x)
class Zp(u k:Nat){r:(k:Nat)->T k}{n:Nat}(p:Pn r n)(w v:outParam Nat):Prop where
  x:Nm n (w*u+v*k) (sh n p.1)
  y:Nm n (w*u+v*k) (sh n p.2)
class Qz(u:Nat)(q:Rat)(w:outParam Nat):Prop where
  cb:Cb (w*u) [q]
section
variable{r:(k:Nat)->T k}{n u k:Nat}
theorem Cx.five(c:Cx r n u k):n<=5:=by obtain⟨R,tw,_⟩:=c.ex;have:=tw.five;rwa [sS]at this
theorem Cx.three(c:Cx r n u k):n<=3:=by obtain⟨R,tw,_⟩:=c.ex;have:=tw.three;rwa [sS]at this
theorem wY(w v w' v' u k:Nat):(w*u+v*k)+(w'*u+v'*k)=(w+w')*u+(v+v')*k:=by
 rw[Nat.add_mul,Nat.add_mul];omega
theorem Nm.eq{n e f:Nat}{l:List Rat}(h:Nm n e l)(hf:e=f):Nm n f l:=hf▸h
theorem Nm.addT{e f:Nat}{x y:T n}(hx:Nm n e (sh n x))(hy:Nm n f (sh n y)):Nm n (e+f+1) (sh n (T.add n x y)):=by
 have h:=hx.add hy
 rwa [a5,a5]at h
theorem Nm.subT{e f:Nat}{x y:T n}(hx:Nm n e (sh n x))(hy:Nm n f (sh n y)):Nm n (e+f+1) (sh n (T.add n x (T.neg n y))):=by
 have h:=hx.sub hy
 rwa [a5,a5]at h
theorem Nm.negT{e:Nat}{x:T n}(hx:Nm n e (sh n x)):Nm n e (sh n (T.neg n x)):=by
 have h:=hx.neg
 rwa [a5]at h
theorem Nm.mulT{R e f:Nat}(tw:Tw (mo r n) R){x y:T n}(hx:Nm n e (sh n x))(hy:Nm n f (sh n y)):Nm n (e+f+eB R n) (sh n (T.mul r n x y)):=by
 have h:=Nm.mul tw (sS r n).symm hx hy
 rwa [a5,a5,T.mul_congr n (fun j hj=>Ks hj)]at h
instance Zu.add[c:Cx r n u k]{x y:E r n}{w v w' v':Nat}[hx:Zu u k x w v][hy:Zu u k y w' v']:Zu u k (x+y) (w+w') (v+v'+1) :=
  ⟨(Nm.addT hx.nm hy.nm).mono (by rw[wY,Nat.add_mul _ 1];have:=c.k1;omega)⟩
instance Zu.sub[c:Cx r n u k]{x y:E r n}{w v w' v':Nat}[hx:Zu u k x w v][hy:Zu u k y w' v']:Zu u k (x-y) (w+w') (v+v'+1) :=
  ⟨(Nm.subT hx.nm hy.nm).mono (by rw[wY,Nat.add_mul _ 1];have:=c.k1;omega)⟩
instance Zu.neg{x:E r n}{w v:Nat}[hx:Zu u k x w v]:Zu u k (-x) w v:=⟨Nm.negT hx.nm⟩
instance Zu.mul[c:Cx r n u k]{x y:E r n}{w v w' v':Nat}[hx:Zu u k x w v][hy:Zu u k y w' v']:Zu u k (x*y) (w+w') (v+v'+1):=by
  obtain⟨R,tw,hk⟩:=c.ex;exact⟨(Nm.mulT tw hx.nm hy.nm).mono (by rw[wY,Nat.add_mul _ 1];omega)⟩
instance Zu.qE[c:Cx r n u k]{q:Rat}{w:Nat}[h:Qz u q w]:Zu u k (qE q:E r n) w 0:=⟨by
  show Nm n _ (sh n (T.ofQ n q));rw[Bt];exact(Nm.ofQ c.five h.cb).eq oz⟩
theorem Cb.int{e:Nat}{z:Int}(h:z.natAbs<=2^e):Cb e [(z:Rat)] :=
 ⟨1,z.natAbs,⟨by omega,fun q hq=>⟨z,by rw[List.mem_singleton.1 hq];exact Rat.mul_one _,le_refl _⟩⟩,Nat.one_le_two_pow,h⟩
theorem Qz.int[c:Cx r n u k]{z:Int}(h:z.natAbs<=8):Qz u (z:Rat) 1:=⟨Cb.int (le_trans h (show 2^3<=_ from b9 (by have:=c.u3;omega)))⟩
instance Zu.c0[c:Cx r n u k]:Zu u k (0:E r n) 0 0:=⟨by
  show Nm n _ (sh n (T.ofQ n ((0:Nat):Rat)));rw[show(((0:Nat):Rat))=0 from rfl,T.ofQ_zero,CS];exact⟨c.five,.inl rfl,Cb.nil.mono (zero_le _)⟩⟩
instance Zu.c1[c:Cx r n u k]:Zu u k (1:E r n) 1 0:=by
  haveI:Qz u ((1:Nat):Rat) 1:=Qz.int (c:=c) (z:=1) (by decide);exact(inferInstance:Zu u k (Go.Lw.qE ((1:Nat):Rat):E r n) 1 0)
instance Zu.c2[c:Cx r n u k]:Zu u k (2:E r n) 1 0:=by
  haveI:Qz u ((2:Nat):Rat) 1:=Qz.int (c:=c) (z:=2) (by decide);exact(inferInstance:Zu u k (Go.Lw.qE ((2:Nat):Rat):E r n) 1 0)
instance Zu.c4[c:Cx r n u k]:Zu u k (4:E r n) 1 0:=by
  haveI:Qz u ((4:Nat):Rat) 1:=Qz.int (c:=c) (z:=4) (by decide);exact(inferInstance:Zu u k (Go.Lw.qE ((4:Nat):Rat):E r n) 1 0)
instance Zu.px{p:Pn r n}{w v:Nat}[h:Zp u k p w v]:Zu u k p.1 w v:=⟨h.x⟩
instance Zu.py{p:Pn r n}{w v:Nat}[h:Zp u k p w v]:Zu u k p.2 w v:=⟨h.y⟩
theorem Bf{w v w' v' u k:Nat}(h:w<=w')(h':v<=v'):w*u+v*k<=w'*u+v'*k:=Nat.add_le_add (mul_le_mul_right _ h) (mul_le_mul_right _ h')
instance Zp.mk'{x y:E r n}{w v w' v':Nat}[hx:Zu u k x w v][hy:Zu u k y w' v']:Zp u k ((x,y):Pn r n) (max w w') (max v v') :=
  ⟨hx.nm.mono (Bf (Nat.le_max_left ..) (Nat.le_max_left ..)),hy.nm.mono (Bf (Nat.le_max_right ..) (Nat.le_max_right ..))⟩
def NZ(p q:Pn r n):Pn r n:=(p.1+q.1,p.2+q.2)
def TC(p q:Pn r n):Pn r n:=(p.1-q.1,p.2-q.2)
def QR(c:E r n)(p:Pn r n):Pn r n:=(c*p.1,c*p.2)
def Lb(p q:Pn r n):E r n:=p.1*q.1+p.2*q.2
def Mu(p q:Pn r n):E r n:=p.1*q.2-p.2*q.1
def UX(c s:E r n)(p:Pn r n):Pn r n:=(c*p.1-s*p.2,s*p.1+c*p.2)
def pQ(x y:Rat):Pn r n:=(qE x,qE y)
def NQ(p:Pn r n):Pn r n:=(-p.2,p.1)
instance Zp.add[c:Cx r n u k]{p q:Pn r n}{w v w' v':Nat}[hp:Zp u k p w v][hq:Zp u k q w' v']:Zp u k (NZ p q) (w+w') (v+v'+1) :=
  ⟨(inferInstance:Zu u k (p.1+q.1) (w+w') (v+v'+1)).nm,(inferInstance:Zu u k (p.2+q.2) (w+w') (v+v'+1)).nm⟩
instance Zp.sub[c:Cx r n u k]{p q:Pn r n}{w v w' v':Nat}[hp:Zp u k p w v][hq:Zp u k q w' v']:Zp u k (TC p q) (w+w') (v+v'+1) :=
  ⟨(inferInstance:Zu u k (p.1-q.1) (w+w') (v+v'+1)).nm,(inferInstance:Zu u k (p.2-q.2) (w+w') (v+v'+1)).nm⟩
instance Zp.scale[c:Cx r n u k]{a:E r n}{q:Pn r n}{w v w' v':Nat}[hp:Zu u k a w v][hq:Zp u k q w' v']:Zp u k (QR a q) (w+w') (v+v'+1) :=
  ⟨(inferInstance:Zu u k (a*q.1) (w+w') (v+v'+1)).nm,(inferInstance:Zu u k (a*q.2) (w+w') (v+v'+1)).nm⟩
instance Zu.dot[c:Cx r n u k]{p q:Pn r n}{w v w' v':Nat}[hp:Zp u k p w v][hq:Zp u k q w' v']:Zu u k (Lb p q) (w+w'+(w+w')) (v+v'+1+(v+v'+1)+1) :=
  (inferInstance:Zu u k (p.1*q.1+p.2*q.2) _ _)
instance Zu.cross[c:Cx r n u k]{p q:Pn r n}{w v w' v':Nat}[hp:Zp u k p w v][hq:Zp u k q w' v']:Zu u k (Mu p q) (w+w'+(w+w')) (v+v'+1+(v+v'+1)+1) :=
  (inferInstance:Zu u k (p.1*q.2-p.2*q.1) _ _)
instance Zp.turn[c:Cx r n u k]{a b:E r n}{p:Pn r n}{w v w' v' w2 v2:Nat}[ha:Zu u k a w v][hb:Zu u k b w' v'][hp:Zp u k p w2 v2] :
    Zp u k (UX a b p) (w+w2+(w'+w2)) (v+v2+1+(v'+v2+1)+1) :=
  ⟨(inferInstance:Zu u k (a*p.1-b*p.2) _ _).nm,by
    have h:=(inferInstance:Zu u k (b*p.1+a*p.2) _ _).nm;exact h.eq (by rw[Nat.add_comm (w'+w2),Nat.add_comm (v'+v2+1)])⟩
instance Zp.ofQ[c:Cx r n u k]{x y:Rat}{w w':Nat}[hx:Qz u x w][hy:Qz u y w']:Zp u k (pQ x y:Pn r n) (max w w') (max 0 0) :=
  (inferInstance:Zp u k ((qE x,qE y):Pn r n) _ _)
instance Zp.quart{p:Pn r n}{w v:Nat}[hp:Zp u k p w v]:Zp u k (NQ p) w v:=⟨(inferInstance:Zu u k (-p.2) w v).nm,hp.x⟩
end
theorem q9(rs:List (List Rt)):(llq rs).length=rs.length:=by simp[llq]
abbrev Et(ts:LL):Type:=E (ao ts) ts.length
def dE(ts:LL)(a:List Rat):Et ts:=ac ts.length a
def sX{ts:LL}(x:Et ts):List Rat:=sh ts.length x
def am{ts:LL}(x:Et ts):Int:=T.sgn (ao ts) ts.length x
class Ct(ts:LL)(u k:outParam Nat):Prop where
  ex:∃R,Tw ts R/\eB R ts.length<=k
  k1:1<=k
  u3:3<=u
  ub:u<=1000000
  kb:k<=1000000
instance Ct.cx{ts:LL}{u k:Nat}[c:Ct ts u k]:Cx (ao ts) ts.length u k:=by
  obtain⟨R,tw,h⟩:=c.ex;exact⟨⟨R,DO tw▸tw,h⟩,c.k1,c.u3⟩
class Zl(ts:LL)(u k:Nat)(a:List Rat)(x:outParam (Et ts))(w v:outParam Nat):Prop where
  eq:ac ts.length a=x
  nm:Nm ts.length (w*u+v*k) a
section
variable{ts:LL}{u k:Nat}
instance Zl.sX{x:Et ts}{w v:Nat}[h:Zu u k x w v]:Zl ts u k (sX x) x w v:=⟨a5 _ _,h.nm⟩
instance Zl.q[c:Ct ts u k]{q:Rat}{w:Nat}[h:Qz u q w]:Zl ts u k (sh 0 (q:Rat)) (qE q:Et ts) w 0:=⟨gf _ q,by
  obtain⟨R,tw,_⟩:=c.ex;exact(Nm.ofQ tw.five h.cb).eq oz⟩
instance Zl.nil [c : Ct ts u k] : Zl ts u k [] (0 : Et ts) 0 0 := ⟨by rw [ia]; exact E.zero_def.symm, by
  obtain⟨R,tw,_⟩:=c.ex;exact⟨tw.five,.inl rfl,Cb.nil.mono (zero_le _)⟩⟩
theorem Zl.zu{a:List Rat}{x:Et ts}{w v:Nat}(h:Zl ts u k a x w v):Zu u k x w v:=⟨by
 have h1:=h.nm;have h2:=Cb.sh h1.cb h1.nl;rw[h.eq]at h2;exact⟨h1.five,di _ _,h2⟩⟩
theorem Zl.at{a:List Rat}{e:Nat}(h:Nm ts.length e a)(he:e<=u):Zl ts u k a (dE ts a) 1 0:=⟨rfl,h.mono oz⟩
theorem C3(c:Ct ts u k){w v m:Nat}(h:w+v<=m):w*u+v*k<=m*1000000:=by
 have h1:w*u<=w*1000000:=mul_le_mul_left _ c.ub;have h2:v*k<=v*1000000:=mul_le_mul_left _ c.kb;omega
theorem Zl.up(c:Ct ts u k){a:List Rat}{x:Et ts}{w v m:Nat}(h:Zl ts u k a x w v)(hm:w+v<=m):Nm ts.length (m*1000000) a:=h.nm.mono (C3 c hm)
theorem Ct.kk(c:Ct ts u k){R:Nat}(h:eB R ts.length<=k):kB R ts.length<=1000000:=le_trans h c.kb
def dotE(x y z t:Et ts):Et ts:=x*z+y*t
def crsE(x y z t:Et ts):Et ts:=x*t-y*z
instance Zu.dotE[c:Ct ts u k]{x y z t:Et ts}{w1 v1 w2 v2 w3 v3 w4 v4:Nat}[Zu u k x w1 v1][Zu u k y w2 v2][Zu u k z w3 v3][Zu u k t w4 v4]:Zu u k (dotE x y z t) (w1+w3+(w2+w4)) (v1+v3+1+(v2+v4+1)+1) :=
  (inferInstance:Zu u k (x*z+y*t) _ _)
instance Zu.crsE[c:Ct ts u k]{x y z t:Et ts}{w1 v1 w2 v2 w3 v3 w4 v4:Nat}[Zu u k x w1 v1][Zu u k y w2 v2][Zu u k z w3 v3][Zu u k t w4 v4]:Zu u k (crsE x y z t) (w1+w4+(w2+w3)) (v1+v4+1+(v2+v3+1)+1) :=
  (inferInstance:Zu u k (x*t-y*z) _ _)
end
def eK(xs:List Int):List Int:=xs.mergeSort (fun a b=>decide (a<=b))
theorem BN(xs:List Int):(eK xs).Perm xs:=List.mergeSort_perm _ _
theorem SF(xs:List Int):(eK xs).Pairwise (· <= ·):=by
 have h:=List.pairwise_mergeSort (le:=fun a b:Int=>decide (a<=b)) (fun a b c h1 h2=>by simp only[decide_eq_true_eq]at *;omega) (fun a b=>by simp only[or_eq_true,decide_eq_true_eq];omega) xs;exact h.imp (fun h=>of_decide_eq_true h)
theorem Ky{xs ys:List Int}(hp:ys.Perm xs)(hs:ys.Pairwise (· <= ·)):ys=eK xs :=
 List.Perm.eq_of_pairwise (le:=fun a b:Int=>a<=b) (fun a b _ _ h1 h2=>by omega) hs (SF xs) (hp.trans (BN xs).symm)
theorem EC(xs:List Int):(eK xs).length=xs.length:=(BN xs).length_eq
theorem uJ{xs:List Int}{b:Int}:b∈eK xs↔b∈xs:=(BN xs).mem_iff
theorem E3(e:Nat)(l:List Nat):fH (e::l)=if e≠0 then e else fH l:=rfl
theorem oc{α:Type}{f:α->Nat}{L:List α}(h:∀x∈L,f x=0):fH (L.map f)=0:=by
 induction L with
 |nil=>rfl
 |cons x L ih =>
  rw[map_cons,E3,if_neg (by rw[h x (mem_cons_self ..)];simp)];exact ih (fun y hy=>h y (mem_cons_of_mem _ hy))
def jA(g:Gr)(j:Jt):Int:=if g.bo.contains j.a=true then(if g.bo.contains j.b=true then -1 else j.b)else j.a
def fL(l:Li)(g:Gr):List Int:=g.jo.map (fun j=>jA g (l.jo.getD j.toNat default))
theorem r6(l:Li)(g:Gr):(fL l g).length=g.jo.length:=by unfold fL;rw[length_map]
theorem Oj{l:Li}(hl:aP l=0){g:Gr}(hg:GrOk l g):∀b∈fL l g,b<l.bo.length:=by
 intro b hb;unfold fL at hb;obtain⟨z,hz,rfl⟩:=List.mem_map.1 hb;obtain⟨z0,z1⟩:=hg.j z hz;obtain⟨j,hj⟩:=aH (l:=l.jo) (i:=z.toNat) oz;rw[aw hj];obtain⟨i1,i2,_⟩:=cH hl hj;have i1:=dM i1;have i2:=dM i2;unfold jA;split
 ·split
  ·omega
  ·omega
 ·omega
def cQ(l:Li)(g:Gr)(own:Bool):List Int:=fL l g++(if own=true then g.bo else[])
theorem yI{l:Li}(hl:aP l=0){g:Gr}(hg:GrOk l g){own:Bool}:∀b∈cQ l g own,b<l.bo.length:=by
 intro b hb;rcases List.mem_append.1 hb with hb |hb
 ·exact Oj hl hg b hb
 ·split at hb
  ·exact(hg.b b hb).2
  ·cases hb
theorem QJ{l:Li}{g:Gr}(hg:GrOk l g){own:Bool}:(cQ l g own).length<=5:=by
 unfold cQ;have h1:=hg.lb;have h2:=hg.lj;rw[length_append,r6];split
 ·omega
 ·simp only[length_nil];omega
def fU(a:As)(b:Int):Nat:=if b<0 then 0 else bb a.rs (a.bs.getD b.toNat default).l
def el(l:Li)(k:Int):Gr:=(splitG l).getD k.toNat default
def jq(l:Li)(k:Int)(a:As)(own:Bool):Nat :=
  if splitE l≠0 then splitE l else if k<0\/((splitG l).length:Int)<=k then 9 else if a.bs.length≠l.bo.length then 10 else if bq a.rs≠0 then bq a.rs
  else fH ((eK (cQ l (el l k) own)).map (fU a))
def et(l:Li)(k:Int)(a:As)(own:Bool):Nat:=if aP l≠0 then aP l else jq l k a own
section
variable{l:Li}{k:Int}{a:As}{own:Bool}
theorem rx(h:aP l=0):et l k a own=jq l k a own:=by unfold et;rw[if_neg oz]
theorem SD{e:Nat}(he:(if aP l=0 then splitE l else aP l)=e)(h:e≠0):et l k a own=e:=by
 by_cases h1:aP l=0
 ·rw[if_pos h1]at he;rw[rx h1];unfold jq;rw[if_pos oz];exact he
 ·rw[if_neg h1]at he;unfold et;rw[if_pos h1];exact he
theorem Vf(h:(if aP l=0 then splitE l else aP l)=0):aP l=0/\splitE l=0:=by
 by_cases h1:aP l=0
 ·rw[if_pos h1]at h;exact⟨h1,h⟩
 ·rw[if_neg h1]at h;exact absurd h h1
theorem Pt(hs:splitE l=0)(hk:k<0\/((splitG l).length:Int)<=k):jq l k a own=9:=by unfold jq;rw[if_neg oz,if_pos hk]
theorem Uy(hs:splitE l=0)(hk:¬(k<0\/((splitG l).length:Int)<=k))(hb:a.bs.length≠l.bo.length):jq l k a own=10:=by
 unfold jq;rw[if_neg oz,if_neg hk,if_pos hb]
theorem TD(hs:splitE l=0)(hk:¬(k<0\/((splitG l).length:Int)<=k))(hb:a.bs.length=l.bo.length)(hc:bq a.rs≠0):jq l k a own=bq a.rs:=by
 unfold jq;rw[if_neg oz,if_neg hk,if_neg oz,if_pos hc]
theorem E0(hs:splitE l=0)(hk:¬(k<0\/((splitG l).length:Int)<=k))(hb:a.bs.length=l.bo.length)(hc:bq a.rs=0):jq l k a own=fH ((eK (cQ l (el l k) own)).map (fU a)):=by
 unfold jq;rw[if_neg oz,if_neg hk,if_neg oz,if_neg oz]
end
structure DyOk(E:Nat)(l:Li)(k:Int)(a:As)(own:Bool)(i:Nat)(g:Gr):Prop where
  li:aP l=0
  sp:splitE l=0
  hk:k=(i:Int)
  hg:(splitG l)[i]?=some g
  ok:GrOk l g
  dy:DyK l g
  ln:a.bs.length=l.bo.length
  chk:bq a.rs=0
  nd:∀b∈cQ l g own,fU a b=0
  sm:∀b∈cQ l g own,0<=b->∀p,a.bs[b.toNat]?=some p->∀x∈p.l,NR x E
def p7(E:Nat)(l:Li)(k:Int)(a:As)(own:Bool):Prop:=∀b∈cQ l (el l k) own,0<=b->∀p,a.bs[b.toNat]?=some p->∀x∈p.l,NR x E
theorem vt{l:Li}{k:Int}{a:As}{own:Bool}{E:Nat}(hs:p7 E l k a own)(h:et l k a own=0):∃i g,DyOk E l k a own i g:=by
 unfold et at h;split at h
 ·rename_i h1;exact absurd h h1
 ·rename_i h1;have h1:=Decidable.not_not.1 h1;unfold jq at h;split at h
  ·rename_i h2;exact absurd h h2
  ·rename_i h2;split at h
   ·cases h
   ·rename_i h3;split at h
    ·cases h
    ·rename_i h4;split at h
     ·rename_i h5;exact absurd h h5
     ·rename_i h5;obtain⟨g,hg⟩:=aH (l:=splitG l) (i:=k.toNat) oz;have e:el l k=g:=aw hg;rw[e]at h;obtain⟨d1,d2⟩:=oY h1 (mem_of_getElem? hg);refine⟨k.toNat,g,h1,by omega,by omega,hg,d2,d1,by omega,by omega,fun b hb=>?_,e▸hs⟩;exact rO h _ (List.mem_map.2 ⟨b,uJ.2 hb,rfl⟩)
theorem DyOk.body{E:Nat}{l:Li}{k:Int}{a:As}{own:Bool}{i:Nat}{g:Gr}(h:DyOk E l k a own i g){b:Int}(hb:b∈cQ l g own)(h0:0<=b):∃p,a.bs[b.toNat]?=some p/\bb a.rs p.l=0/\∀x∈p.l,NR x E:=by
 have h1:=yI h.li h.ok b hb;obtain⟨p,hp⟩:=aH (l:=a.bs) (i:=b.toNat) (by have:=h.ln;omega);have h2:=h.nd b hb;unfold fU at h2;rw[if_neg oz,aw hp]at h2;exact⟨p,hp,h2,h.sm b hb h0 p hp⟩
theorem JD(n:Nat):50000000000<=lm n:=lM n
theorem Vc{k:Int}{n:Nat}(h:cond (aa .lss k 0) true (aa .geq k (n:Int))=true):k<0\/(n:Int)<=k:=by
 by_cases h1:k<0
 ·exact .inl h1
 ·refine .inr ?_;have h2:aa .lss k 0=false:=decide_eq_false h1;rw[h2]at h;exact of_decide_eq_true (p:=k>=n) h
theorem Vo{k:Int}{n:Nat}(h:cond (aa .lss k 0) true (aa .geq k (n:Int))=false):¬(k<0\/(n:Int)<=k):=by
 intro h1
 by_cases h2:k<0
 ·rw[show aa .lss k 0=true from decide_eq_true h2]at h;cases h
 ·rw[show aa .lss k 0=false from decide_eq_false h2]at h;have h3:¬(k>=n):=of_decide_eq_false h;omega
theorem VU{k:Int}{n:Nat}(h:¬(k<0\/(n:Int)<=k)):∃i:Nat,k=i/\i<n:=⟨k.toNat,by omega,by omega⟩
theorem UH{a b:Nat}(h:aa .neq (a:Int) (b:Int)=true):a≠b:=by
 have h1:((a:Int) != (b:Int))=true:=h;have h2:=bne_iff_ne.1 h1;omega
theorem Kh{a b:Nat}(h:aa .neq (a:Int) (b:Int)=false):a=b:=by
 have h1:((a:Int) != (b:Int))=false:=h;have h2:(a:Int)=b:=by simpa only[bne_eq_false_iff_eq]using h1
 omega
theorem l7{r:(k:Nat)->T k}{n:Nat}(p q:Rat):(qE (p+q):E r n)=qE p+qE q:=T.ofQ_add n p q
theorem U1{r:(k:Nat)->T k}{n:Nat}(p:Rat):(qE (-p):E r n)=-qE p:=T.ofQ_neg n p
theorem kq{r:(k:Nat)->T k}{n:Nat}(p q:Rat):(qE (p-q):E r n)=qE p-qE q:=by
 rw[Rat.sub_eq_add_neg,l7,U1];grind
theorem gG{r:(k:Nat)->T k}{n:Nat}(p q:Rat):(qE (p*q):E r n)=qE p*qE q:=(T.mul_ofQ r n p q).symm
def aB(l:Li)(body pt:Int):Rat×Rat:=(((cF l body).getD pt.toNat default).x.q,((cF l body).getD pt.toNat default).y.q)
abbrev qC(p:Rat×Rat):List AV:=[bl (rt p.1).neg,ws (rt p.1).num,ws (rt p.1).den,bl (rt p.2).neg,ws (rt p.2).num,ws (rt p.2).den]
abbrev qP(p:Rat×Rat):AV:=.agg (qC p)
structure Sm(e:Nat)(p:Rat×Rat):Prop where
  x:Qb e p.1
  y:Qb e p.2
structure MkP(l:Li)(body pt:Int)(n k:Nat)(bd:Bd)(m:Mk):Prop where
  hn:body=n
  hk:pt=k
  gbd:l.bo[n]?=some bd
  gm:bd.pts[k]?=some m
  ex:m.x=rt (aB l body pt).1
  ey:m.y=rt (aB l body pt).2
  sm:Sm 1000 (aB l body pt)
theorem qj{l:Li}(hl:l.ok)(hli:aP l=0){body pt:Int}(h1:bA body l.bo.length=true)(h2:bA pt (cF l body).length=true):∃n k bd m,MkP l body pt n k bd m:=by
 obtain⟨bd,g1,g2,g3,g4⟩:=oV h1;rw[g2]at h2;obtain⟨m,g5,g6,g7,g8⟩:=qJ h2;have hv:=Ix hli g1 g5;have ho:=(hl.bo bd g3).pts m g7;have e:aB l body pt=(m.x.q,m.y.q):=by unfold aB;rw[g2,g6]
 exact⟨body.toNat,pt.toNat,bd,m,by omega,by omega,g1,g5,by rw[e];exact Rt.eq_rt ho.x hv.1,by rw[e];exact Rt.eq_rt ho.y hv.2,by rw[e];exact⟨ho.qx.mono oz,ho.qy.mono oz⟩⟩
theorem iM{l:Li}(hl:l.ok)(hli:aP l=0){body pt:Int}(h1:bA body l.bo.length=true)(h2:bA pt (cF l body).length=true):Sm 1000 (aB l body pt):=by
 obtain⟨n,k,bd,m,h⟩:=qj hl hli h1 h2;exact h.sm
def ax(l:Li)(a:As)(body pt:Int):Et (llq a.rs)×Et (llq a.rs):=fF l a body pt
structure PlP(E:Nat)(l:Li)(a:As)(body pt:Int)(n k:Nat)(bd:Bd)(m:Mk)(b:Pl):Prop where
  mp:MkP l body pt n k bd m
  gb:a.bs[n]?=some b
  eq:fF l a body pt=m9 (llq a.rs) b m
  av:b.av=Pq.av ⟨lq b.c,lq b.s,lq b.x,lq b.y⟩
  ok:Pq.ok (llq a.rs).length E ⟨lq b.c,lq b.s,lq b.x,lq b.y⟩
def Pd(E:Nat)(a:As)(body:Int):Prop:=∃p,a.bs[body.toNat]?=some p/\bb a.rs p.l=0/\∀x∈p.l,NR x E
theorem ue{E:Nat}{l:Li}(hl:l.ok)(hli:aP l=0){a:As}(al:AB a)(hc:bq a.rs=0){body pt:Int}(h1:bA body l.bo.length=true)(h2:bA pt (cF l body).length=true)(hb:Pd E a body):∃n k bd m b,PlP E l a body pt n k bd m b:=by
 obtain⟨n,k,bd,m,h⟩:=qj hl hli h1 h2;obtain⟨b,gb,hb,hbn⟩:=hb;obtain⟨tw,_⟩:=cA al.tr hc;have h5:a.rs.length<=5:=by have:=tw.five;rwa [q9]at this
 have h9:=w7 hb hbn h5;have e:body.toNat=n:=by have:=h.hn;omega
 have e2:pt.toNat=k:=by have:=h.hk;omega
 rw[e]at gb;obtain⟨bd',g1,g2,_,_⟩:=oV h1;rw[e]at g1;have:bd'=bd:=Option.some.inj (g1.symm.trans h.gbd);subst this;refine⟨n,k,bd',m,b,h,gb,?_,h9.1,by rw[q9];exact h9.2⟩;unfold fF;rw[e,e2,aw gb,g2,aw h.gm]
structure DyS(a:As):Prop where
  tr:TR a.rs 64990
  one:bq a.rs=0->(llq a.rs).length<=1
theorem DyS.ct{a:As}(h:DyS a)(hc:bq a.rs=0):Ct (llq a.rs) 310000 65000:=by
 obtain⟨tw,_⟩:=cA h.tr hc;refine⟨⟨64990,tw,?_⟩,by omega,by omega,by omega,by omega⟩;have h1:=gP 64990 (h.one hc);have h2:eB 64990 1=64992:=by simp only[eB]
 omega
theorem lG{l:Li}(hl:l.ok)(hli:aP l=0){a:As}(al:AB a)(S:DyS a)(hc:bq a.rs=0){body pt:Int}(h1:bA body l.bo.length=true)(h2:bA pt (cF l body).length=true)(hb:Pd 3900000 a body) :
  Zu 310000 65000 (ax l a body pt).1 40 40/\Zu 310000 65000 (ax l a body pt).2 40 40:=by
 obtain⟨n,k,bd,m,b,hp⟩:=ue hl hli al hc h1 h2 hb;obtain⟨tw,_⟩:=cA S.tr hc
 have kb:kB 64990 (llq a.rs).length<=65000:=by
  have h1:=gP 64990 (S.one hc);have h2:eB 64990 1=64992:=by simp only[eB]
  show eB 64990 _<=_;omega
 have qx:Qb 1000 m.x.q:=by rw[hp.mp.ex,bK];exact hp.mp.sm.x
 have qy:Qb 1000 m.y.q:=by rw[hp.mp.ey,bK];exact hp.mp.sm.y
 have h:=wV tw hp.ok qx qy;unfold ax;rw[hp.eq];exact⟨⟨h.1.mono oz⟩,⟨h.2.mono oz⟩⟩
theorem kH{rs:List (List Rt)}{r:Nat}(h:TR rs r)(hc:bq rs=0):aO (llq rs)=.agg [.lst 1 (rs.map nR)]:=(cA h hc).2.symm
theorem OL{x y:Option Blk}{k:Nat}{z:Blk}(h:lk [(1000,x),(1001,y)] k=some z):1000<=k:=by
 rw[aU]at h;split at h
 ·omega
 ·rw[aU]at h;split at h
  ·omega
  ·cases h
theorem PI{s:AS}{k k':Nat}{x y:Blk}(h:lk s.hp k=some x)(h':lk s.hp k'=some y):∀q z,lk [(k,some x),(k',some y)] q=some z->lk s.hp q=some z:=by
 intro q z hz;rw[aU]at hz;split at hz
 ·rename_i e;cases hz;rw[e];exact h
 ·rw[aU]at hz;split at hz
  ·rename_i e;cases hz;rw[e];exact h'
  ·cases hz
def bF(p q:Rat×Rat):Rat×Rat:=(p.1-q.1,p.2-q.2)
def bQ(p q:Rat×Rat):Rat:=p.1*q.1+p.2*q.2
def ry(p q:Rat×Rat):Rat:=p.1*q.2-p.2*q.1
theorem Sm.sub{e f:Nat}{p q:Rat×Rat}(hp:Sm e p)(hq:Sm f q):Sm (e+f+1) (bF p q):=⟨hp.x.sub hq.x,hp.y.sub hq.y⟩
theorem Sm.dot{e f:Nat}{p q:Rat×Rat}(hp:Sm e p)(hq:Sm f q):Qb (e+f+(e+f)+1) (bQ p q):=(hp.x.mul hq.x).add (hp.y.mul hq.y)
theorem Sm.cross{e f:Nat}{p q:Rat×Rat}(hp:Sm e p)(hq:Sm f q):Qb (e+f+(e+f)+1) (ry p q):=(hp.x.mul hq.y).sub (hp.y.mul hq.x)
theorem Sm.mono{e f:Nat}{p:Rat×Rat}(hp:Sm e p)(h:e<=f):Sm f p:=⟨hp.x.mono h,hp.y.mono h⟩
theorem pc{q:Rat}{e w:Nat}(h:Qb e q)(he:e<=w*310000):Qz 310000 q w:=⟨(Cb.one h).mono he⟩
def ah(l:Li)(j:Jt)(b:Int):Rat×Rat:=if j.a=b then aB l b j.point else aB l b j.on
def an(l:Li)(a:As)(j:Jt)(b:Int):Et (llq a.rs)×Et (llq a.rs):=if j.a=b then ax l a j.b j.on else ax l a j.a j.point
structure PinP(E:Nat)(l:Li)(a:As)(j:Jt)(b:Int):Prop where
  tie:(j.a=b/\Pd E a j.b)\/(j.a≠b/\j.b=b/\Pd E a j.a)
theorem PinP.or{E:Nat}{l:Li}{a:As}{j:Jt}{b:Int}(h:PinP E l a j b):j.a=b\/j.b=b:=by
 rcases h.tie with h9 |h9
 ·exact .inl h9.1
 ·exact .inr h9.2.1
theorem kl{l:Li}(hl:l.ok)(hli:aP l=0){a:As}(al:AB a)(S:DyS a)(hc:bq a.rs=0){i:Nat}{j:Jt}(hj:l.jo[i]?=some j){b:Int}(h:PinP 3900000 l a j b) :
  Zu 310000 65000 (an l a j b).1 40 40/\Zu 310000 65000 (an l a j b).2 40 40:=by
 obtain⟨i1,i2,i3,i4,_⟩:=cH hli hj;unfold an;rcases h.tie with⟨e,hb⟩ |⟨e,e2,hb⟩
 ·rw[if_pos e];exact lG hl hli al S hc i2 i4 hb
 ·rw[if_neg e];exact lG hl hli al S hc i1 i3 hb
theorem eT{l:Li}(hl:l.ok)(hli:aP l=0){i:Nat}{j:Jt}(hj:l.jo[i]?=some j){b:Int}(h:j.a=b\/j.b=b):Sm 1000 (ah l j b):=by
 obtain⟨i1,i2,i3,i4,_⟩:=cH hli hj;unfold ah
 by_cases e:j.a=b
 ·rw[if_pos e];subst e;exact iM hl hli i1 i3
 ·rw[if_neg e];rcases h with h |h
  ·exact absurd h e
  ·subst h;exact iM hl hli i2 i4
theorem NB{bs:List Int}{b:Int}(h:b∈bs):bs.contains b=true:=List.contains_iff_mem.2 h
theorem Eh{bs:List Int}{b:Int}(h:b∉bs):bs.contains b=false:=by
 cases hc:bs.contains b with
 |false=>rfl
 |true=>exact absurd (List.contains_iff_mem.1 hc) h
theorem DyOk.ancs{E:Nat}{l:Li}{k:Int}{a:As}{own:Bool}{n:Nat}{g:Gr}(h:DyOk E l k a own n g){z b:Int}{j:Jt}(hz:z∈g.jo)(hj:l.jo[z.toNat]?=some j)(hb:jA g j=b)(h0:0<=b):Pd E a b:=by
 refine h.body ?_ h0;unfold cQ fL;refine List.mem_append_left _ (List.mem_map.2 ⟨z,hz,?_⟩);rw[aw hj];exact hb
theorem DyOk.pin{E:Nat}{l:Li}{k:Int}{a:As}{own:Bool}{n:Nat}{g:Gr}(h:DyOk E l k a own n g){kd z b:Int}{j:Jt}{bs:List Int}(hbs:g.bo=bs)(t:TieO l kd bs z b j)(hz:z∈g.jo)(hb:b∈bs):PinP E l a j b:=by
 subst hbs;obtain⟨i1,i2,_⟩:=cH h.li t.hj;have i1:=dM i1;have i2:=dM i2;rcases t.tie with⟨e,hn⟩ |⟨e,hn⟩
 ·refine⟨.inl ⟨e,h.ancs hz t.hj ?_ i2.1⟩⟩;unfold jA;rw[if_pos (NB (e▸hb)),if_neg (by rw[Eh hn];simp)]
 ·refine⟨.inr ⟨fun e2=>hn (e2▸hb),e,h.ancs hz t.hj ?_ i1.1⟩⟩;unfold jA;rw[if_neg (by rw[Eh hn];simp)]
theorem DyOk.own{E:Nat}{l:Li}{k:Int}{a:As}{n:Nat}{g:Gr}(h:DyOk E l k a true n g){b:Int}(hb:b∈g.bo):Pd E a b:=by
 refine h.body ?_ (h.ok.b b hb).1;unfold cQ;rw[if_pos rfl];exact List.mem_append_right _ hb
structure RrrP(E:Nat)(l:Li)(a:As)(g:Gr)(i k z0 z1 z2:Int)(j0 j1 j2:Jt):Prop where
  eq:g=⟨1,[i,k],[z0,z1,z2],0⟩
  h0:l.jo[z0.toNat]?=some j0
  h1:l.jo[z1.toNat]?=some j1
  h2:l.jo[z2.toNat]?=some j2
  p0:PinP E l a j0 i
  p1:PinP E l a j1 k
  t1:j2.a=i\/j2.b=i
  t2:j2.a=k\/j2.b=k
structure SlP(E:Nat)(l:Li)(a:As)(g:Gr)(kd i z0 z1:Int)(j0 j:Jt):Prop where
  eq:g=⟨kd,[i],[z0,z1],0⟩
  h0:l.jo[z0.toNat]?=some j0
  h1:l.jo[z1.toNat]?=some j
  p0:PinP E l a j0 i
  p1:PinP E l a j i
  hk:j.kind≠0
theorem DyOk.rrr{E:Nat}{l:Li}{k:Int}{a:As}{own:Bool}{n:Nat}{g:Gr}(h:DyOk E l k a own n g)(hk:g.kind=1):∃i k z0 z1 z2 j0 j1 j2,RrrP E l a g i k z0 z1 z2 j0 j1 j2:=by
 have hd:=h.dy;cases hd with
 |drv _ _ _ _=>exact absurd hk (by simp)
 |pr _ _ _=>exact absurd hk (by simp)
 |rp _ _ _=>exact absurd hk (by simp)
 | @rrr i k z0 z1 z2 j0 j1 j2 ne t0 t1 h0 h2 kd tie =>
  refine⟨i,k,z0,z1,z2,j0,j1,j2,rfl,t0.hj,t1.hj,h2,h.pin rfl t0 (by simp) (by simp),h.pin rfl t1 (by simp) (by simp),?_,?_⟩
  ·rcases tie with h9 |h9
   ·exact .inl h9.1
   ·exact .inr h9.1
  ·rcases tie with h9 |h9
   ·exact .inr h9.2
   ·exact .inl h9.2
theorem DyOk.pr{E:Nat}{l:Li}{k:Int}{a:As}{own:Bool}{n:Nat}{g:Gr}(h:DyOk E l k a own n g)(hk:g.kind=2):∃i z0 z1 j0 j,SlP E l a g 2 i z0 z1 j0 j/\j.a=i/\Pd E a j.b:=by
 have hd:=h.dy;cases hd with
 |drv _ _ _ _=>exact absurd hk (by simp)
 |rrr _ _ _ _ _ _ _=>exact absurd hk (by simp)
 |rp _ _ _=>exact absurd hk (by simp)
 | @pr i z0 z1 j0 j1 t0 t1 ha =>
  have p1:PinP E l a j1 i:=h.pin rfl t1 (by simp) (by simp);refine⟨i,z0,z1,j0,j1,⟨rfl,t0.hj,t1.hj,h.pin rfl t0 (by simp) (by simp),p1,by rw[t1.kd];decide⟩,ha,?_⟩;rcases p1.tie with h9 |h9
  ·exact h9.2
  ·exact absurd ha h9.1
theorem DyOk.rp{E:Nat}{l:Li}{k:Int}{a:As}{own:Bool}{n:Nat}{g:Gr}(h:DyOk E l k a own n g)(h0:g.kind≠0)(h1:g.kind≠1)(h2:g.kind≠2):∃i z0 z1 j0 j,SlP E l a g 3 i z0 z1 j0 j/\j.a≠i/\j.b=i/\Pd E a j.a:=by
 have hd:=h.dy;cases hd with
 |drv _ _ _ _=>exact absurd rfl h0
 |rrr _ _ _ _ _ _ _=>exact absurd rfl h1
 |pr _ _ _=>exact absurd rfl h2
 | @rp i z0 z1 j0 j1 t0 t1 ha =>
  have p1:PinP E l a j1 i:=h.pin rfl t1 (by simp) (by simp);refine⟨i,z0,z1,j0,j1,⟨rfl,t0.hj,t1.hj,h.pin rfl t0 (by simp) (by simp),p1,by rw[t1.kd];decide⟩,ha,?_⟩;rcases p1.tie with h9 |h9
  ·exact absurd h9.1 ha
  ·exact⟨h9.2.1,h9.2.2⟩
def kt(a:As)(b:Int)(q:Rat×Rat):Et (llq a.rs)×Et (llq a.rs) :=
  (qw (llq a.rs) (fo (llq a.rs) (a.bs.getD b.toNat default).c) (fo (llq a.rs) (a.bs.getD b.toNat default).s) (fo (llq a.rs) (a.bs.getD b.toNat default).x) q.1 q.2,
   rq (llq a.rs) (fo (llq a.rs) (a.bs.getD b.toNat default).c) (fo (llq a.rs) (a.bs.getD b.toNat default).s) (fo (llq a.rs) (a.bs.getD b.toNat default).y) q.1 q.2)
theorem Ig{ts:LL}{r e f:Nat}(tw:Tw ts r){b:Pl}{q:Rat×Rat}(hb:Pq.ok ts.length e ⟨lq b.c,lq b.s,lq b.x,lq b.y⟩)(hq:Sm f q) :
  Nm ts.length (3*e+2*f+2*kB r ts.length+10) (sh ts.length (qw ts (fo ts b.c) (fo ts b.s) (fo ts b.x) q.1 q.2))/\Nm ts.length (3*e+2*f+2*kB r ts.length+10) (sh ts.length (rq ts (fo ts b.c) (fo ts b.s) (fo ts b.y) q.1 q.2)):=by
 have nx:=Nm.ofQ tw.five (Cb.one hq.x);have ny:=Nm.ofQ tw.five (Cb.one hq.y);have h1:=(tM tw hb.c hb.s nx ny).add hb.x;rw[xh]at h1;have h2:=(uG tw hb.c hb.s nx ny).add hb.y;rw[uO]at h2;exact⟨h1.mono oz,h2.mono oz⟩
def aX(c p:Rat×Rat):Rat:=bQ (bF c p) (bF c p)
theorem P9{e f:Nat}{c p:Rat×Rat}(hc:Sm e c)(hp:Sm f p):Qb (e+f+1+(e+f+1)+(e+f+1+(e+f+1))+1) (aX c p):=(hc.sub hp).dot (hc.sub hp)
def ai(l:Li)(g:Gr)(n:Nat):Jt:=l.jo.getD (g.jo.getD n 0).toNat default
def aA(g:Gr)(n:Nat):Int:=g.bo.getD n 0
section
variable(l:Li)(a:As)
def cf(i:Int)(j:Jt):Rat×Rat:=bF (aB l i j.to) (aB l i j.on)
def bV(i:Int)(j0 j:Jt):Rat:=ry (cf l i j) (bF (aB l i j.on) (ah l j0 i))
def fJ(i:Int)(j:Jt):Rat:=bQ (cf l i j) (cf l i j)
def aK{ts:LL}(p q:Et ts×Et ts):Et ts×Et ts:=(p.1-q.1,p.2-q.2)
def cR{ts:LL}(p q:Et ts×Et ts):Et ts:=dotE p.1 p.2 q.1 q.2
def gj{ts:LL}(p q:Et ts×Et ts):Et ts:=crsE p.1 p.2 q.1 q.2
def bR(i:Int)(j0 j:Jt):Et (llq a.rs)×Et (llq a.rs):=aK (ax l a j.a j.point) (an l a j0 i)
def bZ(i:Int)(j0 j:Jt):Et (llq a.rs):=cR (bR l a i j0 j) (bR l a i j0 j)
def fN(g:Gr):Et (llq a.rs) :=
  if g.kind=0 then qE 1
  else if g.kind=1 then
    qE 4*(qE (aX (ah l (ai l g 2) (aA g 0)) (ah l (ai l g 0) (aA g 0)))*cR (aK (an l a (ai l g 0) (aA g 0)) (an l a (ai l g 1) (aA g 1))) (aK (an l a (ai l g 0) (aA g 0)) (an l a (ai l g 1) (aA g 1))))
      - ((qE (aX (ah l (ai l g 2) (aA g 0)) (ah l (ai l g 0) (aA g 0)))+cR (aK (an l a (ai l g 0) (aA g 0)) (an l a (ai l g 1) (aA g 1))) (aK (an l a (ai l g 0) (aA g 0)) (an l a (ai l g 1) (aA g 1))))-qE (aX (ah l (ai l g 2) (aA g 1)) (ah l (ai l g 1) (aA g 1))))
        * ((qE (aX (ah l (ai l g 2) (aA g 0)) (ah l (ai l g 0) (aA g 0)))+cR (aK (an l a (ai l g 0) (aA g 0)) (an l a (ai l g 1) (aA g 1))) (aK (an l a (ai l g 0) (aA g 0)) (an l a (ai l g 1) (aA g 1))))-qE (aX (ah l (ai l g 2) (aA g 1)) (ah l (ai l g 1) (aA g 1))))
  else if g.kind=2 then
    cR (aK (ax l a (ai l g 1).b (ai l g 1).to) (ax l a (ai l g 1).b (ai l g 1).on)) (aK (ax l a (ai l g 1).b (ai l g 1).to) (ax l a (ai l g 1).b (ai l g 1).on))*qE (aX (aB l (aA g 0) (ai l g 1).point) (ah l (ai l g 0) (aA g 0)))
      - gj (aK (ax l a (ai l g 1).b (ai l g 1).to) (ax l a (ai l g 1).b (ai l g 1).on)) (aK (an l a (ai l g 0) (aA g 0)) (ax l a (ai l g 1).b (ai l g 1).on))
        * gj (aK (ax l a (ai l g 1).b (ai l g 1).to) (ax l a (ai l g 1).b (ai l g 1).on)) (aK (an l a (ai l g 0) (aA g 0)) (ax l a (ai l g 1).b (ai l g 1).on))
  else qE (fJ l (aA g 0) (ai l g 1))*bZ l a (aA g 0) (ai l g 0) (ai l g 1)-qE (bV l (aA g 0) (ai l g 0) (ai l g 1))*qE (bV l (aA g 0) (ai l g 0) (ai l g 1))
def i7(g:Gr):Et (llq a.rs) :=
  if g.kind=0 then qE 1
  else if g.kind=1 then gj (aK (an l a (ai l g 1) (aA g 1)) (an l a (ai l g 0) (aA g 0))) (aK (kt a (aA g 0) (ah l (ai l g 2) (aA g 0))) (an l a (ai l g 0) (aA g 0)))
  else if g.kind=2 then cR (aK (ax l a (ai l g 1).b (ai l g 1).to) (ax l a (ai l g 1).b (ai l g 1).on)) (aK (kt a (aA g 0) (aB l (aA g 0) (ai l g 1).point)) (an l a (ai l g 0) (aA g 0)))
  else cR (aK (ax l a (ai l g 1).b (ai l g 1).to) (ax l a (ai l g 1).b (ai l g 1).on)) (bR l a (aA g 0) (ai l g 0) (ai l g 1))
end
section
variable{E:Nat}{l:Li}{a:As}{g:Gr}
theorem RrrP.at{i k z0 z1 z2:Int}{j0 j1 j2:Jt}(h:RrrP E l a g i k z0 z1 z2 j0 j1 j2):ai l g 0=j0/\ai l g 1=j1/\ai l g 2=j2/\aA g 0=i/\aA g 1=k/\g.kind=1:=by
 rw[h.eq];exact⟨aw h.h0,aw h.h1,aw h.h2,rfl,rfl,rfl⟩
theorem SlP.at{kd i z0 z1:Int}{j0 j:Jt}(h:SlP E l a g kd i z0 z1 j0 j):ai l g 0=j0/\ai l g 1=j/\aA g 0=i/\g.kind=kd:=by
 rw[h.eq];exact⟨aw h.h0,aw h.h1,rfl,rfl⟩
end
section
variable{ts:LL}
def qv(p:Rat×Rat):Et ts×Et ts:=(qE p.1,qE p.2)
theorem S4(p q:Rat×Rat):aK (qv p:Et ts×Et ts) (qv q)=qv (bF p q):=by
 unfold aK qv bF;rw[kq,kq]
theorem SM(p q:Rat×Rat):cR (qv p:Et ts×Et ts) (qv q)=qE (bQ p q):=by
 unfold cR dotE qv bQ;rw[l7,gG,gG]
def az(p q:Et ts×Et ts):Et ts:=cR (aK p q) (aK p q)
theorem r5(p q:Rat×Rat):az (qv p:Et ts×Et ts) (qv q)=qE (aX p q):=by
 unfold az aX;rw[S4,SM]
theorem xj(q:Rat):am (qE q:Et ts)=bP q:=T.sgn_ofQ _ _ q
theorem l8(x:Rat):0<=x*x:=by
 rcases(Rat.le_total:0<=x\/x<=0)with h |h
 ·exact Rat.mul_nonneg h h
 ·have h1 : 0 <= -x := by grind
  have h2:=Rat.mul_nonneg h1 h1;grind
theorem LS(p q:Rat×Rat):0<=aX p q:=by
 unfold aX bQ bF;have h1:=l8 (p.1-q.1);have h2:=l8 (p.2-q.2);dsimp only;grind
theorem sF(p q:Rat×Rat):0<=am (qE (aX p q):Et ts):=by
 rw[xj];have h:=LS p q;unfold bP;split
 ·grind
 ·split <;> omega
def bc(p:Et ts×Et ts)(r:Et ts)(q:Et ts×Et ts)(s:Et ts):Et ts:=qE 4*(r*az p q)-((r+az p q)-s)*((r+az p q)-s)
end
section
variable{E:Nat}{l:Li}{a:As}{g:Gr}
theorem KA{i k z0 z1 z2:Int}{j0 j1 j2:Jt}(h:RrrP E l a g i k z0 z1 z2 j0 j1 j2) :
  fN l a g=bc (an l a j0 i) (az (qv (ah l j2 i)) (qv (ah l j0 i))) (an l a j1 k) (az (qv (ah l j2 k)) (qv (ah l j1 k))):=by
 obtain⟨e0,e1,e2,b0,b1,hk⟩:=h.at;unfold fN bc;rw[if_neg oz,if_pos hk,e0,e1,e2,b0,b1,r5,r5];rfl
theorem Jp{i z0 z1:Int}{j0 j:Jt}(h:SlP E l a g 2 i z0 z1 j0 j) :
  fN l a g=cR (aK (ax l a j.b j.to) (ax l a j.b j.on)) (aK (ax l a j.b j.to) (ax l a j.b j.on))*az (qv (aB l i j.point)) (qv (ah l j0 i))
   - gj (aK (ax l a j.b j.to) (ax l a j.b j.on)) (aK (an l a j0 i) (ax l a j.b j.on))*gj (aK (ax l a j.b j.to) (ax l a j.b j.on)) (aK (an l a j0 i) (ax l a j.b j.on)):=by
 obtain⟨e0,e1,b0,hk⟩:=h.at;unfold fN;rw[if_neg oz,if_neg oz,if_pos hk,e0,e1,b0,r5]
end
theorem DyOk.ne{E:Nat}{l:Li}{k:Int}{a:As}{own:Bool}{n:Nat}{i k2 z0 z1 z2:Int}(h:DyOk E l k a own n ⟨1,[i,k2],[z0,z1,z2],0⟩):i≠k2:=by
 have hd:=h.dy;generalize hg:(⟨1,[i,k2],[z0,z1,z2],0⟩:Gr)=g at hd;cases hd with
 |drv _ _ _ _=>simp at hg
 |pr _ _ _=>simp at hg
 |rp _ _ _=>simp at hg
 |rrr ne _ _ _ _ _ _=>simp at hg;obtain⟨⟨rfl,rfl⟩,_⟩:=hg;exact ne
def EY(a:As):Bool:=a.bs.all (fun b=>kz a.rs b.l)&&(decide (a.bs.length<=20)&&kz a.rs []&&decide (a.rs.length<=1\/5<a.rs.length))
theorem PX{a:As}(h:EY a=true)(ha:a.ok):AL a:=by
 unfold EY at h;simp only[and_eq_true,decide_eq_true_eq,all_eq_true]at h;obtain⟨h1,⟨h2,h3⟩,_⟩:=h;have hlt:=DW h3 ha.rs xW;exact⟨hlt.tr,fun b hb=>(DW (h1 b hb) ha.rs (ha.bs b hb)).nr,hlt.ll,h2⟩
structure Bulk{H:Type}(bk:DataW H->Nat)(bka:List (DataW H)->Nat):Prop where
  one:∀d,1<=bk d
  nil:bka []=0
  cons:∀d l,bka (d::l)=bk d+bka l
  slice:∀e s,bka e+1<=bk (.slice e s)
  agg:∀l,bka l<=bk (.agg l)
section
variable{P:Program}{W:World}{H:Type}{enc:TypeId×Value->H}{bk:DataW H->Nat}{bka:List (DataW H)->Nat}
theorem Bulk.pick(B:Bulk bk bka){α:Type}{m:α->Nat}:∀{l:List α}{xs:List (DataW H)},l.length<=xs.length->(∀(i:Nat)(a:α),l[i]?=some a->∃x,xs[i]?=some x/\m a<=bk x)->(l.map m).sum<=bka xs
 |[],xs,_,_=>by simp
 |a::l,[],hl,_=>by simp at hl
 |a::l,x::xs,hl,h=>by
  obtain⟨y,hy,h1⟩:=h 0 a rfl;cases hy;have h2:=B.pick (l:=l) (xs:=xs) (by simpa using hl) (fun i b hb=>h (i+1) b hb);rw[B.cons,map_cons,List.sum_cons];omega
def tu(P:Program)(W:World)(enc:TypeId×Value->H)(bk:DataW H->Nat)(t:TypeId){α:Type}(f:α->AV)(p:α->Prop)(m:α->Nat):Prop :=
  ∀(sp:Nat->Bool)(fuel:Nat)(cs:List Value)(x:DataW H×List MemPlace),DataW.trod enc P W 0 sp true fuel t cs=some x->(∀n∈x.1.weights P t,n<=reachBytes)->∃a,p a/\nB W cs (f a).cells/\m a<=bk x.1
theorem cT.m{t:TypeId}{α:Type}{f:α->AV}{p:α->Prop}(h:cT P W enc t f p):tu P W enc bk t f p (fun _=>0):=by
 intro sp fuel cs x hx hw;obtain⟨a,h1,h2⟩:=h sp fuel cs x hx hw;exact⟨a,h1,h2,zero_le _⟩
theorem cT.m1(B:Bulk bk bka){t:TypeId}{α:Type}{f:α->AV}{p:α->Prop}(h:cT P W enc t f p):tu P W enc bk t f p (fun _=>1):=by
 intro sp fuel cs x hx hw;obtain⟨a,h1,h2⟩:=h sp fuel cs x hx hw;exact⟨a,h1,h2,B.one _⟩
theorem tu.map{α β:Type}{t:TypeId}{f:α->AV}{p:α->Prop}{m:α->Nat}(h:tu P W enc bk t f p m)(g:α->β)(f':β->AV)(p':β->Prop)(m':β->Nat)(hg:∀a,p a->p' (g a)/\f' (g a)=f a/\m' (g a)<=m a):tu P W enc bk t f' p' m':=by
 intro sp fuel cs x hx hwt;obtain⟨a,ha,hc,hm⟩:=h sp fuel cs x hx hwt;obtain⟨h1,h2,h3⟩:=hg a ha;exact⟨g a,h1,by rw[h2];exact hc,le_trans h3 hm⟩
end
open Go.Proofs
section
variable{W:World}{H:Type}{enc:TypeId×Value->H}
theorem Tf:cT prog W enc 350 (fun n:Nat=>u32 n) (fun n=>n<4294967296) :=
 (zJ (k:=.u32) Tryz.underlying350).map Int.toNat _ _ (fun n h=>by
  have h1:0<=n/\n<=4294967295:=by simpa[Lit.wf,IntKind.min,IntKind.max,IntKind.signed,IntKind.bits]using h
  have h2:((n.toNat:Nat):Int)=n:=by omega
  exact⟨by omega,by unfold u32;rw[h2]⟩)
theorem G0:cT prog W enc 43 ws (fun l=>Ws l/\l.length<=281474976710656) :=
 (q5 Tryz.underlying43 (n:=1) (by kernel_rfl) oz (by kernel_rfl) Tf (fun _=>rfl)).map id _ _ (fun l h=>⟨⟨fun x hx=>h.1 x hx,h.2⟩,rfl⟩)
theorem GV:cT prog W enc 4 bl (fun _=>True):=SC Tryz.underlying4
theorem oA:cT prog W enc 3 i64 (fun _=>True):=(zJ (k:=.i64) Tryz.underlying3).map id _ _ (fun n h=>⟨trivial,rfl⟩)
theorem tF:cT prog W enc 9 (fun s:ByteArray=>AV.v (.string s)) (fun s=>s.size<=281474976710656):=Qc Tryz.underlying9
theorem uE:cT prog W enc 45 Rt.av Rt.wok :=
 (lC (n := 3) Tryz.underlying45 (by kernel_rfl)
  (.cons rfl (n:=1) (by kernel_rfl) GV (fun _=>rfl) (.cons rfl (n:=1) (by kernel_rfl) G0 (fun _=>rfl) (.cons rfl (n:=1) (by kernel_rfl) G0 (fun _=>rfl) (.nil _)))) (fun _=>rfl)).map
  (fun z=>⟨z.1,z.2.1,z.2.2.1⟩) _ _ (fun z h=>⟨⟨h.2.1.1,h.2.2.1.1⟩,rfl⟩)
theorem L3:cT prog W enc 47 Tn.av (fun x=>x.t.wok) :=
 (lC (n := 4) Tryz.underlying47 (by kernel_rfl) (.cons rfl (n := 3) (by kernel_rfl) uE (fun _ => rfl) (.cons rfl (n := 1) (by kernel_rfl) GV (fun _ => rfl) (.nil _))) (fun _ => rfl)).map
  (fun z=>⟨z.1,z.2.1⟩) _ _ (fun z h=>⟨h.1,rfl⟩)
theorem UL:cT prog W enc 175 Mk.av (fun m=>m.name.size<=281474976710656/\m.x.wok/\m.y.wok) :=
 (lC (n := 7) Tryz.underlying175 (by kernel_rfl)
  (.cons rfl (n:=1) (by kernel_rfl) tF (fun _=>rfl) (.cons rfl (n:=3) (by kernel_rfl) uE (fun _=>rfl) (.cons rfl (n:=3) (by kernel_rfl) uE (fun _=>rfl) (.nil _)))) (fun _=>rfl)).map
  (fun z=>⟨z.1,z.2.1,z.2.2.1⟩) _ _ (fun z h=>⟨⟨h.1,h.2.1,h.2.2.1⟩,rfl⟩)
theorem Oc:cT prog W enc 173 Bd.av (fun b=>b.name.size<=281474976710656/\b.pts.length<=281474976710656/\∀m∈b.pts,m.name.size<=281474976710656/\m.x.wok/\m.y.wok) :=
 (lC (n := 2) Tryz.underlying173 (by kernel_rfl)
  (.cons rfl (n:=1) (by kernel_rfl) tF (fun _=>rfl) (.cons rfl (n:=1) (by kernel_rfl) (q5 Tryz.underlying171 (n:=7) (by kernel_rfl) oz (by kernel_rfl) UL (fun _=>rfl)) (fun _=>rfl) (.nil _))) (fun _=>rfl)).map
  (fun z=>⟨z.1,z.2.1⟩) _ _ (fun z h=>⟨⟨h.1,h.2.1.2,h.2.1.1⟩,rfl⟩)
theorem Kp:cT prog W enc 75 Jt.av (fun j=>j.name.size<=281474976710656) :=
 (lC (n := 7) Tryz.underlying75 (by kernel_rfl)
  (.cons rfl (n := 1) (by kernel_rfl) tF (fun _ => rfl) (.cons rfl (n := 1) (by kernel_rfl) oA (fun _ => rfl) (.cons rfl (n := 1) (by kernel_rfl) oA (fun _ => rfl) (.cons rfl (n := 1) (by kernel_rfl) oA (fun _ => rfl)
   (.cons rfl (n:=1) (by kernel_rfl) oA (fun _=>rfl) (.cons rfl (n:=1) (by kernel_rfl) oA (fun _=>rfl) (.cons rfl (n:=1) (by kernel_rfl) oA (fun _=>rfl) (.nil _)))))))) (fun _=>rfl)).map
  (fun z=>⟨z.1,z.2.1,z.2.2.1,z.2.2.2.1,z.2.2.2.2.1,z.2.2.2.2.2.1,z.2.2.2.2.2.2.1⟩) _ _ (fun z h=>⟨h.1,rfl⟩)
theorem PT:cT prog W enc 185 Dr.av (fun d=>d.name.size<=281474976710656) :=
 (lC (n := 2) Tryz.underlying185 (by kernel_rfl) (.cons rfl (n := 1) (by kernel_rfl) tF (fun _ => rfl) (.cons rfl (n := 1) (by kernel_rfl) oA (fun _ => rfl) (.nil _))) (fun _ => rfl)).map
  (fun z=>⟨z.1,z.2.1⟩) _ _ (fun z h=>⟨h.1,rfl⟩)
abbrev PR(l:Li):List AV:=[.v (.string l.name),.lst 2 (l.bo.map Bd.av),.lst 7 (l.jo.map Jt.av),.lst 2 (l.dv.map Dr.av)]
theorem UR:cT prog W enc 26 (fun l:Li=>.agg (PR l)) Li.okw :=
 (lC (n := 4) Tryz.underlying26 (by kernel_rfl)
  (.cons rfl (n := 1) (by kernel_rfl) tF (fun _ => rfl)
   (.cons rfl (n := 1) (by kernel_rfl) (q5 Tryz.underlying22 (n := 2) (by kernel_rfl) oz (by kernel_rfl) Oc (fun _ => rfl)) (fun _ => rfl)
    (.cons rfl (n := 1) (by kernel_rfl) (q5 Tryz.underlying23 (n := 7) (by kernel_rfl) oz (by kernel_rfl) Kp (fun _ => rfl)) (fun _ => rfl)
     (.cons rfl (n:=1) (by kernel_rfl) (q5 Tryz.underlying24 (n:=2) (by kernel_rfl) oz (by kernel_rfl) PT (fun _=>rfl)) (fun _=>rfl) (.nil _))))) (fun _=>rfl)).map
  (fun z=>⟨z.1,z.2.1,z.2.2.1,z.2.2.2.1⟩) _ _ (fun z h=>⟨⟨h.1,h.2.1.1,h.2.2.1.1,h.2.2.2.1.1,h.2.1.2,h.2.2.1.2,h.2.2.2.1.2⟩,rfl⟩)
theorem Ow:cT prog W enc 49 Plc.av (fun x=>x.x.wok/\x.y.wok) :=
 (lC (n := 6) Tryz.underlying49 (by kernel_rfl) (.cons rfl (n := 3) (by kernel_rfl) uE (fun _ => rfl) (.cons rfl (n := 3) (by kernel_rfl) uE (fun _ => rfl) (.nil _))) (fun _ => rfl)).map
  (fun z=>⟨z.1,z.2.1⟩) _ _ (fun z h=>⟨⟨h.1,h.2.1⟩,rfl⟩)
theorem Rd:cT prog W enc 51 Pse.av Pse.wok :=
 (lC (n := 10) Tryz.underlying51 (by kernel_rfl) (.cons rfl (n := 4) (by kernel_rfl) L3 (fun _ => rfl) (.cons rfl (n := 6) (by kernel_rfl) Ow (fun _ => rfl) (.nil _))) (fun _ => rfl)).map
  (fun z=>⟨z.1,z.2.1⟩) _ _ (fun z h=>⟨⟨h.1,h.2.1.1,h.2.1.2⟩,rfl⟩)
theorem Rm:cT prog W enc 27 (fun l:List Pse=>.lst 10 (l.map Pse.av)) (fun l=>(∀x∈l,x.wok)/\l.length<=281474976710656) :=
 q5 Tryz.underlying27 (n:=10) (by kernel_rfl) oz (by kernel_rfl) Rd (fun _=>rfl)
theorem TB:cT prog W enc 5 (fun n:Nat=>AV.v (.int .u8 n)) (fun n=>n<256) :=
 (zJ (k:=.u8) Tryz.underlying5).map Int.toNat _ _ (fun n h=>by
  have h1:0<=n/\n<=255:=by simpa[Lit.wf,IntKind.min,IntKind.max,IntKind.signed,IntKind.bits]using h
  have h2:((n.toNat:Nat):Int)=n:=by omega
  exact⟨by omega,by rw[h2]⟩)
abbrev Mj(z:Li×List Pse):List AV:=[.v (.string z.1.name),.lst 2 (z.1.bo.map Bd.av),.lst 7 (z.1.jo.map Jt.av),.lst 2 (z.1.dv.map Dr.av),.lst 10 (z.2.map Pse.av)]
theorem UY:cT prog W enc 29 (fun z:Li×List Pse=>.agg (Mj z)) (fun z=>z.1.okw/\(∀p∈z.2,p.wok)/\z.2.length<=281474976710656) :=
 (lC (n := 5) Tryz.underlying29 (by kernel_rfl) (.cons rfl (n := 4) (by kernel_rfl) UR (fun _ => rfl) (.cons rfl (n := 1) (by kernel_rfl) Rm (fun _ => rfl) (.nil _))) (fun _ => rfl)).map
  (fun z=>⟨z.1,z.2.1⟩) _ _ (fun z h=>⟨⟨h.1,h.2.1.1,h.2.1.2⟩,rfl⟩)
end
open Go.Proofs Go.Proofs.YtpdiojikejnehaaGreat
open Go.ChangeShapes Go.WideShapes Go.ChangeAt Go.RowKit
theorem own:ownKnob prog.godebug=none:=by kernel_rfl
theorem IR:laidOutB prog=true:=by kernel_rfl
theorem QK:prog.stopsHeard=true:=by kernel_rfl
theorem Pr:prog.plainKeys=true:=by kernel_rfl
theorem VJ:mapsRowed prog=true:=by kernel_rfl
theorem VH:prog.mayEnter=true:=by kernel_rfl
theorem KD:prog.liftsFinal=false:=by kernel_rfl
theorem PG{v:Value}(h:∀cs,v≠.agg cs):v.cells=#[v]:=by
 cases v <;> first |rfl |exact absurd rfl (h _)
theorem LV{P:Program}{W:World}{r:Reach}{b0:Nat}{t:TypeId}{k:IntKind}{v:Value}(ht:P.underlying t=some (.int k))(hval:Value.okWide P W r b0 t v):v.cells=#[v]:=by
 refine PG (fun cs h=>?_);subst h;unfold Value.okWide at hval;rw[ht]at hval;unfold Cell.okWide at hval;rw[ht]at hval;unfold Cell.ok at hval;rw[ht]at hval;exact hval
theorem Dq{H:Type}{enc:TypeId×Value->H}{W W':World}{t:TypeId}{v:Value}{d:DataW H}{ps:List MemPlace}{sp':Nat->Bool}(hr:prog.readableRec t=true)(ht:t<prog.types.size)
  (h:DataW.Trod enc prog W 0 (fun _=>true) true t v d ps) (hb:Below W.heap.size W W') (hlt:∀x∈ps,x.block<W.heap.size) (hs:∀p∈ps,sp' p.block=true):DataW.Trod enc prog W' 0 sp' true t v d ps :=
 WideElems.Trod_stays IR hr ht h (fun x hx=>hb.same (hlt x hx)) hs
end Go.Lw
