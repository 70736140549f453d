/- CertifyAccepts: for any linkage, any turns and a further turn the law returns true and leaves its arguments as they were. No other condition. Part 4 of 8: what the later parts need -/
import Derived.Test.YtpdiojikejnehaaGreatUc
import Derived.Test.YtpdiojikejnehaaGreatRows
set_option linter.unusedVariables false
open List (mem_of_getElem? mem_cons_of_mem mem_append map_cons mem_cons all_cons length_cons mem_cons_self length_append length_nil getD_eq_getElem?_getD getElem?_eq_none all_eq_true getElem?_take getElem?_map getElem?_eq_getElem drop_eq_nil_of_le nil_append getElem?_replicate map_append length_take take_of_length_le drop_zero take_length not_mem_nil length_map drop_drop getElem_mem map_take length_replicate map_replicate map_set length_set)
open Nat (le_refl lt_of_lt_of_le lt_or_ge le_trans mul_le_mul_right mul_le_mul_left zero_le pow_add lt_of_le_of_lt)
open Option (map_eq_some_iff)
open Bool (and_eq_true or_eq_true)
open Int (toNat_natCast natAbs_natCast)
open Go.Proofs.Tryz
namespace Go.Lw
open Go.Proofs
theorem EW(a b:List Nat)(ha:Ws a)(hb:Ws b)(na:Nz a)(nb:Nz b)(hb0:b≠[])(la:a.length<aw)(lb:b.length<aw) :
  FP 367 [ws a,ws b] (.tup [ws (ofNat (val a/val b)),ws (ofNat (val a%val b))]):=by
 have la':=la;unfold aw at la lb;refine ai func367 ?_;refine gc (yN a b ha hb na nb) ?_;refine gC (fun t22=>?_) (fun t22=>?_)
 ·have h1:val a<val b:=by
   simp only[aa]at t22;split at t22
   ·assumption
   ·split at t22 <;> simp at t22
  refine gc (lG a ha oz) ?_;refine gR ?_;exact Nf (by rw[Nat.div_eq_of_lt h1];exact Sub.nil _ _ _) (by rw[Nat.mod_eq_of_lt h1];exact Sub.refl _)
 have h1:val b<=val a:=by
  simp only[aa]at t22;split at t22
  ·simp at t22
  ·omega
 refine gl ?_;refine gC (fun t27=>?_) (fun t27=>?_)
 ·have hl : b.length = 1 := by have := t27; simp [aa] at this; omega
  obtain⟨x,rfl⟩:∃x,b=[x]:=List.length_eq_one_iff.1 hl;have hx:x≠0:=nb x rfl;have hxB:x<4294967296:=hb x (by simp);have hv:val [x]=x:=by simp[val]
  have hm:=Nat.mod_lt (val a) (show 0<x by omega);refine gi (show _=some (u32 x)from rfl) ?_;refine gc (Is a x ha oz oz hxB) ?_;refine gc (lG [val a%x] (qK oz) (by simp[aw])) ?_;refine bh ?_;rw[hv];simp[val]
 have hl:b.length≠1:=by have:=t27;simp[aa]at this;omega
 obtain⟨n,hn⟩:∃n,b.length=n+2:=⟨b.length-2,by have:=List.length_pos_iff.2 hb0;omega⟩
 obtain⟨sh,v,hsh,hsh2,hv,wv,lv,vv,hvt,htop,hlo⟩:=SG hb nb hn
 have hab:b.length<=a.length:=by
  rcases lt_or_ge a.length b.length with h2 |h2
  ·have:=s9 ha nb h2;omega
  ·exact h2
 obtain⟨lq,hlq⟩:∃lq,a.length+1=lq+(n+2):=⟨a.length+1-(n+2),by omega⟩
 have hbt:=bI hb (n+1);refine gl ?_;refine ga (show _=((n+1:Nat):Int) by rw[dI oz];omega) ?_;refine gi (fS (n:=n+1) oz (by first |omega |(simp;omega))) ?_;refine gc (show ia _ _ _ (i64 (sh:Nat)) by rw[hsh];exact Jz _ hbt) ?_;refine gt (az (Bp 900 rfl b sh hb (by unfold aw;omega) hsh2) (bm rfl rfl) aB rfl rfl) ?_;refine gl ?_;refine gs (vI (.tmp rfl) (.none _) (.some _ (.tmp rfl) oz) T43 rfl T350 rfl oz oz rfl) ?_;refine gt (az (Bp 901 rfl a sh ha (by unfold aw;omega) hsh2) (bm rfl rfl) aB rfl rfl) ?_;refine gD ?_ (8,0);refine gW ((Wk.freeze (k:=900) rfl).trans<|Wk.of (sl:=[(0,some (ws a)),(1,some (ws b)),(8,some (i64 sh)),(9,some (ws v)),(10,some (.ms 901 1 0 (a.length+1)))]) (hp:=[(901,some (.row 1 ((a5 (a.length+1) (2^sh*val a)).map u32)))]) (.k (.k (.k (.cons rfl (Sub.of (JE hn hv)) (.k .nil))))) (.k .nil)) ?_;refine gl ?_;refine ga (show _=(lq:Int) by rw[lv,dI oz];omega) ?_;refine gs (gw (.tmp rfl) T43 rfl T350 rfl rfl oz (by dsimp only;omega) rfl) ?_;refine gl ?_;refine ga (show _=((n+1:Nat):Int) by rw[lv,dI oz];omega) ?_;refine gi (fS (n:=n+1) oz (by first |omega |(simp;omega))) ?_;refine gv (u64_in (by have:=bI wv (n+1);omega)) ?_;refine gl ?_;refine ga (show _=(n:Int) by rw[lv,dI oz];omega) ?_;refine gi (fS (n:=n) oz (by first |omega |(simp;omega))) ?_;refine gv (u64_in (by have:=bI wv n;omega)) ?_;refine gD ?_;refine ga (dI oz) ?_;refine ii [8,9,12,13] [] (fun(q u:List Nat)(j:Nat)=>[(10,some (.ms 901 1 0 (a.length+1))),(11,some (.ms 61 1 0 lq)),(14,some (i64 ((j:Int)-1)))]) (fun q u _=>[(901,some (.row 1 (u.map u32))),(61,some (.row 1 (q.map u32)))]) (fun q u j=>q.length=lq/\u.length=a.length+1/\Ws q/\Ws u/\j<=lq/\val (u.drop j)<val v/\2^sh*val a=val v*(4294967296^j*val (q.drop j))+val u) (fun _ _ j=>j) (List.replicate lq 0) (a5 (a.length+1) (2^sh*val a)) lq ⟨by simp,eL _ _,kQ _,jq _ _,le_refl _,by rw[vv];exact(Fq ha hsh2 hlq hlo).2,by rw[(Fq ha hsh2 hlq hlo).1];simp[val]⟩ ?_ (h2:=(.k (.cons rfl (BlkSub.of (by rw[map_replicate];rfl)) .nil)))
 rintro q u j ⟨hql,hul,wq,wu,hj,hlt,hU⟩ K1 J1;refine gC (fun t80=>?_) (fun t80=>?_) (st2:=(23,0))
 ·have hj0 : 1 <= j := by have := t80; simp [aa] at this; omega
  obtain⟨k,rfl⟩:∃k,j=k+1:=⟨j-1,by omega⟩
  obtain⟨W,hW⟩:∃W,W=val (be u k (n+3)):=⟨_,rfl⟩
  have hVl:val v<4294967296^(n+2):=by have:=bR v wv;rwa [lv]at this
  obtain⟨e1,e2,e3⟩:=S0 (u:=u) (q:=q) (k:=k) (lv:=n+2) wu oz oz hVl hlt hU;simp only[show n+2+1=n+3 from rfl]at e1 e2 e3;have hdig:=Kl wv (mo wu k (n+3)) lv (nO oz) hvt e1;rw[<- hW]at e1 e2 e3 hdig;have wp:=mo wu k (n+3);have b1:=bI wp n;have b2:=bI wp (n+1);have b3:=bI wp (n+2);have b4:=hdig.htop;have b5:=hdig.htopB;have b6:=hdig.hnext;obtain⟨top,htop'⟩:∃top,top=ah v (n+1):=⟨_,rfl⟩
  obtain⟨nx,hnx⟩:∃nx,nx=ah v n:=⟨_,rfl⟩
  obtain⟨hd,hhd⟩:∃hd,hd=ah (be u k (n+3)) (n+2)*4294967296+ah (be u k (n+3)) (n+1):=⟨_,rfl⟩
  obtain⟨th,hth⟩:∃th,th=ah (be u k (n+3)) n:=⟨_,rfl⟩
  rw[<- htop',<- hnx,<- hhd,<- hth]at hdig;rw[<- htop']at b4 b5 ⊢;rw[<- hnx]at b6 ⊢;rw[<- hth]at b1;have hdB:hd<18446744073709551616:=by omega
  refine gl ?_;refine ga (show _=((k+n+2:Nat):Int) by rw[lv,cV oz];omega) ?_;refine ga (show _=((k+n+3:Nat):Int) by rw[cV oz];omega) ?_;refine gs (vI (.tmp rfl) (.some _ (.tmp rfl) oz) (.some _ (.tmp rfl) oz) T43 rfl T350 rfl oz oz rfl) ?_ (14,0);refine gW (Wk.of (sl:=[(8,some (i64 sh)),(9,some (ws v)),(10,some (.ms 901 1 0 (a.length+1))),(11,some (.ms 61 1 0 lq)),(12,some (u64 top)),(13,some (u64 nx)),(14,some (i64 k)),(15,some (.ms 901 1 k (n+3)))]) (hp:=[(901,some (.row 1 (u.map u32))),(61,some (.row 1 (q.map u32)))]) (.k (.k (.k (.k (.k (.k (.cons rfl (Sub.int oz) (.cons rfl (Sub.of (by congr 1 <;> omega)) .nil)))))))) (.k (.k .nil))) ?_
  refine gl ?_;refine gs (mH (n:=n+2) (.tmp rfl) (.tmp rfl) T43 rfl T350 rfl oz oz rfl) ?_;refine gs (dQ (.tmp rfl) rfl (zF (n:=n+3) (i:=n+2) oz oz) T350 rfl rfl rfl) ?_;refine gv (u64_in oz) ?_;refine gs (io (.tmp rfl) (.const _) oz (p7 (n:=32) oz oz) rfl) ?_;refine gl ?_;refine ga (show _=((n+1:Nat):Int) by rw[lv,dI oz];omega) ?_;refine gs (mH (n:=n+1) (.tmp rfl) (.tmp rfl) T43 rfl T350 rfl oz oz rfl) ?_;refine gs (dQ (.tmp rfl) rfl (zF (n:=n+3) (i:=n+1) oz oz) T350 rfl rfl rfl) ?_;refine gv (u64_in oz) ?_;refine gs (jf (.tmp rfl) (.tmp rfl) rfl ((rI oz oz).trans (show _=(hd:Int) by rw[rV oz,hhd])) rfl) ?_;refine gD ?_;refine gs (jV (.tmp rfl) (.tmp rfl) oz (Bt hdB) rfl) ?_;refine gs (uJ (.tmp rfl) (.tmp rfl) oz Bn rfl) ?_;refine gD ?_;refine f0 [8,9,12,13,14] [901,61] (fun(g r:Nat)=>[(10,some (.ms 901 1 0 (a.length+1))),(11,some (.ms 61 1 0 lq)),(15,some (.ms 901 1 k (n+3))),(17,some (u64 g)),(18,some (u64 r))]) (fun _ _=>[]) (fun g r=>W/val v<=g/\g*top+r=hd/\g<18446744073709551616/\r<8589934592) (fun g _=>g) (hd/top) (hd%top) ⟨hdig.first,by rw[Nat.mul_comm];exact Nat.div_add_mod _ _,by have:=Nat.div_le_self hd top;omega,by have:=Nat.mod_lt hd (show 0<top by omega);omega⟩ ?_
  rintro g r ⟨hg,hgr,hgB,hrB⟩ K2 J2;refine m8 (fun⟨h,h2⟩=>(vB (by simp[aa]at h2;have:=wt (x:=g) (y:=nx) oz b6;omega))) ?_;refine gs (pY rfl rfl rfl (fun h h2=>io (.opt rfl (o2 h h2)) (.const _) oz (p7 (n:=32) oz (by simp[aa]at h;omega)) rfl)) ?_;refine cF ?_;refine m8 (fun _=>(show _=(n:Int) by rw[lv,dI oz];omega)) ?_;refine gs (pY rfl rfl rfl (fun h h2=>mH (n:=n) (.opt rfl (o2 h h2)) (.opt rfl (o2 h h2)) T43 rfl T350 rfl oz oz rfl)) ?_;refine gs (pY rfl rfl rfl (fun h h2=>dQ (.opt rfl (o2 h h2)) rfl (zF (n:=n+3) (i:=n) oz oz) T350 rfl rfl rfl)) ?_;refine Ma (fun _=>(u64_in oz)) ?_;refine gs (pY rfl rfl rfl (fun h h2=>jf (.opt rfl (o2 h h2)) (.opt rfl (o2 h h2)) rfl ((rI (by simp[aa]at h;omega) oz).trans (by rw[rV oz])) rfl)) ?_;refine gC (fun t133=>?_) (fun t133=>?_)
  ·have hc:r<4294967296/\(4294967296<=g\/r*4294967296+th<g*nx):=by
    rw[hth];have h9:=Gh.1 t133
    rwa [show r*2^32=r*4294967296 from rfl]at h9
   have hg1:=hdig.step hg hgr hc.2;have hg0:1<=g:=Nat.succ_le_of_lt (lt_of_le_of_lt (zero_le _) hg1);refine ga (Cz oz oz) ?_;refine ga (iu oz) ?_;exact fC J2 (g-1) (r+top) ⟨Nat.le_sub_one_of_lt hg1,by rw[Nat.sub_mul];have:=mul_le_mul_right top (show 1<=g by omega);omega,by omega,by omega⟩
  have hc:¬(r<4294967296/\(4294967296<=g\/r*4294967296+th<g*nx)):=by
   rw[hth];intro hh;rw[show r*4294967296=r*2^32 from rfl]at hh;exact Bool.eq_false_iff.1 t133 (Gh.2 hh)
  obtain⟨hgB2,hgq⟩:=hdig.last hgr hc;have hVp:=hdig.vpos;have hWl:val (be u k (n+3))<4294967296^(n+3):=by have:=bR _ wp;rwa [nO oz]at this
  obtain⟨p1,p2⟩:=IR hVp (show val v<=4294967296^(n+3) by have:=Nat.pow_le_pow_right (show 0<4294967296 by omega) (show n+2<=n+3 by omega);omega) (hW▸hWl) hg hgq;have hwul:k+(n+3)<=u.length:=by omega
  have hwr:(wr u k (a5 (n+3) (jm g (val v) W (n+3)))).length=a.length+1:=by rw[lh (by rw[eL];omega),hul]
  refine gt (az (Con.rk 901 rfl rfl (KH u v k (n+3) g wu wv oz hwul hgB2 (by unfold aR;omega))) (aE rfl rfl rfl) aB rfl rfl) ?_;refine gC (fun t142=>?_) (fun t142=>?_)
  ·have hlt2 : W < g * val v := by rw [hW]; simpa using t142
   obtain⟨q1,q2,q3⟩:=p1 hlt2;have hrl:jm g (val v) W (n+3)<4294967296^(n+3):=by unfold jm;rw[if_neg oz];rw[<- hW]at hWl;omega
   refine ga (Cz oz oz) ?_;refine gt (az (Con.rk 901 rfl rfl (JM (wr u k (a5 (n+3) (jm g (val v) (val (be u k (n+3))) (n+3)))) v k (n+3) (oh wu (jq _ _)) wv oz (by rw[<- hW,hwr];omega) (by rw[<- hW,hwr];unfold aR;omega))) (bm rfl rfl) aB rfl rfl) ?_;refine gv ((df _).trans (by rw[Nat.mod_eq_of_lt oz])) ?_;refine gs (bP (n:=k) (.tmp rfl) (.tmp rfl) T43 rfl T350 rfl oz oz rfl) ?_;refine gs (dk (.tmp rfl) rfl (bT (i:=k) oz) rfl (.tmp rfl) rfl rfl T350 rfl rfl) ?_;refine ga (dI oz) ?_;exact f8 J1 (q.set k (W/val v)) (wr u k (a5 (n+3) (W%val v))) k ⟨by simp[hql],by rw[lh (by rw[eL];omega),hul],fA wq hdig.q_lt,oh wu (jq _ _),by omega,e2,e3⟩ (hw:=Wk.of aW (.cons rfl (BlkSub.of (by rw[<- hW];first |(rw[q1];done) |(rw[Cq (r:=W%val v) hwul (eL _ _) (by rw[kD _ _ hrl];exact q1)];done))) (.cons rfl (BlkSub.of (by rw[map_set,q2];rfl)) .nil)))
  have hlt2:¬W<g*val v:=by rw[hW];simpa using t142
  obtain⟨q1,q2⟩:=p2 hlt2;refine gv ((df _).trans (by rw[Nat.mod_eq_of_lt oz])) ?_;refine gs (bP (n:=k) (.tmp rfl) (.tmp rfl) T43 rfl T350 rfl oz oz rfl) ?_;refine gs (dk (.tmp rfl) rfl (bT (i:=k) oz) rfl (.tmp rfl) rfl rfl T350 rfl rfl) ?_;refine ga (dI oz) ?_;exact f8 J1 (q.set k (W/val v)) (wr u k (a5 (n+3) (W%val v))) k ⟨by simp[hql],by rw[lh (by rw[eL];omega),hul],fA wq hdig.q_lt,oh wu (jq _ _),by omega,e2,e3⟩ (hw:=Wk.of aW (.cons rfl (BlkSub.of (by rw[<- hW];first |(rw[q1];done) |(rw[Cq (r:=W%val v) hwul (eL _ _) (by rw[kD _ _ hrl];exact q1)];done))) (.cons rfl (BlkSub.of (by rw[map_set,q2];rfl)) .nil)))
 have hj0:j=0:=by have:=t80;simp[aa]at this;omega
 subst hj0;have hU':2^sh*val a=2^sh*val b*val q+val u:=by rw[<- vv];simpa using hU
 obtain⟨hQ,hR⟩:=S8 hU' (by rw[<- vv];simpa using hlt);refine gW ((Wk.freeze (k:=61) rfl).trans<|(Wk.freeze (k:=901) rfl).trans<|Wk.of (sl:=[(8,some (i64 sh)),(10,some (ws u)),(11,some (ws q))]) (hp:=[]) (.k (.cons rfl (Sub.of (bJ (by simp[hul]))) (.cons rfl (Sub.of (by rw[show AV.fz 61 1 (q.map u32) (.ms 61 1 0 lq)=ws q from bJ (by simp[hql])];rfl)) .nil))) .nil) ?_;refine gc (lG q wq (by unfold aw;omega)) ?_;refine gc (Iz u sh wu (by unfold aw;omega) hsh2) ?_;refine bh ?_;rw[<- hQ,<- hR]
theorem vL{b:Bool}{n:Nat}:(cond b (aa .gtr ((ofNat n).length:Int) 0) false)=true↔(b=true/\0<n):=by
 have h:aa .gtr ((ofNat n).length:Int) 0=true↔0<n:=by
  simp only[aa,decide_eq_true_eq];constructor
  ·intro h;rcases Nat.eq_zero_or_pos n with h1 |h1;(subst h1;simp[MP]at h);exact h1
  ·intro h;have:ofNat n ≠ []:=by intro h1; have:=bS n; rw [h1] at this; simp [val] at this; omega
   have:=List.length_pos_iff.2 this;omega
 cases b with
 |false=>simp
 |true=>exact⟨fun h1=>⟨rfl,h.1 h1⟩,fun h1=>h.2 h1.2⟩
theorem yq(a:Wh)(ha:a.ok):FP 306 [a.av] (i64 a.z.sign):=by
 obtain⟨e1,e2,e3⟩:=HW ha;refine ai func306 ?_;refine gc (ju a ha) ?_;refine gl ?_;refine gC (fun t3=>?_) (fun t3=>?_)
 ·have h0 : a.m.length = 0 := by simpa [aa] using t3
  refine af ?_;rw[e1 h0];rfl
 have h0:a.m.length≠0:=by simpa[aa]using t3
 refine gC (fun t8=>?_) (fun t8=>?_)
 ·refine af ?_;rw[e2 h0 t8];rfl
 refine af ?_;rw[e3 h0 t8];rfl
theorem RU(a b:Wh)(ha:a.ok)(hb:b.ok):FP 304 [a.av,b.av] (i64 (fZ a.z b.z)):=by
 refine ai func304 ?_;refine gc (yq a ha) ?_;refine gc (yq b hb) ?_;refine gD ?_;refine gC (fun t14=>?_) (fun t14=>?_)
 ·have h0 : a.z.sign ≠ b.z.sign := by simpa [aa] using t14
  obtain⟨e1,e2⟩:=NL h0;refine gC (fun t17=>?_) (fun t17=>?_)
  ·have h1 : a.z.sign < b.z.sign := by simpa [aa] using t17
   refine af ?_;rw[e1 h1];rfl
  have h1:¬a.z.sign<b.z.sign:=by simpa[aa]using t17
  refine af ?_;rw[e2 h1];rfl
 have h0:a.z.sign=b.z.sign:=by simpa[aa]using t14
 have e1:=Q4 h0;refine gc (ju a ha) ?_;refine gc (ju b hb) ?_;refine gc (yN a.m b.m (Wh.ws ha) (Wh.ws hb) a.nz b.nz) ?_;refine gD ?_;refine gc (ib a ha) ?_;refine gC (fun t24=>?_) (fun t24=>?_)
 ·rw[t24,if_pos rfl]at e1;refine gs (AU (.tmp rfl) rfl) ?_;refine af ?_;rw[e1];split
  ·rfl
  ·split <;> rfl
 rw[t24,if_neg Bool.false_ne_true]at e1;refine af ?_
 first |(rw[e1];done) |(rw[e1];rfl)
theorem U8(a:Wh)(ha:a.ok)(la:a.mag.length<aw):FP 234 [a.av] (zA (-a.z)):=by
 refine ai func234 ?_;refine gc (ib a ha) ?_;refine gc (ju a ha) ?_;refine gc (jB _ a.m (Wh.ws ha) (Nat.le_of_lt (Wh.small ha la))) ?_;refine gD ?_;refine af ?_;rw[Wh.z_eq,<- HH];rfl
theorem Vb(a b:Wh)(ha:a.ok)(hb:b.ok)(la:a.mag.length+b.mag.length<=aw):FP 321 [a.av,b.av] (zA (a.z*b.z)):=by
 have h1:=Wh.m_le (w:=a);have h2:=Wh.m_le (w:=b);have h3:(ofNat (val a.m*val b.m)).length<=a.m.length+b.m.length:=en (by rw[pow_add];exact Nat.mul_lt_mul'' (bR _ (Wh.ws ha)) (bR _ (Wh.ws hb)));refine ai func321 ?_;refine gc (ib a ha) ?_;refine gc (ib b hb) ?_;refine gc (ju a ha) ?_;refine gc (ju b hb) ?_;refine gc (Qa a.m b.m (Wh.ws ha) (Wh.ws hb) oz) ?_;refine gc (jB _ _ (cQ _) oz) ?_;refine gD ?_;refine af ?_;rw[bS,Eg];rfl
theorem JJ(a b:Wh)(ha:a.ok)(hb:b.ok)(la:a.mag.length<aw)(lb:b.mag.length<aw):FP 320 [a.av,b.av] (zA (a.z+b.z)):=by
 have h1:=Wh.m_le (w:=a);have h2:=Wh.m_le (w:=b);have hla:val a.m<4294967296^(max a.m.length b.m.length):=lt_of_lt_of_le (bR _ (Wh.ws ha)) (Nat.pow_le_pow_right oz oz);have hlb:val b.m<4294967296^(max a.m.length b.m.length):=lt_of_lt_of_le (bR _ (Wh.ws hb)) (Nat.pow_le_pow_right oz oz);have h3:(ofNat (val a.m+val b.m)).length<=max a.m.length b.m.length+1:=en (by rw[Nat.pow_succ];omega);have h4:(ofNat (val a.m-val b.m)).length<=max a.m.length b.m.length:=en oz;have h5:(ofNat (val b.m-val a.m)).length<=max a.m.length b.m.length:=en oz;refine ai func320 ?_;refine gc (ju a ha) ?_;refine gc (ju b hb) ?_;refine gD ?_;refine gc (ib a ha) ?_;refine gc (ib b hb) ?_;refine gD ?_;refine gC (fun t11=>?_) (fun t11=>?_)
 ·have h0 : a.n = b.n := by simpa using t11
  refine gc (ib a ha) ?_;refine gc (DN a.m b.m (Wh.ws ha) (Wh.ws hb) oz oz) ?_;refine gc (jB _ _ (cQ _) oz) ?_;refine af ?_;rw[bS,HO h0];rfl
 have h0:a.n≠b.n:=by simpa using t11
 refine gc (yN a.m b.m (Wh.ws ha) (Wh.ws hb) a.nz b.nz) ?_;refine gC (fun t23=>?_) (fun t23=>?_)
 ·have h6:val b.m<=val a.m:=by
   rcases lt_or_ge (val a.m) (val b.m)with h |h
   ·rw[if_pos h]at t23;cases t23
   ·exact h
  refine gc (ib a ha) ?_;refine gc (yB a.m b.m (Wh.ws ha) (Wh.ws hb) oz (by rcases lt_or_ge a.m.length b.m.length with h |h;(have:=s9 (Wh.ws ha) b.nz h;omega);exact h) h6) ?_;refine gc (jB _ _ (cQ _) oz) ?_;refine af ?_;rw[bS,yF h0 h6];rfl
 have h6:val a.m<val b.m:=by
  rcases lt_or_ge (val a.m) (val b.m)with h |h
  ·exact h
  ·rw[if_neg oz]at t23;split at t23 <;> cases t23
 refine gc (ib b hb) ?_;refine gc (yB b.m a.m (Wh.ws hb) (Wh.ws ha) oz (by rcases lt_or_ge b.m.length a.m.length with h |h;(have:=s9 (Wh.ws hb) a.nz h;omega);exact h) oz) ?_;refine gc (jB _ _ (cQ _) oz) ?_;refine af ?_;rw[bS,Gk h0 oz];rfl
theorem GU(a b:Wh)(ha:a.ok)(hb:b.ok)(la:a.mag.length<aw)(lb:b.mag.length<aw):FP 305 [a.av,b.av] (zA (Int.gcd a.z b.z)):=by
 refine ai func305 ?_;refine gc (ju a ha) ?_;refine gc (ju b hb) ?_;refine gD ?_;refine f0 [4] [4] (fun(x y:List Nat)=>[(5,some (ws x)),(6,some (ws y))]) (fun _ _=>[]) (fun x y=>Ws x/\Ws y/\Nz x/\Nz y/\x.length<aw/\y.length<aw/\Nat.gcd (val x) (val y)=Int.gcd a.z b.z) (fun _ y=>val y) a.m b.m ⟨Wh.ws ha,Wh.ws hb,a.nz,b.nz,Wh.small ha la,Wh.small hb lb,by rw[Int.gcd,Wh.abs,Wh.abs]⟩ ?_;rintro x y ⟨wx,wy,nx,ny,lx,ly,hg⟩ K1 J1;refine gl ?_;refine gC (fun t15=>?_) (fun t15=>?_)
 ·have hy : y ≠ [] := by intro h; subst h; simp [aa] at t15
  have hy0:=nf ny hy;have hm:=Nat.mod_lt (val x) hy0;refine gc (EW x y wx wy nx ny hy lx ly) ?_;exact fC J1 y (ofNat (val x%val y)) ⟨wy,cQ _,ny,o6 _,ly,lt_of_le_of_lt (en (Nat.lt_trans hm (bR y wy))) ly,by rw[bS,<- hg,Nat.gcd_comm (val x) (val y),Nat.gcd_comm (val y) (val x%val y)];exact(Nat.gcd_rec _ _).symm⟩ (by show val (ofNat _)<val y;rw[bS];exact hm)
 have hy:y=[]:=by
  cases y with
  |nil=>rfl
  |cons c l=>simp[aa]at t15
 subst hy;have hg':val x=Int.gcd a.z b.z:=by rw[<- hg];simp[val]
 refine gc (jB false x wx (Nat.le_of_lt lx)) ?_;refine af ?_;rw[hg'];rfl
theorem IS(a b:Wh)(ha:a.ok)(hb:b.ok)(la:a.mag.length+1<aw)(lb:b.mag.length<aw)(h0:b.z≠0):FP 322 [a.av,b.av] (.tup [zA (a.z/b.z),zA (a.z%b.z),.v .nilIface]):=by
 have hm1:=Wh.m_le (w:=a);have hm2:=Wh.m_le (w:=b);have hb1:val b.m≠0:=by have:=Wh.abs (w:=b);omega
 have hb2:b.m≠[]:=fun h=>hb1 (by rw[h];rfl)
 have hl1:(ofNat (val a.m/val b.m)).length<=a.m.length:=en (lt_of_le_of_lt (Nat.div_le_self _ _) (bR _ (Wh.ws ha)));have hmod:=Nat.mod_lt (val a.m) (show 0<val b.m by omega);have hl2:(ofNat (val a.m%val b.m)).length<=b.m.length:=en (Nat.lt_trans hmod (bR _ (Wh.ws hb)));have hl3:(ofNat (val a.m/val b.m+1)).length<=a.m.length+1:=en (by have h7:=lt_of_le_of_lt (Nat.div_le_self (val a.m) (val b.m)) (bR _ (Wh.ws ha));rw[Nat.pow_succ];generalize val a.m/val b.m=m at *;omega);have hl4:(ofNat (val b.m-val a.m%val b.m)).length<=b.m.length:=en (by have:=bR _ (Wh.ws hb);omega);have hv1:val [1]=1:=rfl;refine ai func322 ?_;refine gc (ju b hb) ?_;refine gl ?_;refine gC (fun t14=>?_) (fun t14=>?_) (st1:=(3,0));exact absurd (List.length_eq_zero_iff.1 (by simpa[aa]using t14)) hb2;refine gc (ju a ha) ?_;refine gc (EW a.m b.m (Wh.ws ha) (Wh.ws hb) a.nz b.nz hb2 oz oz) ?_;refine gc (ib a ha) ?_;refine cF ?_;refine gC (fun t31=>?_) (fun t31=>?_)
 ·have h1:a.n = true /\ 0 < val a.m % val b.m:=vL.1 t31;obtain ⟨e1,e2⟩:=FR hb1 h1.1 h1.2;refine gc (DN (ofNat (val a.m / val b.m)) [1] (cQ _) (qK oz) oz (by unfold aw; simp)) ?_;refine gc (yB b.m (ofNat (val a.m % val b.m)) (Wh.ws hb) (cQ _) oz hl2 (by rw [bS]; omega)) ?_ (7,0);refine gW (Wk.of (sl:=[(2,some (.ptr 2 0)),(3,some (.ptr 3 0)),(4,some (.ptr 4 0)),(5,some (.ptr 5 0)),(8,some (ws (ofNat (val a.m / val b.m + 1)))),(9,some (ws (ofNat (val b.m - val a.m % val b.m))))]) (hp:=[(2,some (.box [bl a.neg,ws a.mag])),(3,some (.box [bl b.neg,ws b.mag])),(4,some (.box [.v (.bool false),nS])),(5,some (.box [.v (.bool false),nS]))]) (.k (.k (.k (.k (.cons rfl (Sub.of (by rw [bS,hv1])) (.cons rfl (Sub.of (by rw [bS])) .nil)))))) (.k (.k (.k (.k .nil))))) ?_
  refine gc (ib a ha) ?_;refine gc (ib b hb) ?_;refine gc (by apply jB _ _ (cQ _) oz) ?_;refine gc (by apply jB _ _ (cQ _) oz) ?_;refine gD ?_;refine gR ?_;exact qo (by rw[bS,bS,e1,show sgn false _=_ from e2];rfl)
 have h1:¬(a.n=true/\0<val a.m%val b.m):=fun h=>Bool.eq_false_iff.1 t31 (vL.2 h)
 obtain⟨e1,e2⟩:=Gi hb1 h1;refine gc (ib a ha) ?_;refine gc (ib b hb) ?_;refine gc (by apply jB _ _ (cQ _) oz) ?_;refine gc (by apply jB _ _ (cQ _) oz) ?_;refine gD ?_;refine gR ?_;exact qo (by rw[bS,bS,e1,show sgn false _=_ from e2];rfl)
theorem vQ{N:Nat}(h:N<18446744073709551616):val [N%4294967296,N/2^32]=N:=by
 simp only[val];omega
theorem vh{N:Nat}(h:N<18446744073709551616):Ws [N%4294967296,N/2^32]:=by
 intro x hx;simp only[mem_cons,not_mem_nil,or_false]at hx;rcases hx with rfl |rfl <;> omega
theorem Dm(n:Int)(h:-9223372036854775808<=n/\n<=9223372036854775807):FP 257 [i64 n] (zA n):=by
 obtain⟨N,hN⟩:∃N,N=n.natAbs:=⟨_,rfl⟩
 have hNB:N<18446744073709551616:=by omega
 refine ai func257 ?_;refine gv (show IntKind.u64.wrap n=((n%18446744073709551616:Int)) by simp only[IntKind.wrap,IntKind.signed,IntKind.bits,Bool.false_and,if_false,Bool.false_eq_true];omega) ?_;refine gC (fun t7=>?_) (fun t7=>?_) (st2:=(77777,0))
 ·have hn : n < 0 := by simpa [aa] using t7
  refine gs (AU (.tmp rfl) rfl) ?_ (4,0);refine gW (Wk.of (sl:=[(0,some (i64 n)),(2,some (.ptr 2 0)),(3,some (u64 N))]) (hp:=[(2,some (.box [.v (.bool false),nS]))]) (.k (.k (.cons rfl (Sub.int (by simp only[IntKind.wrap,IntKind.signed,IntKind.bits,Bool.false_and,if_false,Bool.false_eq_true];omega)) .nil))) (.k .nil)) ?_;refine gv (df _) ?_;refine gs (eg (.tmp rfl) (.const _) oz (fV _ 32 oz) rfl) ?_;refine gv ((df _).trans (by rw[Nat.mod_eq_of_lt (show N/2^32<4294967296 by omega)])) ?_;refine gc (jB (aa .lss n 0) [N%4294967296,N/2^32] (vh hNB) (by unfold aw;simp)) ?_;refine af ?_;rw[vQ hNB,show sgn (aa .lss n 0) N=n by simp only[sgn,aa,decide_eq_true_eq];split <;> omega];rfl
 have hn:¬n<0:=by simpa[aa]using t7
 refine gW (Wk.of (sl:=[(0,some (i64 n)),(2,some (.ptr 2 0)),(3,some (u64 N))]) (hp:=[(2,some (.box [.v (.bool false),nS]))]) (.k (.k (.cons rfl (Sub.int oz) .nil))) (.k .nil)) ?_;refine gv (df _) ?_;refine gs (eg (.tmp rfl) (.const _) oz (fV _ 32 oz) rfl) ?_;refine gv ((df _).trans (by rw[Nat.mod_eq_of_lt (show N/2^32<4294967296 by omega)])) ?_;refine gc (jB (aa .lss n 0) [N%4294967296,N/2^32] (vh hNB) (by unfold aw;simp)) ?_;refine af ?_;rw[vQ hNB,show sgn (aa .lss n 0) N=n by simp only[sgn,aa,decide_eq_true_eq];split <;> omega];rfl
theorem zp:∀(j k v:Nat),j<=k->(a5 k v).take j=a5 j v
 |0,_,_,_=>by simp[a5]
 |j+1,0,_,h=>by omega
 |j+1,k+1,v,h=>by
  rw[a5,a5,List.take_succ_cons,zp j k _ oz]
theorem Fo{m:List Nat}(h:Ws m):(ofNat (val m)).length<=m.length:=en (bR m h)
theorem BN{m:List Nat}(h:Ws m):m.take (ofNat (val m)).length=ofNat (val m):=by
 have h1:=rf m h;have h2:=rf (ofNat (val m)) (cQ _);rw[bS]at h2;have h3:=zp _ _ (val m) (Fo h);rw[<- h1,<- h2]at h3;exact h3
theorem G9{m:List Nat}{n:Nat}(h:Ws m)(hn:n<=m.length)(hv:val (m.take n)=val m)(h0:n=0\/ah m (n-1)≠0):n=(ofNat (val m)).length:=by
 have h1:m.take n=ofNat (val m):=by
  refine GI (fE h n) ?_ hv;intro x hx;rcases h0 with h0 |h0
  ·subst h0;simp at hx
  ·have hn0 : n ≠ 0 := by intro h3; subst h3; simp at hx
   rw[List.getLast?_eq_getElem?,length_take,Nat.min_eq_left hn,getElem?_take,if_pos oz,iS oz]at hx;cases hx;exact h0
 rw[<- h1,length_take,Nat.min_eq_left hn]
theorem yd(l:List Nat)(i:Nat):val l=val (l.take i)+4294967296^i*val (l.drop i):=by
 rcases lt_or_ge i l.length with h |h
 ·exact zB oz
 ·rw[ef h,drop_eq_nil_of_le h];simp[val]
theorem tj(l:List Nat)(i:Nat):val (l.drop i)=ah l i+4294967296*val (l.drop (i+1)):=by
 rcases lt_or_ge i l.length with h |h
 ·exact pL h
 ·rw[pW h,drop_eq_nil_of_le h,drop_eq_nil_of_le oz];rfl
theorem C8{a b:List Nat}{i:Nat}(ha:Ws a)(he:val (a.drop (i+1))=val (b.drop (i+1)))(hx:ah a i<ah b i):val a<val b:=by
 rw[yd a (i+1),yd b (i+1),he];have:=BK ha hx;omega
theorem RR{xs ys:List AV}(hl:xs.length=ys.length)(h1:∀(j:Nat)(y:AV),ys[j]?=some y->y.one=true)(h:∀(j:Nat)(x y:AV),xs[j]?=some x->ys[j]?=some y->Sub x y):Sub (.agg xs) (.agg ys):=by
 intro g S m v hr;cases hr with
 |agg hn h2 hr =>
  refine .agg (hn.trans hl) h1 ?_;intro j u c hu hc
  have hj:j<xs.length:=by
   rw[hl];rcases lt_or_ge j ys.length with h |h
   ·exact h
   ·rw[getElem?_eq_none h]at hc;cases hc
  exact h j _ c (getElem?_eq_getElem hj) hc _ _ _ _ (hr j u _ hu (getElem?_eq_getElem hj))
theorem Nu:Sub (.agg [.v (.bool false),.v (.slice none 0 0)]) (zA 0):=by
 show Sub (.agg [.v (.bool false),.v (.slice none 0 0)]) (.agg [bl false,ws []]);refine RR rfl ?_ ?_
 ·intro j y hy
  match j,hy with
  |0,hy=>cases hy;rfl
  |1,hy=>cases hy;rfl
 ·intro j x y hx hy
  match j,hx,hy with
  |0,hx,hy=>cases hx;cases hy;exact Sub.refl _
  |1,hx,hy=>cases hx;cases hy;exact Sub.nil _ _ _
theorem FC{out:List Nat}{i x:Nat}(h:out.length=i):val (out++[x])=val out+4294967296^i*x:=by
 rw[pb,h];simp[val]
theorem Fi{o c P x y u w:Nat}(hu:u<4294967296)(hw:w<4294967296)(hc:c<=1)(h:o+y=x+c*P) :
  (o+P*((4294967296+u-w-c)%4294967296))+(y+P*w)=(x+P*u)+(1-(4294967296+u-w-c)/2^32)*(P*4294967296):=by
 have h0:(4294967296+u-w-c)%4294967296+w+c=u+(1-(4294967296+u-w-c)/2^32)*4294967296:=by omega
 generalize(1-(4294967296+u-w-c)/2^32)=q at *;generalize(4294967296+u-w-c)%4294967296=r at *;grind
theorem GW{a b out:List Nat}{c:Nat}(ha:Ws a)(hw:Ws out)(ho:out.length=a.length)(hle:val b<=val a)
  (h:val out+val (b.take a.length)=val (a.take a.length)+c*4294967296^a.length):val out=val a-val b:=by
 have hb:=yd b a.length;have h2:=bR a ha
 have h3:val (b.drop a.length)=0:=by
  rcases Nat.eq_zero_or_pos (val (b.drop a.length))with h4 |h4
  ·exact h4
  ·have:=mul_le_mul_left (4294967296^a.length) h4;omega
 rw[h3,Nat.mul_zero,Nat.add_zero]at hb;rw[<- hb,take_length]at h;have h1:=bR out hw;rw[ho]at h1;cases c with
 |zero=>omega
 |succ c=>rw[Nat.succ_mul]at h;omega
theorem Eb{z:Int}{k:Nat}(h:Lz k z)(hk:k<=aR):(ofInt z).ok:=⟨cQ _,le_trans h.len hk⟩
theorem Gf{z:Int}{k:Nat}(h:Lz k z):(ofInt z).mag.length<=k:=h.len
theorem R8(x y:Int):(x-y).sign=fZ x y:=by
 unfold fZ;have h:=xl (x-y)
 (repeat' split) <;> omega
theorem kI(m:List Nat)(i:Nat)(hm:Ws m):FP 375 [ws m,i64 i] (u64 (ah m i)):=by
 refine ai func375 ?_;refine gl ?_;refine gC (fun t8=>?_) (fun t8=>?_)
 ·simp[aa]at t8;have:=bI hm i;refine gi (bT (i:=i) t8) ?_;refine gv (u64_in oz) ?_;refine af ?_;rfl
 simp[aa]at t8;refine af ?_;simp[u64,pW t8]
theorem He(w:Wh)(h:w.ok):FP 368 [w.av] (bl w.valid):=by
 have hl:w.mag.length<=aR:=h.2;refine ai func368 ?_;refine gl ?_;refine gC (fun t6=>?_) (fun t6=>?_)
 ·have h0 : w.mag = [] := by simpa [aa] using t6
  refine af ?_;simp[bl,Wh.valid,h0]
 have h0:w.mag.length≠0:=by simpa[aa]using t6
 refine gl ?_;refine ga (iK oz oz) ?_;refine gi (bT (i:=w.mag.length-1) oz) ?_;refine af ?_;have h1:w.mag≠[]:=fun h=>h0 (by rw[h];rfl)
 simp only[bl,Wh.valid,if_neg h1,List.getLast?_eq_getElem?,iS (show w.mag.length-1<w.mag.length by omega),aa];congr 2;generalize ah w.mag _=x;rw[Bool.eq_iff_iff];simp
theorem jW(w:Wh)(h:w.ok):FP 312 [w.av] (ws w.m):=by
 refine ai func312 ?_;refine gc (He w h) ?_;refine gC (fun t5=>?_) (fun t5=>?_)
 ·have h0 : w.valid = false := by simpa [aa] using t5
  refine gR ?_;exact j8 (by rw[show w.m=[] by simp[Wh.m,h0]];exact Sub.nil _ _ _)
 have h0:w.valid=true:=by simpa[aa]using t5
 refine af ?_;simp only[Wh.m,h0];rfl
theorem iz(w:Wh)(h:w.ok):FP 313 [w.av] (bl w.n):=by
 refine ai func313 ?_;refine gc (He w h) ?_;refine af ?_;simp only[Wh.n,bl];cases w.valid <;> rfl
theorem z9(d:Nat)(hd:Nat.blt d 1000=true)(m:List Nat)(hm:Ws m)(hb:m.length<=aw) :
  Con prog 362 [ws m] [] (.ms d 1 0 (ofNat (val m)).length) [(d,some (.row 1 (m.map u32)))]:=by
 have hb':=hb;unfold aw at hb;refine gF func362 (fun k z h=>by cases h) ?_;refine gs (kN T43 rfl T350 rfl rfl rfl) ?_;refine gs (ci (.tmp rfl) rfl rfl (.tmp rfl) T43 rfl T350 rfl rfl (by simp only[length_map];omega) rfl rfl) ?_;refine aN [] [6] (fun(n:Nat)=>[(3,some (.ms 6 1 0 n))]) (fun _=>[]) (fun n=>n<=m.length/\val (m.take n)=val m) (fun n=>n) m.length ⟨le_refl _,by rw[take_length]⟩ ?_ (h1:=(.cons rfl (Sub.of (by rw[length_map,Nat.zero_add])) .nil));rintro n ⟨hn,hv⟩ K1 J1;refine m8 (fun h=>(iK (by simp[aa]at h;omega) (by unfold aR;omega))) ?_;refine gs (d5 rfl rfl rfl (fun h=>bP (n:=n-1) (.opt rfl (o1 h)) (.opt rfl (o1 h)) T43 rfl T350 rfl oz (by simp[aa]at h;omega) rfl)) ?_;refine gs (d5 rfl rfl rfl (fun h=>dQ (.opt rfl (o1 h)) rfl (bT (i:=n-1) (by simp[aa]at h;omega)) T350 rfl rfl rfl)) ?_;refine gC (fun t18=>?_) (fun t18=>?_)
 ·have t18 : 0 < n /\ ah m (n - 1) = 0 := by simpa [aa] using t18
  refine ga (iK oz (by unfold aR;omega)) ?_;refine gs (vI (.tmp rfl) (.none _) (.some _ (.tmp rfl) oz) T43 rfl T350 rfl oz oz rfl) ?_;exact aH J1 (n-1) ⟨by omega,by have h:=@cU m (n-1);rw[show n-1+1=n by omega,t18.2]at h;simp at h;omega⟩ (hw:=Wk.of (.cons rfl (Sub.of (by congr 1)) .nil) (.k .nil))
 have t18:0<n->ah m (n-1)≠0:=by simpa[aa]using t18
 have hn1:=G9 hm hn hv (by rcases Nat.eq_zero_or_pos n with h |h;(exact .inl h);exact .inr (t18 h));subst hn1;refine gR ?_;exact aq.own1 rfl hd rfl
theorem oR(m:List Nat)(hm:Ws m)(hb:m.length<=aw):FP 362 [ws m] (ws (ofNat (val m))):=by
 have h:=Con.freeze (by rw[length_map,Nat.zero_add];exact Fo hm) (z9 0 rfl m hm hb)
 rwa [drop_zero,<- map_take,BN hm]at h
theorem jA(b:Bool)(m:List Nat)(hm:Ws m)(hb:m.length<=aw):FP 295 [bl b,ws m] (zA (sgn b (val m))):=by
 refine ai func295 ?_;refine gc (oR m hm hb) ?_;refine gl ?_;refine gC (fun t9=>?_) (fun t9=>?_)
 ·have h0:val m=0:=by
   have:=bS (val m);have h9:ofNat (val m)=[]:=List.length_eq_zero_iff.1 (by simpa[aa]using t9);rw[h9]at this;exact this.symm
  refine gR ?_;exact j8 (by rw[h0,show sgn b 0=0 by cases b <;> rfl];exact Nu)
 have h0:val m≠0:=by
  intro h;rw[h]at t9;cases t9
 refine af ?_
 rw[show zA (sgn b (val m))=.agg [bl b,ws (ofNat (val m))] by
  unfold zA ofInt Wh.av;rw[show(sgn b (val m)).natAbs=val m by unfold sgn;split <;> omega,show decide (sgn b (val m)<0)=b by cases b <;> simp[sgn] <;> omega]]
theorem yQ(a b:List Nat)(ha:Ws a)(hb:Ws b):FP 335 [ws a,ws b] (i64 (if val a<val b then -1 else if val b<val a then 1 else 0)):=by
 refine ai func335 ?_ (0,0);refine rY (t:=0) rfl (fun hla=>?_);refine rY (t:=1) rfl (fun hlb=>?_);unfold aR at hla hlb;refine go ?_;refine gl ?_;refine gl ?_;refine gs (v6 (.tmp rfl) (.tmp rfl) rfl) ?_;refine ga (dI oz) ?_;refine aN [0,1] [] (fun(n:Nat)=>[(5,some (i64 ((n:Int)-1)))]) (fun _=>[]) (fun n=>n<=281474976710656/\val (a.drop n)=val (b.drop n)) (fun n=>n) (max a.length b.length) ⟨by omega,by rw[drop_eq_nil_of_le oz,drop_eq_nil_of_le oz]⟩ ?_ (h1:=(.cons rfl (Sub.int oz) .nil));rintro n ⟨hn,hd⟩ K1 J1;refine gC (fun t13=>?_) (fun t13=>?_)
 ·have hn0 : 1 <= n := by have := t13; simp [aa] at this; omega
  obtain⟨k,rfl⟩:∃k,n=k+1:=⟨n-1,by omega⟩
  have hk:((k+1:Nat):Int)-1=(k:Int):=by omega
  rw[hk];refine gc (kI a k ha) ?_;refine gc (kI b k hb) ?_;refine gC (fun t22=>?_) (fun t22=>?_)
  ·have h3 : ah a k ≠ ah b k := by simpa [aa, Int.ofNat_inj] using t22
   refine gc (kI a k ha) ?_;refine gc (kI b k hb) ?_;refine gC (fun t29=>?_) (fun t29=>?_)
   ·have h4 : ah a k < ah b k := by simpa [aa] using t29
    have h5:=C8 ha hd h4;refine af ?_;simp[i64,h5]
   have h4:ah b k<ah a k:=by have:ah b k<=ah a k:=(by simpa[aa]using t29);omega
   have h5:=C8 hb hd.symm h4;refine af ?_;simp[i64,h5,Nat.lt_asymm h5]
  have h3:ah a k=ah b k:=by simpa[aa,Int.ofNat_inj]using t22
  refine ga (dI oz) ?_;exact aH J1 k ⟨by omega,by rw[tj a,tj b,hd,h3]⟩
 have hn0:n=0:=by have:=t13;simp[aa]at this;omega
 subst hn0;refine af ?_;simp at hd;simp[i64,hd]
theorem wV(a b:List Nat)(ha:Ws a)(hb:Ws b)(la:a.length<aw)(lb:b.length<aw):FP 334 [ws a,ws b] (ws (ofNat (val a+val b))):=by
 unfold aw at la lb;obtain⟨n,hn⟩:∃n,n=max a.length b.length+1:=⟨_,rfl⟩
 refine ai func334 ?_;refine gl ?_;refine gl ?_;refine gs (v6 (.tmp rfl) (.tmp rfl) rfl) ?_;refine ga (show _=(n:Int) by rw[cV oz];omega) ?_;refine gW (Wk.virt 900 1 rfl) ?_;refine ii [0,1,14] [] (fun(out:List Nat)(c i:Nat)=>[(5,some (.ms 900 1 0 i)),(6,some (u64 c)),(15,some (i64 i))]) (fun out _ _=>[(900,some (.row 1 (out.map u32)))]) (fun out c i=>out.length=i/\i<=n/\Ws out/\c<=1/\val out+c*4294967296^i=val (a.take i)+val (b.take i)) (fun _ _ i=>n-i) ([]) 0 0 ⟨rfl,by omega,n6,by omega,by simp[val]⟩ ?_;rintro out c i ⟨ho,hi,hw,hc,hv⟩ K1 J1;refine gC (fun t16=>?_) (fun t16=>?_) (st2:=(9,0))
 ·have hin : i < n := by simpa [aa] using t16
  have h1:=bI ha i;have h2:=bI hb i;obtain⟨s,hs⟩:∃s,s=c+(ah a i+ah b i):=⟨_,rfl⟩
  have h3:=w6 (u:=ah a i) (w:=ah b i) hv;rw[<- hs]at h3;refine gc (by apply kI <;> assumption) ?_;refine gc (by apply kI <;> assumption) ?_;refine ga (iu oz) ?_;refine ga ((iu oz).trans (show _=(s:Int) by congr 1;omega)) ?_;refine gv (df _) ?_;refine gs (ci (.tmp rfl) rfl (by rw[length_map,ho]) (.tmp rfl) T43 rfl T350 rfl rfl (by simp;omega) rfl rfl) ?_;refine gs (eg (.tmp rfl) (.const _) oz (fV _ 32 oz) rfl) ?_ (8,0);refine gW (Wk.of (sl:=[(0,some (ws a)),(1,some (ws b)),(5,some (.ms 31 1 0 (i+1))),(6,some (u64 (s/2^32))),(14,some (i64 n)),(15,some (i64 i))]) (hp:=[(31,some (.row 1 ((out++[s%4294967296]).map u32)))]) aW (.cons rfl (BlkSub.of (by rw[map_append];rfl)) .nil)) ?_ (8,0);refine gW (Wk.rk (k:=31) (d:=900) rfl rfl) ?_;refine ga (cV oz) ?_;exact f8 J1 (out++[s%4294967296]) (s/2^32) (i+1) ⟨by simp[ho],by omega,ui hw (qK oz),by omega,by rw[FC ho,cU,cU,Nat.pow_succ];exact h3⟩
 have hin:i=n:=by have:n<=i:=(by simpa[aa]using t16);omega
 refine gW ((Wk.freeze (k:=900) rfl).trans<|Wk.of (sl:=[(5,some (ws out))]) (hp:=[]) (.cons rfl (Sub.of (bJ (by simp[ho]))) .nil) .nil) ?_;refine gc (oR out hw (by unfold aw;omega)) ?_;refine af ?_;subst hin;rw[E3 ha hb hn ho (by rw[ef (l:=out) oz];exact hv)]
theorem x3(a b:List Nat)(ha:Ws a)(hb:Ws b)(la:a.length<aw)(hle:val b<=val a):FP 336 [ws a,ws b] (ws (ofNat (val a-val b))):=by
 unfold aw at la;obtain⟨n,hn⟩:∃n,n=a.length:=⟨_,rfl⟩
 refine ai func336 ?_;refine gl ?_;refine gW (Wk.virt 900 1 rfl) ?_;refine ii [0,1] [] (fun(out:List Nat)(c i:Nat)=>[(5,some (.ms 900 1 0 i)),(6,some (u64 c)),(10,some (i64 n)),(11,some (i64 i))]) (fun out _ _=>[(900,some (.row 1 (out.map u32)))]) (fun out c i=>out.length=i/\i<=n/\Ws out/\c<=1/\val out+val (b.take i)=val (a.take i)+c*4294967296^i) (fun _ _ i=>n-i) ([]) 0 0 ⟨rfl,by omega,n6,by omega,by simp[val]⟩ ?_ (h1:=(.k (.k (.cons rfl (Sub.int (by rw[hn])) (.k .nil)))))
 rintro out c i ⟨ho,hi,hw,hc,hv⟩ K1 J1;refine gC (fun t12=>?_) (fun t12=>?_) (st2:=(9,0))
 ·have hin : i < n := by simpa [aa] using t12
  have h1:=bI ha i;have h2:=bI hb i;obtain⟨s,hs⟩:∃s,s=4294967296+ah a i-ah b i-c:=⟨_,rfl⟩
  have h3:=Fi h1 h2 hc hv;rw[<- hs]at h3;refine gc (by apply kI <;> assumption) ?_;refine ga ((iu (x:=4294967296) oz)) ?_;refine gc (by apply kI <;> assumption) ?_;refine ga ((jT oz oz).trans (by rw[if_pos oz])) ?_;refine ga ((jT oz oz).trans (show _=(s:Int) by rw[if_pos oz];congr 1;omega)) ?_;refine gv (df _) ?_;refine gs (ci (.tmp rfl) rfl (by rw[length_map,ho]) (.tmp rfl) T43 rfl T350 rfl rfl (by simp;omega) rfl rfl) ?_;refine gs (eg (.tmp rfl) (.const _) oz (fV _ 32 oz) rfl) ?_;refine ga ((jT (x:=1) oz oz).trans (by rw[if_pos oz])) ?_ (8,0);refine gW (Wk.of (sl:=[(0,some (ws a)),(1,some (ws b)),(5,some (.ms 28 1 0 (i+1))),(6,some (u64 (1-s/2^32:Nat))),(10,some (i64 n)),(11,some (i64 i))]) (hp:=[(28,some (.row 1 ((out++[s%4294967296]).map u32)))]) aW (.cons rfl (BlkSub.of (by rw[map_append];rfl)) .nil)) ?_ (8,0);refine gW (Wk.rk (k:=28) (d:=900) rfl rfl) ?_;refine ga (cV oz) ?_;exact f8 J1 (out++[s%4294967296]) (1-s/2^32) (i+1) ⟨by simp[ho],by omega,ui hw (qK oz),by omega,by rw[FC ho,cU,cU,Nat.pow_succ];exact h3⟩
 have hin:i=n:=by have:n<=i:=(by simpa[aa]using t12);omega
 refine gW ((Wk.freeze (k:=900) rfl).trans<|Wk.of (sl:=[(5,some (ws out))]) (hp:=[]) (.cons rfl (Sub.of (bJ (by simp[ho]))) .nil) .nil) ?_;refine gc (oR out hw (by unfold aw;omega)) ?_;refine af ?_;subst hin;subst hn;rw[GW ha hw ho hle hv]
theorem Lb(a b:List Nat)(ha:Ws a)(hb:Ws b)(la:a.length+b.length<=aw):FP 337 [ws a,ws b] (ws (ofNat (val a*val b))):=by
 have la':=la;unfold aw at la;refine ai func337 ?_;refine gl ?_;refine gl ?_;refine ga (iI (by unfold aR;omega) (by unfold aR;omega)) ?_;refine gs (gw (.tmp rfl) T43 rfl T350 rfl rfl oz (by dsimp only;omega) rfl) ?_;refine gl ?_;refine f0 [0,1,17] [] (fun(out:List Nat)(i:Nat)=>[(5,some (.ms 15 1 0 (a.length+b.length))),(18,some (i64 i))]) (fun out _=>[(15,some (.row 1 (out.map u32)))]) (fun out i=>out.length=a.length+b.length/\i<=a.length/\Ws out/\val (out.take (i+b.length))=val (a.take i)*val b) (fun _ i=>a.length-i) (List.replicate (a.length+b.length) 0) 0 ⟨by simp,by omega,kQ _,by simp[val,vd]⟩ ?_ (h2:=(.cons rfl (BlkSub.of (by rw[map_replicate];rfl)) .nil))
 rintro out i ⟨ho,hi,hw,hv⟩ K1 J1;refine gC (fun t19=>?_) (fun t19=>?_) (st2:=(14,0))
 ·have hin : i < a.length := by simpa [aa] using t19
  have h1:=bI ha i;refine gl ?_;refine ii [0,1,17,18,6,22] [] (fun(o:List Nat)(c k:Nat)=>[(5,some (.ms 15 1 0 (a.length+b.length))),(7,some (u64 c)),(23,some (i64 k))]) (fun o _ _=>[(15,some (.row 1 (o.map u32)))]) (fun o c k=>o.length=a.length+b.length/\k<=b.length/\Ws o/\c<4294967296/\val (o.take (i+b.length))+c*4294967296^(i+k)=val (out.take (i+b.length))+4294967296^i*(ah a i*val (b.take k))) (fun _ _ k=>b.length-k) out 0 0 ⟨ho,by omega,hw,by omega,by simp[val]⟩ ?_
  rintro o c k ⟨ho2,hk,hw2,hc,hv2⟩ K2 J2;refine gC (fun t24=>?_) (fun t24=>?_)
  ·have hkn : k < b.length := by simpa [aa] using t24
   have h2:=bI hb k;have h3:=bI hw2 (i+k);have h4:=wt h1 h2;obtain⟨s,hs⟩:∃s,s=c+(ah a i*ah b k+ah o (i+k)):=⟨_,rfl⟩
   have h5:=B6 (x:=s%4294967296) (show i+k<o.length by omega) (show i+k<i+b.length by omega);have h6:=Gb h5 hs hv2;refine gi (fS (n:=i) oz (by first |omega |(simp;omega))) ?_;refine gv (u64_in oz) ?_;refine gi (fS (n:=k) oz (by first |omega |(simp;omega))) ?_;refine gv (u64_in oz) ?_;refine ga (vB oz) ?_;refine ga (iI (by unfold aR;omega) (by unfold aR;omega)) ?_;refine gs (bP (n:=i+k) (.tmp rfl) (.tmp rfl) T43 rfl T350 rfl oz (by first |omega |(simp;omega)) rfl) ?_;refine gs (dQ (.tmp rfl) rfl (bT (i:=i+k) oz) T350 rfl rfl rfl) ?_;refine gv (u64_in oz) ?_;refine ga (iu oz) ?_;refine ga ((iu oz).trans (show _=(s:Int) by congr 1;omega)) ?_;refine gD ?_;refine ga (iI (by unfold aR;omega) (by unfold aR;omega)) ?_;refine gv (df _) ?_;refine gs (eg (.tmp rfl) (.const _) oz (fV _ 32 oz) rfl) ?_;refine gs (bP (n:=i+k) (.tmp rfl) (.tmp rfl) T43 rfl T350 rfl oz (by first |omega |(simp;omega)) rfl) ?_;refine gs (dk (.tmp rfl) rfl (bT (i:=i+k) oz) rfl (.tmp rfl) rfl rfl T350 rfl rfl) ?_;refine ga (cV oz) ?_;exact f8 J2 (o.set (i+k) (s%4294967296)) (s/2^32) (k+1) ⟨by simp[ho2],by omega,fA hw2 oz,by omega,by rw[show i+(k+1)=(i+k)+1 from rfl,show s/2^32=s/4294967296 from rfl,Nat.pow_succ,h6,cU];simp only[pow_add];grind⟩ (hw:=Wk.of aW (.cons rfl (BlkSub.of (by rw[map_set];rfl)) .nil))
  have hkn:k=b.length:=by have:b.length<=k:=(by simpa[aa]using t24);omega
  subst hkn;have h5:=kL (x:=c) (show i+b.length<o.length by omega);rw[take_length]at hv2;refine gl ?_;refine ga (iI (by unfold aR;omega) (by unfold aR;omega)) ?_;refine gv ((df c).trans (by rw[Nat.mod_eq_of_lt hc])) ?_;refine gs (bP (n:=i+b.length) (.tmp rfl) (.tmp rfl) T43 rfl T350 rfl oz (by first |omega |(simp;omega)) rfl) ?_;refine gs (dk (.tmp rfl) rfl (bT (i:=i+b.length) oz) rfl (.tmp rfl) rfl rfl T350 rfl rfl) ?_;refine ga (cV oz) ?_;exact fC J1 (o.set (i+b.length) c) (i+1) ⟨by simp[ho2],by omega,fA hw2 hc,by rw[show i+1+b.length=i+b.length+1 by omega,h5,cU];simp only[pow_add]at *;grind⟩ (hw:=Wk.of aW (.cons rfl (BlkSub.of (by rw[map_set];rfl)) .nil))
 have hin:i=a.length:=by have:a.length<=i:=(by simpa[aa]using t19);omega
 subst hin;rw[take_length,ef oz]at hv;refine gW ((Wk.freeze (k:=15) rfl).trans<|Wk.of (sl:=[(5,some (ws out))]) (hp:=[]) (.cons rfl (Sub.of (bJ (by simp[ho]))) .nil) .nil) ?_;refine gc (oR out hw oz) ?_;refine af ?_;rw[hv]
theorem xI(a:Wh)(ha:a.ok):FP 221 [a.av] (i64 a.z.sign):=by
 obtain⟨e1,e2,e3⟩:=HW ha;refine ai func221 ?_;refine gc (jW a ha) ?_;refine gl ?_;refine gC (fun t6=>?_) (fun t6=>?_)
 ·have h0 : a.m.length = 0 := by simpa [aa] using t6
  refine af ?_;rw[e1 h0];rfl
 have h0:a.m.length≠0:=by simpa[aa]using t6
 have hval:a.valid=true:=by
  unfold Wh.m at h0;split at h0
  ·assumption
  ·exact absurd rfl h0
 refine gc (iz a ha) ?_;refine gC (fun t8=>?_) (fun t8=>?_)
 ·have h1 : a.neg = true := by unfold Wh.n at t8; rw [hval] at t8; simpa using t8
  refine af ?_;rw[e2 h0 h1];rfl
 have h1:a.neg=false:=by unfold Wh.n at t8;rw[hval]at t8;simpa using t8
 refine af ?_;rw[e3 h0 h1];rfl
theorem E4(a:Wh)(ha:a.ok)(la:a.mag.length<aw):FP 292 [a.av] (zA (-a.z)):=by
 refine ai func292 ?_;refine gc (iz a ha) ?_;refine gc (jW a ha) ?_;refine gc (jA _ a.m (Wh.ws ha) (Nat.le_of_lt (Wh.small ha la))) ?_;refine gD ?_;refine af ?_;rw[Wh.z_eq,<- HH];rfl
theorem J6(a b:Wh)(ha:a.ok)(hb:b.ok)(la:a.mag.length+b.mag.length<=aw):FP 248 [a.av,b.av] (zA (a.z*b.z)):=by
 have h1:=Wh.m_le (w:=a);have h2:=Wh.m_le (w:=b);have h3:(ofNat (val a.m*val b.m)).length<=a.m.length+b.m.length:=en (by rw[pow_add];exact Nat.mul_lt_mul'' (bR _ (Wh.ws ha)) (bR _ (Wh.ws hb)));refine ai func248 ?_;refine gc (iz a ha) ?_;refine gc (iz b hb) ?_;refine gc (jW a ha) ?_;refine gc (jW b hb) ?_;refine gc (Lb a.m b.m (Wh.ws ha) (Wh.ws hb) oz) ?_;refine gc (jA _ _ (cQ _) oz) ?_;refine gD ?_;refine af ?_;rw[bS,Eg];rfl
theorem Ee(a b:Wh)(ha:a.ok)(hb:b.ok)(la:a.mag.length<aw)(lb:b.mag.length<aw):FP 247 [a.av,b.av] (zA (a.z+b.z)):=by
 have h1:=Wh.m_le (w:=a);have h2:=Wh.m_le (w:=b);have hla:val a.m<4294967296^(max a.m.length b.m.length):=lt_of_lt_of_le (bR _ (Wh.ws ha)) (Nat.pow_le_pow_right oz oz);have hlb:val b.m<4294967296^(max a.m.length b.m.length):=lt_of_lt_of_le (bR _ (Wh.ws hb)) (Nat.pow_le_pow_right oz oz);have h3:(ofNat (val a.m+val b.m)).length<=max a.m.length b.m.length+1:=en (by rw[Nat.pow_succ];omega);have h4:(ofNat (val a.m-val b.m)).length<=max a.m.length b.m.length:=en oz;have h5:(ofNat (val b.m-val a.m)).length<=max a.m.length b.m.length:=en oz;refine ai func247 ?_;refine gc (jW a ha) ?_;refine gc (jW b hb) ?_;refine gD ?_;refine gc (iz a ha) ?_;refine gc (iz b hb) ?_;refine gD ?_;refine gC (fun t15=>?_) (fun t15=>?_)
 ·have h0 : a.n = b.n := by simpa using t15
  refine gc (iz a ha) ?_;refine gc (wV a.m b.m (Wh.ws ha) (Wh.ws hb) oz oz) ?_;refine gc (jA _ _ (cQ _) oz) ?_;refine af ?_;rw[bS,HO h0];rfl
 have h0:a.n≠b.n:=by simpa using t15
 refine gc (yQ a.m b.m (Wh.ws ha) (Wh.ws hb)) ?_;refine gC (fun t25=>?_) (fun t25=>?_)
 ·have h6:val b.m<=val a.m:=by
   rcases lt_or_ge (val a.m) (val b.m)with h |h
   ·rw[if_pos h]at t25;cases t25
   ·exact h
  refine gc (iz a ha) ?_;refine gc (x3 a.m b.m (Wh.ws ha) (Wh.ws hb) oz oz) ?_;refine gc (jA _ _ (cQ _) oz) ?_;refine af ?_;rw[bS,yF h0 h6];rfl
 have h6:val a.m<val b.m:=by
  rcases lt_or_ge (val a.m) (val b.m)with h |h
  ·exact h
  ·rw[if_neg oz]at t25;split at t25 <;> cases t25
 refine gc (iz b hb) ?_;refine gc (x3 b.m a.m (Wh.ws hb) (Wh.ws ha) oz oz) ?_;refine gc (jA _ _ (cQ _) oz) ?_;refine af ?_;rw[bS,Gk h0 oz];rfl
theorem DY(n:Int)(h:-9223372036854775808<=n/\n<=9223372036854775807):FP 188 [i64 n] (zA n):=by
 obtain⟨N,hN⟩:∃N,N=n.natAbs:=⟨_,rfl⟩
 have hNB:N<18446744073709551616:=by omega
 refine ai func188 ?_;refine gv (show IntKind.u64.wrap n=((n%18446744073709551616:Int)) by simp only[IntKind.wrap,IntKind.signed,IntKind.bits,Bool.false_and,if_false,Bool.false_eq_true];omega) ?_;refine gC (fun t7=>?_) (fun t7=>?_) (st2:=(77777,0))
 ·have hn : n < 0 := by simpa [aa] using t7
  refine gs (AU (.tmp rfl) rfl) ?_ (4,0);refine gW (Wk.of (sl:=[(0,some (i64 n)),(2,some (.ptr 2 0)),(3,some (u64 N))]) (hp:=[(2,some (.box [.v (.bool false),nS]))]) (.k (.k (.cons rfl (Sub.int (by simp only[IntKind.wrap,IntKind.signed,IntKind.bits,Bool.false_and,if_false,Bool.false_eq_true];omega)) .nil))) (.k .nil)) ?_;refine gv (df _) ?_;refine gs (eg (.tmp rfl) (.const _) oz (fV _ 32 oz) rfl) ?_;refine gv ((df _).trans (by rw[Nat.mod_eq_of_lt (show N/2^32<4294967296 by omega)])) ?_;refine gc (jA (aa .lss n 0) [N%4294967296,N/2^32] (vh hNB) (by unfold aw;simp)) ?_;refine af ?_;rw[vQ hNB,show sgn (aa .lss n 0) N=n by simp only[sgn,aa,decide_eq_true_eq];split <;> omega];rfl
 have hn:¬n<0:=by simpa[aa]using t7
 refine gW (Wk.of (sl:=[(0,some (i64 n)),(2,some (.ptr 2 0)),(3,some (u64 N))]) (hp:=[(2,some (.box [.v (.bool false),nS]))]) (.k (.k (.cons rfl (Sub.int oz) .nil))) (.k .nil)) ?_;refine gv (df _) ?_;refine gs (eg (.tmp rfl) (.const _) oz (fV _ 32 oz) rfl) ?_;refine gv ((df _).trans (by rw[Nat.mod_eq_of_lt (show N/2^32<4294967296 by omega)])) ?_;refine gc (jA (aa .lss n 0) [N%4294967296,N/2^32] (vh hNB) (by unfold aw;simp)) ?_;refine af ?_;rw[vQ hNB,show sgn (aa .lss n 0) N=n by simp only[sgn,aa,decide_eq_true_eq];split <;> omega];rfl
theorem NZ(a b:Wh)(ha:a.ok)(hb:b.ok)(la:a.mag.length<aw)(lb:b.mag.length<aw):FP 374 [a.av,b.av] (zA (a.z-b.z)):=by
 have h1:=(Wh.lz hb).neg;have h2:=Gf h1;refine ai func374 ?_;refine gc (E4 b hb lb) ?_;refine gc (Ee a (ofInt (-b.z)) ha (Eb h1 hb.2) la oz) ?_;refine gD ?_;refine af ?_;rw[dl,<- Int.sub_eq_add_neg];rfl
theorem Ow(a b:Wh)(ha:a.ok)(hb:b.ok)(la:a.mag.length<aw)(lb:b.mag.length<aw):FP 327 [a.av,b.av] (i64 (fZ a.z b.z)):=by
 have h1:=(Wh.lz ha).sub (Wh.lz hb);have h2:=Gf h1;refine ai func327 ?_;refine gc (NZ a b ha hb la lb) ?_;refine gc (xI (ofInt (a.z-b.z)) (Eb h1 (by unfold aR;unfold aw at la lb;omega))) ?_;refine af ?_;rw[dl,R8]
theorem o0{A:List Nat}{n:Nat}:AV.lst 1 (((A.map u32).drop 0).take n)=ws (A.take n):=by
 rw[drop_zero,<- map_take];rfl
theorem Bf(A:List Nat):(Blk.row 1 (A.map u32)).sc=true:=by
 simp only[Blk.sc,List.all_map];rw[all_eq_true];intro x _;rfl
theorem nc{A:List Nat}{n i:Nat}(h:i<n):ah (A.take n) i=ah A i:=by
 simp[ah,h]
theorem D0{A:List Nat}{n i:Nat}(h:n<=i):ah (A.take n) i=0:=pW (by simp;omega)
theorem QP{x:Nat}(h:0<x):aV x=aV (x/2)+1:=by
 rcases lt_or_ge x 2 with h1 |h1
 ·have : x = 1 := by omega
  subst this;decide
 ·have:=r8 (x:=x) (k:=1) oz;rw[show x/2^1=x/2 from rfl]at this;omega
theorem I0{a:List Nat}{n:Nat}(ha:Ws a)(na:Nz a)(hl:a.length=n+1):aV (val a)=32*n+aV (ah a n):=by
 have ht:ah a n≠0:=by
  refine na _ ?_;rw[List.getLast?_eq_getElem?,hl];exact iS oz
 have hv:val a=val (a.take n)+4294967296^n*ah a n:=by rw[<- cU,ef oz]
 have hlt:=mZ ha n;have hp:(4294967296:Nat)^n=2^(32*n):=by rw[Nat.pow_mul]
 rw[hp]at hv hlt
 have h1:val a/2^(32*n)=ah a n:=by
  rw[hv,Nat.add_mul_div_left _ _ (Nat.pow_pos oz),Nat.div_eq_of_lt hlt,Nat.zero_add]
 have h2:2^(32*n)<=val a:=by
  have:=mul_le_mul_left (2^(32*n)) (show 1<=ah a n by omega);omega
 rw[r8 h2,h1]
theorem C6{o A:List Nat}{n v:Nat}(ho:Ws o)(hl:o.length=A.length)(hn:n<=A.length)(hd:o.drop n=A.drop n)(hv:val (o.take n)=v):o=wr A 0 (a5 n v):=by
 have h1:be o 0 n=a5 n v:=tH (mo ho _ _) (nO oz) (by rw[be,drop_zero,hv]);rw[<- h1];exact w7 (by simp) (by rw[Nat.zero_add];exact hd) oz
theorem Ah(k:Nat)(A:List Nat)(n i:Nat)(hA:Ws A)(hn:n<=A.length) :
  Con prog 375 [.ms k 1 0 n,i64 i] [(k,some (.row 1 (A.map u32)))] (u64 (ah (A.take n) i)) [(k,some (.row 1 (A.map u32)))]:=by
 refine Con.borrow (args:=[ws (A.take n),i64 i]) k 1 (A.map u32) rfl rfl rfl ?_ rfl (fun k' x h=>by cases h) (kI (A.take n) i (fE hA n));intro j x' hj
 match j,hj with
 |0,hj=>cases hj;exact .inr ⟨0,n,rfl,by simpa using hn,by rw[o0];rfl⟩
 |1,hj=>cases hj;exact .inl rfl
theorem Jl(k1 k2:Nat)(hk:k1≠k2)(A D:List Nat)(n p:Nat)(hA:Ws A)(hD:Ws D)(hn:n<=A.length)(hp:p<=D.length) :
  Con prog 335 [.ms k1 1 0 n,.ms k2 1 0 p] [(k1,some (.row 1 (A.map u32))),(k2,some (.row 1 (D.map u32)))]
   (i64 (if val (A.take n)<val (D.take p)then -1 else if val (D.take p)<val (A.take n)then 1 else 0)) [(k1,some (.row 1 (A.map u32))),(k2,some (.row 1 (D.map u32)))]:=by
 have h1:Con prog 335 [ws (A.take n),.ms k2 1 0 p] [(k2,some (.row 1 (D.map u32)))]
   (i64 (if val (A.take n)<val (D.take p)then -1 else if val (D.take p)<val (A.take n)then 1 else 0)) [(k2,some (.row 1 (D.map u32)))]:=by
  refine Con.borrow (args:=[ws (A.take n),ws (D.take p)]) k2 1 (D.map u32) rfl rfl rfl ?_ rfl (fun k' x h=>by cases h) (yQ (A.take n) (D.take p) (fE hA n) (fE hD p));intro j x' hj
  match j,hj with
  |0,hj=>cases hj;exact .inl rfl
  |1,hj=>cases hj;exact .inr ⟨0,p,rfl,by simpa using hp,by rw[o0];rfl⟩
 refine Con.borrow (args:=[ws (A.take n),.ms k2 1 0 p]) k1 1 (A.map u32) ?_ ?_ rfl ?_ rfl ?_ h1
 ·rw[aJ,if_neg hk];rfl
 ·rw[aJ,if_neg hk];rfl
 ·intro j x' hj
  match j,hj with
  |0,hj=>cases hj;exact .inr ⟨0,n,rfl,by simpa using hn,by rw[o0];rfl⟩
  |1,hj=>cases hj;exact .inl rfl
 ·intro k' x h;obtain⟨_,h⟩:=fc h;cases h;exact Bf D
theorem Kn(k:Nat)(A b:List Nat)(n:Nat)(hA:Ws A)(hb:Ws b)(hn:n<=A.length) :
  Con prog 335 [.ms k 1 0 n,ws b] [(k,some (.row 1 (A.map u32)))]
   (i64 (if val (A.take n)<val b then -1 else if val b<val (A.take n)then 1 else 0)) [(k,some (.row 1 (A.map u32)))]:=by
 refine Con.borrow (args:=[ws (A.take n),ws b]) k 1 (A.map u32) rfl rfl rfl ?_ rfl (fun k' x h=>by cases h) (yQ (A.take n) b (fE hA n) hb);intro j x' hj
 match j,hj with
 |0,hj=>cases hj;exact .inr ⟨0,n,rfl,by simpa using hn,by rw[o0];rfl⟩
 |1,hj=>cases hj;exact .inl rfl
theorem SE(a:List Nat)(ha:Ws a)(na:Nz a)(la:a.length<=aw):FP 389 [ws a] (i64 (aV (val a))):=by
 unfold aw at la;refine ai func389 ?_;refine gl ?_;refine gC (fun t7=>?_) (fun t7=>?_)
 ·have h0 : a=[] := List.length_eq_zero_iff.1 (by simpa[aa]using t7);refine af ?_;subst h0;rfl
 have h0:a.length≠0:=by simpa[aa]using t7
 obtain⟨n,hn⟩:∃n,a.length=n+1:=⟨a.length-1,by omega⟩
 have hB:=I0 ha na hn;have ht:=bI ha n;refine gl ?_;refine ga (show _=(n:Int) by rw[dI oz];omega) ?_;refine ga (show _=((32*n:Nat):Int) by rw[xw oz];omega) ?_;refine gl ?_;refine ga (show _=(n:Int) by rw[dI oz];omega) ?_;refine gi (fS (n:=n) oz (by first |omega |(simp;omega))) ?_;refine f0 [] [] (fun(x c:Nat)=>[(3,some (i64 c)),(4,some (u32 x))]) (fun _ _=>[]) (fun x c=>x<4294967296/\c<=281474976710656/\c+aV x=aV (val a)) (fun x _=>x) (ah a n) (32*n) ⟨ht,by omega,hB.symm⟩ ?_;rintro x c ⟨hx,hc,hv⟩ K1 J1;refine gC (fun t19=>?_) (fun t19=>?_)
 ·have hx0 : 0 < x := by simpa [aa] using t19
  have h2:=QP hx0
  have h3:aV (val a)<=32*n+32:=by
   have:=(xq (x:=ah a n)  (by
    refine na _ ?_;rw[List.getLast?_eq_getElem?,hn];exact iS oz) ht).1
   omega
  refine ga (show _=((c+1:Nat):Int) by rw[cV oz];omega) ?_;refine gs (eg (.tmp rfl) (.const _) oz (pa x 1 oz) rfl) ?_;exact fC J1 (x/2^1) (c+1) ⟨by omega,by omega,by rw[show x/2^1=x/2 from rfl];omega⟩
 have hx0:x=0:=by have:x<=0:=(by simpa[aa]using t19);omega
 subst hx0;refine af ?_;rw[<- hv];rfl
theorem Ag(A:List Nat)(n:Nat)(hA:Ws A)(hn:n<=A.length)(la:A.length<=aw) :
  Con prog 388 [.ms 1000 1 0 n] [(1000,some (.row 1 (A.map u32)))] (.ms 1000 1 0 (ofNat (val (A.take n))).length) [(1000,some (.row 1 (A.map u32)))]:=by
 unfold aw at la;refine gF func388 (fun k z h=>bj h) ?_;refine aN [] [1000] (fun(j:Nat)=>[(0,some (.ms 1000 1 0 j))]) (fun _=>[]) (fun j=>j<=n/\val (A.take j)=val (A.take n)) (fun j=>j) n ⟨le_refl _,rfl⟩ ?_;rintro j ⟨hj,hv⟩ K1 J1;refine m8 (fun h=>(iK (by simp[aa]at h;omega) (by unfold aR;omega))) ?_;refine gs (d5 rfl rfl rfl (fun h=>bP (n:=j-1) (.opt rfl (o1 h)) (.opt rfl (o1 h)) T43 rfl T350 rfl oz (by simp[aa]at h;omega) rfl)) ?_;refine gs (d5 rfl rfl rfl (fun h=>dQ (.opt rfl (o1 h)) rfl (bT (i:=j-1) (by simp[aa]at h;omega)) T350 rfl rfl rfl)) ?_;refine gC (fun t14=>?_) (fun t14=>?_)
 ·have t14 : 0 < j /\ ah A (j - 1) = 0 := by simpa [aa] using t14
  refine ga (iK oz (by unfold aR;omega)) ?_;refine gs (vI (.tmp rfl) (.none _) (.some _ (.tmp rfl) oz) T43 rfl T350 rfl oz oz rfl) ?_;exact aH J1 (j-1) ⟨by omega,by have h:=@cU A (j-1);rw[show j-1+1=j by omega,t14.2]at h;simp at h;omega⟩ (hw:=Wk.of (.cons rfl (Sub.of (by congr 1)) .nil) (.k .nil))
 have t14:0<j->ah A (j-1)≠0:=by simpa[aa]using t14
 have hn1 := G9 (m := A.take n) (n := j) (fE hA n) (by simp; omega) (by rw [List.take_take, Nat.min_eq_left hj]; exact hv) (by
  rcases Nat.eq_zero_or_pos j with h |h
  ·exact .inl h
  ·exact .inr (by rw[nc oz];exact t14 h))
 subst hn1;refine gR ?_;exact aq.own2 rfl rfl rfl
theorem uU(A:List Nat)(n:Nat)(hA:Ws A)(hn:n<=A.length)(la:A.length<=aw) :
  Con prog 386 [.ms 1000 1 0 n] [(1000,some (.row 1 (A.map u32)))] (.ms 1000 1 0 (ofNat (val (A.take n)/2)).length) [(1000,some (.row 1 ((wr A 0 (a5 n (val (A.take n)/2))).map u32)))]:=by
 have la':=la;unfold aw at la;refine gF func386 (fun k z h=>bj h) ?_;refine f0 [5] [] (fun(o:List Nat)(i:Nat)=>[(0,some (.ms 1000 1 0 n)),(6,some (i64 i))]) (fun o _=>[(1000,some (.row 1 (o.map u32)))]) (fun o i=>o.length=A.length/\i<=n/\Ws o/\o.drop i=A.drop i/\val (o.take i)=val (A.take n)/2^1%4294967296^i) (fun _ i=>n-i) A 0 ⟨rfl,by omega,hA,rfl,by simp[val,Nat.mod_one]⟩ ?_;rintro o i ⟨ho,hi,hw,hd,hv⟩ K1 J1;refine gC (fun t7=>?_) (fun t7=>?_)
 ·have hin : i < n := by simpa [aa] using t7
  have e1:ah (o.take n) i=ah (A.take n) i:=by rw[nc hin,nc hin];exact pZ hd
  have hd2:o.drop (i+1)=A.drop (i+1):=by
   have h1:(o.drop i).drop 1=(A.drop i).drop 1:=by rw[hd]
   rwa [drop_drop,drop_drop]at h1
  have e2:ah (o.take n) (i+1)=ah (A.take n) (i+1):=by
   rcases lt_or_ge (i+1) n with h |h
   ·rw[nc h,nc h];exact pZ hd2
   ·rw[D0 h,D0 h]
  have b1:=bI (fE hA n) i;have b2:=bI (fE hA n) (i+1);have h3:=Bh (n:=1) (fE hA n) (show i<(A.take n).length by simp;omega) (show i<o.length by omega) oz hv;refine gt (az (Ah 1000 o n i hw oz) (bm rfl rfl) aB rfl rfl) ?_;refine gs (eg (.tmp rfl) (.const _) oz ((fV _ 1 oz).trans (by rw[e1])) rfl) ?_;refine ga (iI (y:=1) (by unfold aR;omega) (by unfold aR;omega)) ?_;refine gt (az (Ah 1000 o n (i+1) hw oz) (bm rfl rfl) aB rfl rfl) ?_;refine gs (io (.tmp rfl) (.const _) oz ((p7 (n:=31) oz oz).trans (by rw[e2])) rfl) ?_;refine gs (jf (.tmp rfl) (.tmp rfl) rfl ((rI oz oz).trans (by rw[Az oz])) rfl) ?_;refine gv ((df _).trans (show _=(((ah (A.take n) i+ah (A.take n) (i+1)*2^32)/2^1%4294967296:Nat):Int) by congr 1;omega)) ?_;refine gs (bP (n:=i) (.tmp rfl) (.tmp rfl) T43 rfl T350 rfl oz (by first |omega |(simp;omega)) rfl) ?_;refine gs (dk (.tmp rfl) rfl (bT (i:=i) oz) rfl (.tmp rfl) rfl rfl T350 rfl rfl) ?_;refine ga (cV oz) ?_;exact fC J1 (o.set i ((ah (A.take n) i+ah (A.take n) (i+1)*2^32)/2^1%4294967296)) (i+1) ⟨by simp[ho],by omega,fA hw oz,rm hd,h3⟩ (hw:=Wk.of aW (.cons rfl (BlkSub.of (by rw[map_set];rfl)) .nil))
 have hin:i=n:=by have:n<=i:=(by simpa[aa]using t7);omega
 subst hin;have hlt:=mZ hA i;have hv':val (o.take i)=val (A.take i)/2:=by rw[hv,Nat.mod_eq_of_lt oz]
 have h9:=C6 hw ho hn hd hv';refine gt (az (Ag o i hw oz oz) (cq rfl) aB rfl rfl) ?_;refine gR ?_;exact aq.own2 rfl (by rw[<- h9]) (by rw[hv'];rfl)
theorem GA(A b:List Nat)(n:Nat)(hA:Ws A)(hb:Ws b)(hn:n<=A.length)(la:A.length<=aw)(hle:val b<=val (A.take n)) :
  Con prog 387 [.ms 1000 1 0 n,ws b] [(1000,some (.row 1 (A.map u32)))] (.tup []) [(1000,some (.row 1 ((wr A 0 (a5 n (val (A.take n)-val b))).map u32)))]:=by
 unfold aw at la;refine gF func387 (fun k z h=>bj h) ?_;refine ii [1,8] [] (fun(o:List Nat)(c i:Nat)=>[(0,some (.ms 1000 1 0 n)),(4,some (u64 c)),(9,some (i64 i))]) (fun o _ _=>[(1000,some (.row 1 (o.map u32)))]) (fun o c i=>o.length=A.length/\i<=n/\Ws o/\c<=1/\o.drop i=A.drop i/\val (o.take i)+val (b.take i)=val (A.take i)+c*4294967296^i) (fun _ _ i=>n-i) A 0 0 ⟨rfl,by omega,hA,by omega,rfl,by simp[val]⟩ ?_;rintro o c i ⟨ho,hi,hw,hc,hd,hv⟩ K1 J1;refine gC (fun t10=>?_) (fun t10=>?_)
 ·have hin : i < n := by simpa [aa] using t10
  have e1:ah (o.take n) i=ah A i:=by rw[nc hin];exact pZ hd
  have h1:=bI hA i;have h2:=bI hb i;obtain⟨s,hs⟩:∃s,s=4294967296+ah A i-ah b i-c:=⟨_,rfl⟩
  have h3:=Fi h1 h2 hc hv;rw[<- hs]at h3;refine gt (az (Ah 1000 o n i hw oz) (bm rfl rfl) aB rfl rfl) ?_;refine ga ((iu (x:=4294967296) oz).trans (by rw[e1])) ?_;refine gc (kI b i hb) ?_;refine ga ((jT oz oz).trans (by rw[if_pos oz])) ?_;refine ga ((jT oz oz).trans (show _=(s:Int) by rw[if_pos oz];congr 1;omega)) ?_;refine gv (df _) ?_;refine gs (eg (.tmp rfl) (.const _) oz (fV _ 32 oz) rfl) ?_;refine ga ((jT (x:=1) oz oz).trans (by rw[if_pos oz])) ?_;refine gs (bP (n:=i) (.tmp rfl) (.tmp rfl) T43 rfl T350 rfl oz (by first |omega |(simp;omega)) rfl) ?_;refine gs (dk (.tmp rfl) rfl (bT (i:=i) oz) rfl (.tmp rfl) rfl rfl T350 rfl rfl) ?_;refine ga (cV oz) ?_;exact f8 J1 (o.set i (s%4294967296)) (1-s/2^32) (i+1) ⟨by simp[ho],by omega,fA hw oz,by omega,rm hd,by rw[kL oz,cU,cU,Nat.pow_succ];exact h3⟩ (hw:=Wk.of aW (.cons rfl (BlkSub.of (by rw[map_set];rfl)) .nil))
 have hin:i=n:=by have:n<=i:=(by simpa[aa]using t10);omega
 subst hin;have hl:(A.take i).length=i:=by simp;omega
 have h4:=GW (a:=A.take i) (b:=b) (out:=o.take i) (fE hA i) (fE hw i) (by simp;omega) hle (by rw[hl,take_of_length_le (show(A.take i).length<=i by omega)];exact hv);have h9:=C6 hw ho hn hd h4;refine gR ?_;exact aq.own2 rfl (by rw[<- h9]) rfl
theorem Gx{x:Nat}(h:x<=9223372036854775807):IntKind.i64.wrap ((x:Int).tdiv 32)=((x/32:Nat):Int):=by
 rw[show(32:Int)=((32:Nat):Int)from rfl,<- Int.ofNat_tdiv];exact i64_in oz
theorem Cn{x:Nat}:(x:Int).tmod 32=((x%32:Nat):Int):=(Int.ofNat_tmod _ _).symm
theorem qI(i:Nat):(4294967296:Nat)^i=2^(32*i):=by rw[Nat.pow_mul]
theorem Rr{a:List Nat}(ha:Ws a){k:Nat}(hk:k/32<a.length):ah a (k/32)/2^(k%32)%2=val a/2^k%2:=by
 have h1:val a/2^k=(val a/4294967296^(k/32))/2^(k%32):=by
  rw[qI,Nat.div_div_eq_div_mul,<- pow_add];congr 2;omega
 rw[h1,tJ ha _ oz,tj];generalize val (a.drop (k/32+1))=R
 have h2:4294967296*R=2^(k%32)*(2*(2^(31-k%32)*R)):=by
  have:(4294967296:Nat)=2^(k%32)*(2*2^(31-k%32)):=by
   rw[<- Nat.pow_succ',<- pow_add,show k%32+(31-k%32).succ=32 by omega]
  conv=>lhs;rw[this]
  grind
 rw[h2,Nat.add_mul_div_left _ _ (Nat.pow_pos oz),Nat.add_mul_mod_self_left]
theorem Rj{w c:Nat}(hc:c<=1):w*2^1%4294967296 ||| c=w*2^1%4294967296+c:=by
 have h:w*2^1%4294967296=(w%2147483648)*2^1:=by omega
 rw[h];exact rV oz
theorem SX{o c P rt w bit:Nat}(hw:w<4294967296)(h:o+c*P=2*rt+bit) :
  (o+P*(w*2^1%4294967296+c))+(w/2^31)*(P*4294967296)=2*(rt+P*w)+bit:=by
 have h0:w*2^1%4294967296+(w/2^31)*4294967296=2*w:=by omega
 generalize w*2^1%4294967296=r at *;generalize w/2^31=q at *;grind
theorem Q5{q:List Nat}(hq:Ws q){k Y:Nat}(hk:k/32<q.length)(h:val q=2^(k+1)*Y) :
  ah q (k/32) ||| 2^(k%32)=ah q (k/32)+2^(k%32)/\ah q (k/32)+2^(k%32)<4294967296:=by
 have h1:=tJ hq (k/32) oz;rw[tj,h,qI,show k+1=32*(k/32)+(k%32+1) by omega,pow_add,Nat.mul_assoc,Nat.mul_div_cancel_left _ (Nat.pow_pos oz)]at h1;have hw:=bI hq (k/32);generalize ah q (k/32)=w at *;generalize val (q.drop (k/32+1))=R at *
 have hB:(4294967296:Nat)=2^(k%32+1)*2^(31-k%32):=by
  rw[<- pow_add,show k%32+1+(31-k%32)=32 by omega]
 have h2:w%2^(k%32+1)=0:=by
  have h3:(w+4294967296*R)%2^(k%32+1)=0:=by rw[<- h1];exact Nat.mul_mod_right _ _
  rw[hB,Nat.mul_assoc,Nat.add_mul_mod_self_left]at h3;exact h3
 have h4:w=2^(k%32+1)*(w/2^(k%32+1)):=by
  have:=Nat.div_add_mod w (2^(k%32+1));omega
 have h5:2^(k%32)<2^(k%32+1):=by rw[Nat.pow_succ];have:=Nat.pow_pos (n:=k%32) (show 0<2 by omega);omega
 constructor
 ·rw[h4];exact(Nat.two_pow_add_eq_or_of_lt h5 _).symm
 ·have h6:w/2^(k%32+1)<2^(31-k%32):=by
   rw[Nat.div_lt_iff_lt_mul (Nat.pow_pos oz),Nat.mul_comm,<- hB];exact hw
  have h7:=mul_le_mul_left (2^(k%32+1)) (show w/2^(k%32+1)+1<=2^(31-k%32)from h6);rw[<- hB,Nat.mul_add,<- h4]at h7;omega
theorem Qy{q:List Nat}(hq:Ws q){k Y:Nat}(hk:k/32<q.length)(h:val q=2^(k+1)*Y) :
  val (q.set (k/32) (ah q (k/32)+2^(k%32)))=2^k*(2*Y+1):=by
 have h1:=xK (x:=ah q (k/32)+2^(k%32)) hk;rw[Nat.mul_add]at h1;have h2:4294967296^(k/32)*2^(k%32)=2^k:=by rw[qI,<- pow_add];congr 1;omega
 rw[h2,h,Nat.pow_succ]at h1;grind
theorem JQ{V Bv k:Nat}(hB:0<Bv) :
  (Bv<=2*(V/2^(k+1)%Bv)+V/2^k%2->V/2^k%Bv=2*(V/2^(k+1)%Bv)+V/2^k%2-Bv/\V/2^k/Bv=2*(V/2^(k+1)/Bv)+1) /\
  (2*(V/2^(k+1)%Bv)+V/2^k%2<Bv->V/2^k%Bv=2*(V/2^(k+1)%Bv)+V/2^k%2/\V/2^k/Bv=2*(V/2^(k+1)/Bv)):=by
 have h1:V/2^(k+1)=V/2^k/2:=by rw[Nat.pow_succ,Nat.div_div_eq_div_mul]
 rw[h1];generalize V/2^k=X;have h2:=Nat.div_add_mod X 2;have h3:=Nat.div_add_mod (X/2) Bv;have h4:=Nat.mod_lt (X/2) hB;have h5:=Nat.mod_lt X (show 0<2 by omega);generalize X/2%Bv=r at *;generalize X/2/Bv=q at *;generalize X%2=b at *;generalize X/2=Y at *;constructor
 ·intro h;have:=tR (a:=X) (w:=Bv) (q:=2*q+1) (r:=2*r+b-Bv) (by rw[Nat.mul_add,Nat.mul_one,show Bv*(2*q)=2*(Bv*q) by grind];omega) oz;exact⟨this.2,this.1⟩
 ·intro h;have:=tR (a:=X) (w:=Bv) (q:=2*q) (r:=2*r+b) (by rw[show Bv*(2*q)=2*(Bv*q) by grind];omega) oz;exact⟨this.2,this.1⟩
theorem UU{A l:List Nat}(h:l.length=A.length):wr A 0 l=l:=by
 unfold wr;rw[drop_eq_nil_of_le oz];simp
theorem DH{V:Nat}:V/2^aV V=0:=Nat.div_eq_of_lt vX
theorem EY{a:List Nat}(ha:Ws a){k:Nat}(h:k<aV (val a)):k/32<a.length:=by
 rcases lt_or_ge (k/32) a.length with h1 |h1
 ·exact h1
 ·exfalso;have h2:=bR a ha;rw [qI] at h2;have h3:val a ≠ 0:=by intro h0; rw [h0] at h; simp [aV] at h
  have h4:=tK h3;have h5:2^(32*a.length)<=2^(aV (val a)-1):=nZ oz;omega
theorem Sa(a b:List Nat)(ha:Ws a)(hb:Ws b)(na:Nz a)(hb0:val b≠0)(la:a.length<aw)(lb:b.length<aw) :
  FP 361 [ws a,ws b] (.tup [ws (ofNat (val a/val b)),ws (ofNat (val a%val b))]):=by
 have la':=la;have lb':=lb;unfold aw at la lb;obtain⟨V,hV⟩:∃V,V=val a:=⟨_,rfl⟩
 obtain⟨Bv,hBv⟩:∃Bv,Bv=val b:=⟨_,rfl⟩
 have hBp:0<Bv:=by omega
 have hBl:2*Bv<=4294967296^(b.length+1):=by have:=bR b hb;rw[Nat.pow_succ];omega
 have hbl:aV V<=32*a.length:=by
  rcases Nat.eq_zero_or_pos (aV V)with h |h
  ·omega
  ·have := EY ha (k := aV V-1) (by rw[<- hV];omega);omega
 rw[<- hV,<- hBv];refine ai func361 ?_;refine gl ?_;refine gs (gw (.tmp rfl) T43 rfl T350 rfl rfl oz (by dsimp only;omega) rfl) ?_;refine gl ?_;refine ga (iI (y:=1) (by unfold aR;omega) (by unfold aR;omega)) ?_;refine gs (gw (.tmp rfl) T43 rfl T350 rfl rfl oz (by dsimp only;omega) rfl) ?_;refine gc (hV▸SE a ha na oz) ?_;refine ga (dI oz) ?_;refine ii [0,1] [] (fun(q r:List Nat)(i:Nat)=>[(6,some (.ms 13 1 0 a.length)),(7,some (.ms 17 1 0 (b.length+1))),(8,some (i64 ((i:Int)-1)))]) (fun q r _=>[(13,some (.row 1 (q.map u32))),(17,some (.row 1 (r.map u32)))]) (fun q r i=>q.length=a.length/\r.length=b.length+1/\Ws q/\Ws r/\i<=aV V/\val r=V/2^i%Bv/\val q=2^i*(V/2^i/Bv)) (fun _ _ i=>i) (List.replicate a.length 0) (List.replicate (b.length+1) 0) (aV V) ⟨by simp,by simp,kQ _,kQ _,le_refl _,by rw[vd,DH,Nat.zero_mod],by rw[vd,DH,Nat.zero_div,Nat.mul_zero]⟩ ?_ (h2:=(.cons rfl (BlkSub.of (by rw[map_replicate];rfl)) (.cons rfl (BlkSub.of (by rw[map_replicate];rfl)) .nil)))
 rintro q r i ⟨hql,hrl,wq,wr',hi,hr,hq⟩ K1 J1;refine gC (fun t22=>?_) (fun t22=>?_) (st2:=(15,0))
 ·have hi0 : 1 <= i := by have := t22; simp [aa] at this; omega
  obtain⟨k,rfl⟩:∃k,i=k+1:=⟨i-1,by omega⟩
  rw[show((k+1:Nat):Int)-1=(k:Int) by omega];have hka:=EY ha (k:=k) (by rw[<- hV];omega);have hbit:=Rr ha hka;have hwB:=bI ha (k/32);rw[<- hV]at hbit;obtain⟨bit,hbt⟩:∃bit,bit=V/2^k%2:=⟨_,rfl⟩
  have hb1:bit<=1:=by omega
  have hrlt:=Nat.mod_lt (V/2^(k+1)) hBp;have hdw:ah a (k/32)/2^(k%32)<=ah a (k/32):=Nat.div_le_self _ _;refine gs (jV (.tmp rfl) (.const _) oz (Gx oz) rfl) ?_;refine gi (fS (n:=k/32) oz (by first |omega |(simp;omega))) ?_;refine gs (uJ (.tmp rfl) (.const _) oz Cn rfl) ?_;refine gs (eg (.tmp rfl) (.tmp rfl) oz (pa _ (k%32) oz) rfl) ?_;refine gs (jf (.tmp rfl) (.const _) rfl ((DU (y:=1) oz oz).trans (show _=(bit:Int) by rw[Nat.and_one_is_mod,hbit,hbt])) rfl) ?_;refine ii [0,1,8,35] [13] (fun(o:List Nat)(c j:Nat)=>[(6,some (.ms 13 1 0 a.length)),(7,some (.ms 17 1 0 (b.length+1))),(9,some (u32 c)),(36,some (i64 j))]) (fun o _ _=>[(17,some (.row 1 (o.map u32)))]) (fun o c j=>o.length=b.length+1/\Ws o/\j<=b.length+1/\c<=1/\o.drop j=r.drop j/\val (o.take j)+c*4294967296^j=2*val (r.take j)+bit) (fun _ _ j=>b.length+1-j) r bit 0 ⟨hrl,wr',by omega,hb1,rfl,by simp[val]⟩ ?_
  rintro o c j ⟨hol,wo,hj,hc,hd,hv⟩ K2 J2;refine gC (fun t37=>?_) (fun t37=>?_)
  ·have hjn : j < b.length + 1 := by have := t37; simp [aa] at this; omega
   have e1:ah o j=ah r j:=pZ hd;have h1:=bI wr' j;have h3:=SX (w:=ah r j) h1 hv;refine gs (bP (n:=j) (.tmp rfl) (.tmp rfl) T43 rfl T350 rfl oz (by first |omega |(simp;omega)) rfl) ?_;refine gs (dQ (.tmp rfl) rfl (by rw[bT (show j<o.length by omega),e1]) T350 rfl rfl rfl) ?_;refine gs (io (.tmp rfl) (.const _) oz (Dw (n:=1) oz) rfl) ?_;refine gs (jf (.tmp rfl) (.tmp rfl) rfl ((yo oz oz).trans (by rw[Rj hc])) rfl) ?_;refine gs (bP (n:=j) (.tmp rfl) (.tmp rfl) T43 rfl T350 rfl oz (by first |omega |(simp;omega)) rfl) ?_;refine gs (dQ (.tmp rfl) rfl (by rw[bT (show j<o.length by omega),e1]) T350 rfl rfl rfl) ?_;refine gs (eg (.tmp rfl) (.const _) oz (pa _ 31 oz) rfl) ?_;refine gs (bP (n:=j) (.tmp rfl) (.tmp rfl) T43 rfl T350 rfl oz (by first |omega |(simp;omega)) rfl) ?_;refine gs (dk (.tmp rfl) rfl (bT (i:=j) oz) rfl (.tmp rfl) rfl rfl T350 rfl rfl) ?_;refine gD ?_;refine ga (cV oz) ?_;exact f8 J2 (o.set j (ah r j*2^1%4294967296+c)) (ah r j/2^31) (j+1) ⟨by simp[hol],fA wo oz,by omega,by omega,rm hd,by rw[kL oz,cU];rw[show 4294967296^(j+1)=4294967296^j*4294967296 from Nat.pow_succ _ _];exact h3⟩ (hw:=Wk.of aW (.cons rfl (BlkSub.of (by rw[map_set];rfl)) (.k .nil)))
  have hjn:j=b.length+1:=by have:b.length+1<=j:=(by have:=t37;simp[aa]at this;omega);omega
  subst hjn;rw[ef (l:=r) oz,ef (l:=o) oz,hr]at hv
  have hc0:c=0:=by
   cases c with
   |zero=>rfl
   |succ c=>rw[Nat.succ_mul]at hv;omega
  subst hc0;rw[Nat.zero_mul,Nat.add_zero]at hv;have hot:o.take (b.length+1)=o:=take_of_length_le oz;obtain⟨d1,d2⟩:=JQ (V:=V) (k:=k) hBp;rw[<- hbt]at d1 d2;have hcmp:=Kn 17 o b (b.length+1) wo hb oz;rw[hot,<- hBv,hv]at hcmp;have hqk:k/32<q.length:=by omega
  obtain⟨w1,w2⟩:=Q5 wq hqk hq;have w3:=Qy wq hqk hq;refine gt (az hcmp (bm rfl rfl) aB rfl rfl) ?_;refine gC (fun t58=>?_) (fun t58=>?_)
  ·have hge:Bv<=2*(V/2^(k+1)%Bv)+bit:=by
    rcases lt_or_ge (2*(V/2^(k+1)%Bv)+bit) Bv with h |h
    ·rw[if_pos h]at t58;cases t58
    ·exact h
   obtain⟨d3,d4⟩:=d1 hge;have htk:=GA o b (b.length+1) wo hb oz (by unfold aw;omega) (by rw[hot,<- hBv,hv];exact hge);rw[hot,<- hBv,hv,<- d3,UU (by rw[eL,hol])]at htk;have hx2:V/2^k%Bv<4294967296^(b.length+1):=by have:=Nat.mod_lt (V/2^k) hBp;omega
   refine gt (az (Con.rk 17 rfl rfl htk) (bm rfl rfl) aB rfl rfl) ?_;refine gs (jV (.tmp rfl) (.const _) oz (Gx oz) rfl) ?_;refine gs (bP (n:=k/32) (.tmp rfl) (.tmp rfl) T43 rfl T350 rfl oz oz rfl) ?_;refine gs (dQ (.tmp rfl) rfl (bT (i:=k/32) hqk) T350 rfl rfl rfl) ?_;refine gs (uJ (.tmp rfl) (.const _) oz Cn rfl) ?_;refine gs (io (.const _) (.tmp rfl) oz ((Dw (x:=1) (n:=k%32) oz).trans (show _=((2^(k%32):Nat):Int) by rw[Nat.one_mul,Nat.mod_eq_of_lt (lt_of_le_of_lt (Nat.le_add_left _ _) w2)])) rfl) ?_;refine gs (jf (.tmp rfl) (.tmp rfl) rfl ((yo (bI wq _) (lt_of_le_of_lt (Nat.le_add_left _ _) w2)).trans (by rw[w1])) rfl) ?_;refine gs (bP (n:=k/32) (.tmp rfl) (.tmp rfl) T43 rfl T350 rfl oz oz rfl) ?_;refine gs (dk (.tmp rfl) rfl (bT (i:=k/32) hqk) rfl (.tmp rfl) rfl rfl T350 rfl rfl) ?_;refine gD ?_;refine ga (dI oz) ?_;exact f8 J1 (q.set (k/32) (ah q (k/32)+2^(k%32))) (a5 (b.length+1) (V/2^k%Bv)) k ⟨by simp[hql],eL _ _,fA wq w2,jq _ _,by omega,kD _ _ hx2,by rw[w3,d4]⟩ (hw:=Wk.of aW (.cons rfl (BlkSub.of (by first |rfl |(rw[map_set];rfl))) (.k .nil)))
  have hge:2*(V/2^(k+1)%Bv)+bit<Bv:=by
   rcases lt_or_ge (2*(V/2^(k+1)%Bv)+bit) Bv with h |h
   ·exact h
   ·rw[if_neg oz]at t58;split at t58 <;> cases t58
  obtain⟨d3,d4⟩:=d2 hge;refine ga (dI oz) ?_;exact f8 J1 q o k ⟨hql,hol,wq,wo,by omega,by rw[hv,d3],by rw[hq,d4,Nat.pow_succ,Nat.mul_assoc]⟩ (hw:=Wk.of aW (.cons rfl (BlkSub.of (by first |rfl |(rw[map_set];rfl))) (.k .nil)))
 have hi0:i=0:=by have:=t22;simp[aa]at this;omega
 subst hi0;refine gW ((Wk.freeze (k:=13) rfl).trans<|(Wk.freeze (k:=17) rfl).trans<|Wk.of (sl:=[(6,some (ws q)),(7,some (ws r))]) (hp:=[]) (.cons rfl (Sub.of (by rw[show AV.fz 13 1 (q.map u32) (.ms 13 1 0 a.length)=ws q from bJ (by simp[hql])];rfl)) (.cons rfl (Sub.of (bJ (by simp[hrl]))) .nil)) .nil) ?_;refine gc (oR q wq oz) ?_;refine gc (oR r wr' (by unfold aw;omega)) ?_;refine bh ?_;rw[hr,hq];simp[]
def gE(L:Nat)(A:List Nat)(n:Nat):Prop:=Ws A/\n<=A.length/\A.length<=L/\n=(ofNat (val (A.take n))).length
theorem Qo(v:Nat):ofNat v=a5 (ofNat v).length v:=by
 have h:=rf (ofNat v) (cQ _)
 rwa [bS]at h
theorem iG{L:Nat}{A:List Nat}{n v:Nat}(h:gE L A n)(hv:v<=val (A.take n)) :
  gE L (wr A 0 (a5 n v)) (ofNat v).length/\val ((wr A 0 (a5 n v)).take (ofNat v).length)=v/\val ((wr A 0 (a5 n v)).take n)=v:=by
 obtain⟨hw,hn,hl,hN⟩:=h;have hlt:=mZ hw n;have hvl:v<4294967296^n:=by omega
 have hle:(ofNat v).length<=n:=en hvl
 have ht:(wr A 0 (a5 n v)).take n=a5 n v:=by
  unfold wr;rw[List.take_zero,nil_append,List.take_append_of_le_length (by rw[eL];omega),take_of_length_le (by rw[eL];omega)]
 have ht2:(wr A 0 (a5 n v)).take (ofNat v).length=ofNat v:=by
  have h1:((wr A 0 (a5 n v)).take n).take (ofNat v).length=(wr A 0 (a5 n v)).take (ofNat v).length:=by rw[List.take_take,Nat.min_eq_left hle]
  rw[<- h1,ht,zp _ _ _ hle,<- Qo]
 have hlen:(wr A 0 (a5 n v)).length=A.length:=lh (by rw[eL];omega);refine⟨⟨oh hw (jq _ _),by omega,by omega,by rw[ht2,bS]⟩,by rw[ht2,bS],by rw[ht,kD _ _ hvl]⟩
theorem f9{L:Nat}{A:List Nat}{n:Nat}(h:gE L A n)(hx:0<val (A.take n)):0<n/\val (A.take n)%2=ah A 0%2:=by
 have hn:0<n:=by
  rcases Nat.eq_zero_or_pos n with h0 |h0
  ·subst h0;simp[val]at hx
  ·exact h0
 refine⟨hn,?_⟩;have:=tj (A.take n) 0;rw[drop_zero,nc hn]at this;omega
theorem MW{L:Nat}{A:List Nat}{n:Nat}(h:gE L A n):A.take n=ofNat (val (A.take n)):=by
 obtain⟨hw,hn,hl,hN⟩:=h;have h1:=BN (fE hw n);rw[<- hN,List.take_take,Nat.min_self]at h1;exact h1
theorem H9{L:Nat}{A:List Nat}{n:Nat}(h:gE L A n):n=0↔val (A.take n)=0:=by
 constructor
 ·intro h0;subst h0;rfl
 ·intro h0;have h1:=h.2.2.2;rw[h0]at h1;exact h1
theorem Ni{x y:Nat}(hx:x%2=0)(hy:y%2=0):Nat.gcd x y=2*Nat.gcd (x/2) (y/2):=by
 rw[<- Nat.gcd_mul_left,Nat.mul_div_cancel' (Nat.dvd_of_mod_eq_zero hx),Nat.mul_div_cancel' (Nat.dvd_of_mod_eq_zero hy)]
theorem Dv{x y:Nat}(hx:x%2=0)(hy:y%2=1):Nat.gcd (x/2) y=Nat.gcd x y:=by
 have h1:x=2*(x/2):=by omega
 have h2:Nat.Coprime 2 y:=by
  rw[Nat.Coprime,Nat.gcd_rec,hy];rfl
 conv=>rhs;rw[h1]
 exact(Nat.Coprime.gcd_mul_left_cancel _ h2).symm
theorem Hs{x y:Nat}(h:y<=x):Nat.gcd (x-y) y=Nat.gcd x y:=Nat.gcd_sub_self_left h
theorem Ew{t L g V:Nat}(hg:0<g)(h:2^t*g<=V)(hV:V<4294967296^L):t<32*L:=by
 rw[qI]at hV;have h1:=mul_le_mul_left (2^t) (show 1<=g from hg);rcases lt_or_ge t (32*L)with h2 |h2
 ·exact h2
 ·have:=nZ h2;omega
theorem HT(A D:List Nat)(n p:Nat)(hA:Ws A)(hD:Ws D)(hn:n<=A.length)(hp:p<=D.length)(la:A.length<=aw)(hle:val (D.take p)<=val (A.take n)) :
  Con prog 387 [.ms 901 1 0 n,.ms 902 1 0 p] [(902,some (.row 1 (D.map u32))),(901,some (.row 1 (A.map u32)))] (.tup [])
   [(902,some (.row 1 (D.map u32))),(901,some (.row 1 ((wr A 0 (a5 n (val (A.take n)-val (D.take p)))).map u32)))]:=by
 have h1:=Con.rk 901 rfl rfl (GA A (D.take p) n hA (fE hD p) hn la hle);refine Con.borrow (args:=[.ms 901 1 0 n,ws (D.take p)]) 902 1 (D.map u32) rfl rfl rfl ?_ rfl ?_ h1
 ·intro j x' hj
  match j,hj with
  |0,hj=>cases hj;exact .inl rfl
  |1,hj=>cases hj;exact .inr ⟨0,p,rfl,by simpa using hp,by rw[o0];rfl⟩
 ·intro k' x h;obtain⟨_,h⟩:=fc h;cases h;exact Bf _
theorem wb{A:List Nat}(hA:Ws A){i:Nat}:nU .and .u32 (ah A i:Int) 1=((ah A i%2:Nat):Int) :=
 (DU (y:=1) (bI hA i) oz).trans (by rw[Nat.and_one_is_mod])
theorem SL(a b:List Nat)(ha:Ws a)(hb:Ws b)(na:Nz a)(nb:Nz b)(la:a.length+b.length<aw):FP 360 [ws a,ws b] (ws (ofNat (Nat.gcd (val a) (val b)))):=by
 have la':=la;unfold aw at la;have ea:=qi ha na;have eb:=qi hb nb;obtain⟨L,hL⟩:∃L,L=a.length+b.length:=⟨_,rfl⟩
 obtain⟨G,hG⟩:∃G,G=Nat.gcd (val a) (val b):=⟨_,rfl⟩
 rw[<- hG];refine ai func360 ?_;refine gt (az (z9 901 rfl a ha (by unfold aw;omega)) (cq rfl) aB rfl rfl) ?_;refine gt (az (z9 902 rfl b hb (by unfold aw;omega)) (cq rfl) aB rfl rfl) ?_ (2,0);refine gW (Wk.of (sl:=[(0,some (.ms 901 1 0 a.length)),(1,some (.ms 902 1 0 b.length))]) (hp:=[(901,some (.row 1 (a.map u32))),(902,some (.row 1 (b.map u32)))]) (.cons rfl (Sub.of (by rw[ea])) (.cons rfl (Sub.of (by rw[eb])) .nil)) (.k (.k .nil))) ?_;refine gC (fun t12=>?_) (fun t12=>?_) (st1:=(3,0))
 ·have h0 : a=[] := List.length_eq_zero_iff.1 (by simpa[aa]using t12);refine gW ((Wk.freeze (k:=902) rfl).trans<|Wk.of (sl:=[(1,some (ws b))]) (hp:=[]) (.cons rfl (Sub.of (bJ (by simp))) .nil) .nil) ?_;refine af ?_;rw[hG,h0];simp[val,eb]
 have h0:a≠[]:=fun h=>by rw[h]at t12;simp[aa]at t12
 refine gC (fun t16=>?_) (fun t16=>?_) (st1:=(5,0))
 ·have h1 : b=[] := List.length_eq_zero_iff.1 (by simpa[aa]using t16);refine gW ((Wk.freeze (k:=901) rfl).trans<|Wk.of (sl:=[(0,some (ws a))]) (hp:=[]) (.cons rfl (Sub.of (bJ (by simp))) .nil) .nil) ?_;refine af ?_;rw[hG,h1];simp[val,ea]
 have h1:b≠[]:=fun h=>by rw[h]at t16;simp[aa]at t16
 have va:=nf na h0;have vb:=nf nb h1;have hGp:0<G:=by rw[hG];exact Nat.gcd_pos_of_pos_left _ va
 have hGa:G<=val a:=by rw[hG];exact Nat.gcd_le_left _ va
 have vla:=bR a ha;refine HY [] [] (fun(A D:List Nat)(n p t:Nat)=>[(0,some (.ms 901 1 0 n)),(1,some (.ms 902 1 0 p)),(5,some (i64 t))]) (fun A D _ _ _=>[(901,some (.row 1 (A.map u32))),(902,some (.row 1 (D.map u32)))]) (fun A D n p t=>gE L A n/\gE L D p/\0<val (A.take n)/\0<val (D.take p)/\G=2^t*Nat.gcd (val (A.take n)) (val (D.take p))) (fun A _ n _ _=>val (A.take n)) a b a.length b.length 0 ⟨⟨ha,le_refl _,by omega,by rw[take_length,ea]⟩,⟨hb,le_refl _,by omega,by rw[take_length,eb]⟩,by rw[take_length];exact va,by rw[take_length];exact vb,by rw[take_length,take_length,hG];simp⟩ ?_
 rintro A D n p t ⟨gA,gD,pA,pD,hg⟩ K1 J1;refine gs (bP (n:=0) (.tmp rfl) (.const _) T43 rfl T350 rfl oz (by have:=(f9 gA pA).1;omega) rfl) ?_;refine gs (dQ (.tmp rfl) rfl (bT (i:=0) (by have:=(f9 gA pA).1;have:=gA.2.1;omega)) T350 rfl rfl rfl) ?_;refine gs (jf (.tmp rfl) (.const _) rfl (wb gA.1) rfl) ?_;refine gs (d5 rfl rfl rfl (fun h=>bP (n:=0) (.opt rfl (o1 h)) (.const _) T43 rfl T350 rfl oz (by have:=(f9 gD pD).1;omega) rfl)) ?_;refine gs (d5 rfl rfl rfl (fun h=>dQ (.opt rfl (o1 h)) rfl (bT (i:=0) (by have:=(f9 gD pD).1;have:=gD.2.1;omega)) T350 rfl rfl rfl)) ?_;refine gs (d5 rfl rfl rfl (fun h=>jf (.opt rfl (o1 h)) (.const _) rfl (wb gD.1) rfl)) ?_;refine gC (fun t29=>?_) (fun t29=>?_)
 ·have hev:ah A 0%2=0/\ah D 0%2=0:=by
   have:=t29;simp[aa]at this;omega
  have xA:val (A.take n)%2=0:=by rw[(f9 gA pA).2];exact hev.1
  have xD:val (D.take p)%2=0:=by rw[(f9 gD pD).2];exact hev.2
  obtain⟨k1,k2,k3⟩:=iG gA (v:=val (A.take n)/2) oz;obtain⟨m1,m2,m3⟩:=iG gD (v:=val (D.take p)/2) oz;have ht:t<32*a.length:=Ew (Nat.gcd_pos_of_pos_left _ pA) (by rw[<- hg];exact hGa) vla;refine gt (az (Con.rekeyR 901 rfl (uU A n gA.1 gA.2.1 (by have:=gA.2.2.1;unfold aw;omega))) (cq rfl) aB rfl rfl) ?_;refine gt (az (Con.rekeyR 902 rfl (uU D p gD.1 gD.2.1 (by have:=gD.2.2.1;unfold aw;omega))) (cq rfl) aB rfl rfl) ?_;refine ga (show _=((t+1:Nat):Int) by rw[cV oz];omega) ?_;exact Bw J1 (wr A 0 (a5 n (val (A.take n)/2))) (wr D 0 (a5 p (val (D.take p)/2))) ((ofNat (val (A.take n)/2)).length) ((ofNat (val (D.take p)/2)).length) (t+1) ⟨k1,m1,by rw[k2];omega,by rw[m2];omega,by rw[k2,m2,hg,Ni xA xD,Nat.pow_succ];grind⟩ (by rw[k2];omega)
 have hod:val (A.take n)%2=1\/val (D.take p)%2=1:=by
  rw[(f9 gA pA).2,(f9 gD pD).2];have:=t29;simp[aa]at this;omega
 refine Le [5] [] (fun(A1 D1:List Nat)(n1 p1:Nat)=>[(0,some (.ms 901 1 0 n1)),(1,some (.ms 902 1 0 p1))]) (fun A1 D1 _ _=>[(901,some (.row 1 (A1.map u32))),(902,some (.row 1 (D1.map u32)))]) (fun A1 D1 n1 p1=>gE L A1 n1/\gE L D1 p1/\0<val (D1.take p1)/\(val (A1.take n1)%2=1\/val (D1.take p1)%2=1)/\G=2^t*Nat.gcd (val (A1.take n1)) (val (D1.take p1))) (fun A1 D1 n1 p1=>val (A1.take n1)+val (D1.take p1)) A D n p ⟨gA,gD,pD,hod,hg⟩ ?_
 rintro A1 D1 n1 p1 ⟨gA1,gD1,pD1,hod1,hg1⟩ K2 J2;refine gC (fun t38=>?_) (fun t38=>?_) (st2:=(19,0))
 ·have pA1:0<val (A1.take n1):=by
   have h3:n1≠0:=by have:=t38;simp[aa]at this;omega
   exact Nat.pos_of_ne_zero (fun h=>h3 ((H9 gA1).2 h))
  refine f0 [5] [902] (fun(A2:List Nat)(n2:Nat)=>[(0,some (.ms 901 1 0 n2)),(1,some (.ms 902 1 0 p1))]) (fun A2 _=>[(901,some (.row 1 (A2.map u32)))]) (fun A2 n2=>gE L A2 n2/\0<val (A2.take n2)/\val (A2.take n2)<=val (A1.take n1)/\(val (A2.take n2)%2=1\/val (D1.take p1)%2=1)/\Nat.gcd (val (A2.take n2)) (val (D1.take p1))=Nat.gcd (val (A1.take n1)) (val (D1.take p1))) (fun A2 n2=>val (A2.take n2)) A1 n1 ⟨gA1,pA1,le_refl _,hod1,rfl⟩ ?_
  rintro A2 n2 ⟨gA2,pA2,lA2,hod2,hg2⟩ K3 J3;refine gs (bP (n:=0) (.tmp rfl) (.const _) T43 rfl T350 rfl oz (by have:=(f9 gA2 pA2).1;omega) rfl) ?_;refine gs (dQ (.tmp rfl) rfl (bT (i:=0) (by have:=(f9 gA2 pA2).1;have:=gA2.2.1;omega)) T350 rfl rfl rfl) ?_;refine gs (jf (.tmp rfl) (.const _) rfl (wb gA2.1) rfl) ?_;refine gC (fun t43=>?_) (fun t43=>?_)
  ·have xA2:val (A2.take n2)%2=0:=by
    rw[(f9 gA2 pA2).2];have:=t43;simp[aa]at this;omega
   obtain⟨k1,k2,k3⟩:=iG gA2 (v:=val (A2.take n2)/2) oz;refine gt (az (Con.rekeyR 901 rfl (uU A2 n2 gA2.1 gA2.2.1 (by have:=gA2.2.2.1;unfold aw;omega))) (cq rfl) aB rfl rfl) ?_;exact fC J3 (wr A2 0 (a5 n2 (val (A2.take n2)/2))) ((ofNat (val (A2.take n2)/2)).length) ⟨k1,by rw[k2];omega,by rw[k2];omega,.inr oz,by rw[k2,Dv xA2 oz,hg2]⟩ (by rw[k2];omega)
  have xA2:val (A2.take n2)%2=1:=by
   rw[(f9 gA2 pA2).2];have:=t43;simp[aa]at this;omega
  refine f0 [5] [901] (fun(D2:List Nat)(p2:Nat)=>[(0,some (.ms 901 1 0 n2)),(1,some (.ms 902 1 0 p2))]) (fun D2 _=>[(902,some (.row 1 (D2.map u32)))]) (fun D2 p2=>gE L D2 p2/\0<val (D2.take p2)/\val (D2.take p2)<=val (D1.take p1)/\Nat.gcd (val (A2.take n2)) (val (D2.take p2))=Nat.gcd (val (A2.take n2)) (val (D1.take p1))) (fun D2 p2=>val (D2.take p2)) D1 p1 ⟨gD1,pD1,le_refl _,rfl⟩ ?_;rintro D2 p2 ⟨gD2,pD2,lD2,hg3⟩ K4 J4;refine gs (bP (n:=0) (.tmp rfl) (.const _) T43 rfl T350 rfl oz (by have:=(f9 gD2 pD2).1;omega) rfl) ?_;refine gs (dQ (.tmp rfl) rfl (bT (i:=0) (by have:=(f9 gD2 pD2).1;have:=gD2.2.1;omega)) T350 rfl rfl rfl) ?_;refine gs (jf (.tmp rfl) (.const _) rfl (wb gD2.1) rfl) ?_;refine gC (fun t50=>?_) (fun t50=>?_)
  ·have xD2:val (D2.take p2)%2=0:=by
    rw[(f9 gD2 pD2).2];have:=t50;simp[aa]at this;omega
   obtain⟨k1,k2,k3⟩:=iG gD2 (v:=val (D2.take p2)/2) oz;refine gt (az (Con.rekeyR 902 rfl (uU D2 p2 gD2.1 gD2.2.1 (by have:=gD2.2.2.1;unfold aw;omega))) (cq rfl) aB rfl rfl) ?_;exact fC J4 (wr D2 0 (a5 p2 (val (D2.take p2)/2))) ((ofNat (val (D2.take p2)/2)).length) ⟨k1,by rw[k2];omega,by rw[k2];omega,by rw[k2,Nat.gcd_comm,Dv xD2 xA2,Nat.gcd_comm,hg3]⟩ (by rw[k2];omega)
  have xD2:val (D2.take p2)%2=1:=by
   rw[(f9 gD2 pD2).2];have:=t50;simp[aa]at this;omega
  refine gt (az (Jl 901 902 oz A2 D2 n2 p2 gA2.1 gD2.1 gA2.2.1 gD2.2.1) (bm rfl rfl) aB rfl rfl) ?_;refine gC (fun t56=>?_) (fun t56=>?_) (st1:=(17,0)) (st2:=(77777,0))
  ·have hlt:val (A2.take n2)<val (D2.take p2):=by
    rcases lt_or_ge (val (A2.take n2)) (val (D2.take p2))with h |h
    ·exact h
    ·rw[if_neg oz]at t56;split at t56 <;> cases t56
   refine gW (Wk.o (sl:=[(0,some (.ms 902 1 0 p2)),(1,some (.ms 901 1 0 n2)),(5,some (i64 t))]) (hp:=[(901,some (.row 1 (A2.map u32))),(902,some (.row 1 (D2.map u32)))])) ?_ (17,0);refine gW (Wk.rk (k:=901) (d:=903) rfl rfl) ?_ (17,0);refine gW (Wk.rk (k:=902) (d:=901) rfl rfl) ?_ (17,0);refine gW (Wk.rk (k:=903) (d:=902) rfl rfl) ?_ (17,0);refine gW (Wk.of (sl:=[(0,some (.ms 901 1 0 p2)),(1,some (.ms 902 1 0 n2)),(5,some (i64 t))]) (hp:=[(901,some (.row 1 (D2.map u32))),(902,some (.row 1 (A2.map u32)))]) (.cons rfl (Sub.refl _) (.cons rfl (Sub.refl _) (.cons rfl (Sub.refl _) .nil))) (.k (.k .nil))) ?_ (17,0);obtain⟨A3,D3,n3,p3,gA3,gD3,xA3,xD3,hle3,hg4,hs3,e1,e2,e3,e4⟩:∃A3 D3 n3 p3,gE L A3 n3/\gE L D3 p3/\val (A3.take n3)%2=1/\val (D3.take p3)%2=1/\val (D3.take p3)<=val (A3.take n3)/\Nat.gcd (val (A3.take n3)) (val (D3.take p3))=Nat.gcd (val (A2.take n2)) (val (D2.take p2))/\val (A3.take n3)+val (D3.take p3)=val (A2.take n2)+val (D2.take p2)/\A3=D2/\n3=p2/\D3=A2/\p3=n2:=⟨D2,A2,p2,n2,gD2,gA2,xD2,xA2,by omega,Nat.gcd_comm _ _,Nat.add_comm _ _,rfl,rfl,rfl,rfl⟩
   rw[<- e1,<- e2,<- e3,<- e4];refine go ?_;refine gt (az (HT A3 D3 n3 p3 gA3.1 gD3.1 gA3.2.1 gD3.2.1 (by have:=gA3.2.2.1;unfold aw;omega) hle3) (bm rfl rfl) aB rfl rfl) ?_;refine gt (az (Con.rekeyR 901 rfl (Ag (wr A3 0 (a5 n3 (val (A3.take n3)-val (D3.take p3)))) n3 (oh gA3.1 (jq _ _)) (by rw[lh (by rw[eL];have:=gA3.2.1;omega)];exact gA3.2.1) (by rw[lh (by rw[eL];have:=gA3.2.1;omega)];have:=gA3.2.2.1;unfold aw;omega))) (cq rfl) aB rfl rfl) ?_;exact C1 J2 (wr A3 0 (a5 n3 (val (A3.take n3)-val (D3.take p3)))) D3 ((ofNat (val (A3.take n3)-val (D3.take p3))).length) p3 ⟨(iG gA3 oz).1,gD3,by omega,.inr xD3,by rw[(iG gA3 (v:=val (A3.take n3)-val (D3.take p3)) oz).2.1,Hs hle3,hg4,hg3,hg2,hg1]⟩ (by rw[(iG gA3 (v:=val (A3.take n3)-val (D3.take p3)) oz).2.1];omega) (hw:=Wk.of (.cons rfl (Sub.of (by rw[(iG gA3 (v:=val (A3.take n3)-val (D3.take p3)) oz).2.2])) (.k (.k .nil))) (.k (.k .nil)))
  have hlt:val (D2.take p2)<=val (A2.take n2):=by
   rcases lt_or_ge (val (A2.take n2)) (val (D2.take p2))with h |h
   ·rw[if_pos h]at t56;cases t56
   ·exact h
  refine gW (Wk.o (sl:=[(0,some (.ms 901 1 0 n2)),(1,some (.ms 902 1 0 p2)),(5,some (i64 t))]) (hp:=[(901,some (.row 1 (A2.map u32))),(902,some (.row 1 (D2.map u32)))])) ?_ (77777,0);obtain⟨A3,D3,n3,p3,gA3,gD3,xA3,xD3,hle3,hg4,hs3,e1,e2,e3,e4⟩:∃A3 D3 n3 p3,gE L A3 n3/\gE L D3 p3/\val (A3.take n3)%2=1/\val (D3.take p3)%2=1/\val (D3.take p3)<=val (A3.take n3)/\Nat.gcd (val (A3.take n3)) (val (D3.take p3))=Nat.gcd (val (A2.take n2)) (val (D2.take p2))/\val (A3.take n3)+val (D3.take p3)=val (A2.take n2)+val (D2.take p2)/\A3=A2/\n3=n2/\D3=D2/\p3=p2:=⟨A2,D2,n2,p2,gA2,gD2,xA2,xD2,hlt,rfl,rfl,rfl,rfl,rfl,rfl⟩
  rw[<- e1,<- e2,<- e3,<- e4];obtain⟨k1,k2,k3⟩:=iG gA3 (v:=val (A3.take n3)-val (D3.take p3)) oz;refine go ?_;refine gt (az (HT A3 D3 n3 p3 gA3.1 gD3.1 gA3.2.1 gD3.2.1 (by have:=gA3.2.2.1;unfold aw;omega) hle3) (bm rfl rfl) aB rfl rfl) ?_;refine gt (az (Con.rekeyR 901 rfl (Ag (wr A3 0 (a5 n3 (val (A3.take n3)-val (D3.take p3)))) n3 (oh gA3.1 (jq _ _)) (by rw[lh (by rw[eL];have:=gA3.2.1;omega)];exact gA3.2.1) (by rw[lh (by rw[eL];have:=gA3.2.1;omega)];have:=gA3.2.2.1;unfold aw;omega))) (cq rfl) aB rfl rfl) ?_;exact C1 J2 (wr A3 0 (a5 n3 (val (A3.take n3)-val (D3.take p3)))) D3 ((ofNat (val (A3.take n3)-val (D3.take p3))).length) p3 ⟨(iG gA3 oz).1,gD3,by omega,.inr xD3,by rw[(iG gA3 (v:=val (A3.take n3)-val (D3.take p3)) oz).2.1,Hs hle3,hg4,hg3,hg2,hg1]⟩ (by rw[(iG gA3 (v:=val (A3.take n3)-val (D3.take p3)) oz).2.1];omega) (hw:=Wk.of (.cons rfl (Sub.of (by rw[(iG gA3 (v:=val (A3.take n3)-val (D3.take p3)) oz).2.2])) (.k (.k .nil))) (.k (.k .nil)))
 have zA1:val (A1.take n1)=0:=by
  have h3:n1=0:=by have:=t38;simp[aa]at this;omega
  exact(H9 gA1).1 h3
 rw[zA1,Nat.gcd_zero_left]at hg1;refine gW ((Wk.freeze (k:=902) rfl).trans<|Wk.of (sl:=[(1,some (ws (ofNat (val (D1.take p1))))),(5,some (i64 t))]) (hp:=[]) (.cons rfl (Sub.of (by rw[tM (by rw[length_map];have:=gD1.2.1;omega),o0,<- MW gD1])) (.k .nil)) .nil) ?_;refine aN [64] [] (fun(i:Nat)=>[(1,some (ws (ofNat (2^i*val (D1.take p1))))),(65,some (i64 i))]) (fun _=>[]) (fun i=>i<=t) (fun i=>t-i) 0 (zero_le _) ?_ (h1:=(.cons rfl (Sub.of (by rw[Nat.pow_zero,Nat.one_mul])) (.k .nil)));rintro i hit K5 J5;refine gC (fun t66=>?_) (fun t66=>?_)
 ·have hin : i < t := by simpa [aa] using t66
  have h3:2^i*val (D1.take p1)<=G:=by rw[hg1];exact mul_le_mul_right _ (nZ oz)
  have h4:(ofNat (2^i*val (D1.take p1))).length<=a.length:=en oz;have ht:t<32*a.length:=Ew pD1 (by rw[<- hg1];exact hGa) vla;refine gc (wV _ _ (cQ _) (cQ _) (by unfold aw;omega) (by unfold aw;omega)) ?_;refine ga (cV oz) ?_;exact aH J5 (i+1) hin (hw:=Wk.of (.cons rfl (Sub.of (by rw[bS,Nat.pow_succ];congr 2;grind)) (.k (.k .nil))) .nil)
 have hin:i=t:=by have:t<=i:=(by simpa[aa]using t66);omega
 subst hin;refine af ?_;rw[hg1]
theorem Hk(a b:Wh)(ha:a.ok)(hb:b.ok)(la:a.mag.length+b.mag.length<aw):FP 293 [a.av,b.av] (zA (Int.gcd a.z b.z)):=by
 have h1:=Wh.m_le (w:=a);have h2:=Wh.m_le (w:=b);have h3:Int.gcd a.z b.z=Nat.gcd (val a.m) (val b.m):=by rw[Int.gcd,Wh.abs,Wh.abs]
 have h4:(ofNat (Nat.gcd (val a.m) (val b.m))).length<=a.m.length+b.m.length:=by
  rcases Nat.eq_zero_or_pos (val a.m)with h |h
  ·rw[h,Nat.gcd_zero_left,Wh.ofNat_m hb];omega
  ·exact le_trans (en (lt_of_le_of_lt (Nat.gcd_le_left _ h) (bR _ (Wh.ws ha)))) oz
 refine ai func293 ?_;refine gc (jW a ha) ?_;refine gc (jW b hb) ?_;refine gc (SL a.m b.m (Wh.ws ha) (Wh.ws hb) a.nz b.nz oz) ?_;refine gc (jA false _ (cQ _) oz) ?_;refine gD ?_;refine af ?_;rw[bS,h3];rfl
theorem IW(a b:Wh)(ha:a.ok)(hb:b.ok)(la:a.mag.length+1<aw)(lb:b.mag.length<aw)(h0:b.z≠0):FP 294 [a.av,b.av] (.tup [zA (a.z/b.z),zA (a.z%b.z),i64 0]):=by
 have hm1:=Wh.m_le (w:=a);have hm2:=Wh.m_le (w:=b);have hb1:val b.m≠0:=by have:=Wh.abs (w:=b);omega
 have hl1:(ofNat (val a.m/val b.m)).length<=a.m.length:=en (lt_of_le_of_lt (Nat.div_le_self _ _) (bR _ (Wh.ws ha)));have hmod:=Nat.mod_lt (val a.m) (show 0<val b.m by omega);have hl2:(ofNat (val a.m%val b.m)).length<=b.m.length:=en (Nat.lt_trans hmod (bR _ (Wh.ws hb)));have hl3:(ofNat (val a.m/val b.m+1)).length<=a.m.length+1:=en (by have h7:=lt_of_le_of_lt (Nat.div_le_self (val a.m) (val b.m)) (bR _ (Wh.ws ha));rw[Nat.pow_succ];generalize val a.m/val b.m=m at *;omega);have hl4:(ofNat (val b.m-val a.m%val b.m)).length<=b.m.length:=en (by have:=bR _ (Wh.ws hb);omega);have hv1:val [1]=1:=rfl;refine ai func294 ?_;refine gc (xI b hb) ?_;refine gC (fun t11=>?_) (fun t11=>?_) (st1:=(2,0));exact absurd (Int.sign_eq_zero_iff_zero.1 (by simpa[aa]using t11)) h0;refine gc (jW a ha) ?_;refine gc (jW b hb) ?_;refine gc (Sa a.m b.m (Wh.ws ha) (Wh.ws hb) a.nz hb1 oz oz) ?_;refine gD ?_;refine gc (iz a ha) ?_;refine cF ?_;refine gC (fun t28=>?_) (fun t28=>?_)
 ·have h1:a.n = true /\ 0 < val a.m % val b.m:=vL.1 t28;obtain ⟨e1,e2⟩:=FR hb1 h1.1 h1.2;refine gc (wV (ofNat (val a.m / val b.m)) [1] (cQ _) (qK oz) oz (by unfold aw; simp)) ?_;refine gc (jW b hb) ?_;refine gc (x3 b.m (ofNat (val a.m % val b.m)) (Wh.ws hb) (cQ _) oz (by rw [bS]; omega)) ?_;refine gD ?_ (6,0);refine gW (Wk.of (sl:=[(2,some (.ptr 2 0)),(3,some (.ptr 3 0)),(4,some (.ptr 4 0)),(5,some (.ptr 5 0)),(7,some (ws (ofNat (val a.m / val b.m + 1)))),(8,some (ws (ofNat (val b.m - val a.m % val b.m))))]) (hp:=[(2,some (.box [bl a.neg,ws a.mag])),(3,some (.box [bl b.neg,ws b.mag])),(4,some (.box [.v (.bool false),nS])),(5,some (.box [.v (.bool false),nS]))]) (.k (.k (.k (.k (.cons rfl (Sub.of (by rw [bS,hv1])) (.cons rfl (Sub.of (by rw [bS])) .nil)))))) (.k (.k (.k (.k .nil))))) ?_
  refine gc (iz a ha) ?_;refine gc (iz b hb) ?_;refine gc (by apply jA _ _ (cQ _) oz) ?_;refine gc (by apply jA _ _ (cQ _) oz) ?_;refine gD ?_;refine gR ?_;exact qo (by rw[bS,bS,e1,show sgn false _=_ from e2];rfl)
 have h1:¬(a.n=true/\0<val a.m%val b.m):=fun h=>Bool.eq_false_iff.1 t28 (vL.2 h)
 obtain⟨e1,e2⟩:=Gi hb1 h1;refine gc (iz a ha) ?_;refine gc (iz b hb) ?_;refine gc (by apply jA _ _ (cQ _) oz) ?_;refine gc (by apply jA _ _ (cQ _) oz) ?_;refine gD ?_;refine gR ?_;exact qo (by rw[bS,bS,e1,show sgn false _=_ from e2];rfl)
theorem tk{x:Int}(hx:Zs x):FP 306 [zA x] (i64 x.sign):=by
 have h:=yq (ofInt x) hx.ok;rw[dl]at h;exact h
theorem vG{x:Int}(hx:Zs x):FP 234 [zA x] (zA (-x)):=by
 have h:=U8 (ofInt x) hx.ok (by have:=hx.len;unfold aw;omega);rw[dl]at h;exact h
theorem Co{x y:Int}(hx:Zs x)(hy:Zs y):FP 304 [zA x,zA y] (i64 (fZ x y)):=by
 have h:=RU (ofInt x) (ofInt y) hx.ok hy.ok;rw[dl,dl]at h;exact h
theorem PP{x y:Int}(hx:Zs x)(hy:Zs y):FP 320 [zA x,zA y] (zA (x+y)):=by
 have h:=JJ (ofInt x) (ofInt y) hx.ok hy.ok (by have:=hx.len;unfold aw;omega) (by have:=hy.len;unfold aw;omega);rw[dl,dl]at h;exact h
theorem lU{x y:Int}(hx:Zs x)(hy:Zs y):FP 321 [zA x,zA y] (zA (x*y)):=by
 have h:=Vb (ofInt x) (ofInt y) hx.ok hy.ok (by have:=hx.len;have:=hy.len;unfold aw;omega);rw[dl,dl]at h;exact h
theorem Rl{x y:Int}(hx:Zs x)(hy:Zs y):FP 305 [zA x,zA y] (zA (Int.gcd x y)):=by
 have h:=GU (ofInt x) (ofInt y) hx.ok hy.ok (by have:=hx.len;unfold aw;omega) (by have:=hy.len;unfold aw;omega);rw[dl,dl]at h;exact h
theorem EZ{x y:Int}(hx:Zs x)(hy:Zs y)(h0:y≠0):FP 322 [zA x,zA y] (.tup [zA (x/y),zA (x%y),.v .nilIface]):=by
 have h:=IS (ofInt x) (ofInt y) hx.ok hy.ok (by have:=hx.len;unfold aw;omega) (by have:=hy.len;unfold aw;omega) (by rw[dl];exact h0);rw[dl,dl]at h;exact h
theorem zY{x:Int}(hx:Zs x):FP 221 [zA x] (i64 x.sign):=by
 have h:=xI (ofInt x) hx.ok;rw[dl]at h;exact h
theorem AJ{x:Int}(hx:Zs x):FP 292 [zA x] (zA (-x)):=by
 have h:=E4 (ofInt x) hx.ok (by have:=hx.len;unfold aw;omega);rw[dl]at h;exact h
theorem Qe{x y:Int}(hx:Zs x)(hy:Zs y):FP 327 [zA x,zA y] (i64 (fZ x y)):=by
 have h:=Ow (ofInt x) (ofInt y) hx.ok hy.ok (by have:=hx.len;unfold aw;omega) (by have:=hy.len;unfold aw;omega);rw[dl,dl]at h;exact h
theorem Rd{x y:Int}(hx:Zs x)(hy:Zs y):FP 247 [zA x,zA y] (zA (x+y)):=by
 have h:=Ee (ofInt x) (ofInt y) hx.ok hy.ok (by have:=hx.len;unfold aw;omega) (by have:=hy.len;unfold aw;omega);rw[dl,dl]at h;exact h
theorem yr{x y:Int}(hx:Zs x)(hy:Zs y):FP 248 [zA x,zA y] (zA (x*y)):=by
 have h:=J6 (ofInt x) (ofInt y) hx.ok hy.ok (by have:=hx.len;have:=hy.len;unfold aw;omega);rw[dl,dl]at h;exact h
theorem Me{x y:Int}(hx:Zs x)(hy:Zs y):FP 293 [zA x,zA y] (zA (Int.gcd x y)):=by
 have h:=Hk (ofInt x) (ofInt y) hx.ok hy.ok (by have:=hx.len;have:=hy.len;unfold aw;omega);rw[dl,dl]at h;exact h
theorem Er{x y:Int}(hx:Zs x)(hy:Zs y)(h0:y≠0):FP 294 [zA x,zA y] (.tup [zA (x/y),zA (x%y),i64 0]):=by
 have h:=IW (ofInt x) (ofInt y) hx.ok hy.ok (by have:=hx.len;unfold aw;omega) (by have:=hy.len;unfold aw;omega) (by rw[dl];exact h0);rw[dl,dl]at h;exact h
def fi(e:Nat):Value:=match e with |0=>.nilIface |e+1=>.iface 60 (.int .i64 ((e+1:Nat):Int))
def bg(e:Nat):AV:=.v (fi e)
theorem Ta(e:Nat):fi e=.nilIface\/∃T u,fi e=.iface T u:=by cases e;exact .inl rfl;exact .inr ⟨_,_,rfl⟩
theorem tx(e:Nat):cZ (fi e)=decide (e=0):=by cases e <;> simp[fi,cZ]
theorem Hz{e:Nat}(h:cZ (fi e)=true):e=0:=by rw[tx]at h;exact of_decide_eq_true h
theorem Bc{e:Nat}(h:cZ (fi e)=false):e≠0:=by rw[tx]at h;exact of_decide_eq_false h
theorem cE{e:Nat}(h:(!cZ (fi e))=true):e≠0:=Bc (by cases h':cZ (fi e) <;> simp_all)
theorem cC{e:Nat}(h:(!cZ (fi e))=false):e=0:=Hz (by cases h':cZ (fi e) <;> simp_all)
theorem Ap:FP 258 [] (zA 1):=by
 refine ai func258 ?_;refine gc (Dm 1 oz) ?_;refine af ?_
 first |rfl |(simp;done)
theorem nP(r:Rt)(h:r.ok):FP 208 [r.av] (bl r.valid):=by
 have hn:=h.n0;have hd:=h.d0;refine ai func208 ?_;refine gl ?_;refine cF ?_;refine gC (fun t14=>?_) (fun t14=>?_)
 ·have h0 : r.num = [] /\ r.den = [] := by simpa [aa] using t14
  refine af ?_;unfold Rt.valid;rw[if_pos h0];rfl
 have h0:¬(r.num=[]/\r.den=[]):=by
  have:=t14;simp[aa]at this;exact fun h=>this h.1 h.2
 refine gD ?_;refine gl ?_;refine cF ?_;refine bM (fun _=>(wE r.n0 hn)) ?_;refine bM (fun _=>(wE r.d0 hd)) ?_;refine gC (fun t43=>?_) (fun t43=>?_)
 ·have h1:r.valid=false:=yP h0 t43;refine af ?_;rw[h1];rfl
 have h1:=HZ h0 t43;refine gc (GU r.n0 r.d0 hn hd h.n0l h.d0l) ?_;refine gc (by apply Ap) ?_;refine gc (Co (Rt.gcd_zs h) tP) ?_;refine af ?_;rw[h1];rfl
theorem kZ(r:Rt)(h:r.ok):FP 232 [r.av] (.tup [zA r.q.num,zA r.q.den]):=by
 have hl1:r.num.length<=137438953472:=h.2.2.1;have hl2:r.den.length<=137438953472:=h.2.2.2;refine ai func232 ?_;refine gc (nP r h) ?_;refine cF ?_;refine gC (fun t12=>?_) (fun t12=>?_)
 ·have h0:¬(r.valid=true/\r.num≠[]):=by
   have:=t12;intro h';simp[aa,h'.1,h'.2]at this
  refine gc Ap ?_;refine gR ?_;exact dV (by rw[Rt.zero h0];exact Sub.tup (.cons GR (.cons (.refl _) .nil)))
 have h0:r.valid=true/\r.num≠[]:=by
  have:=t12;cases hv:r.valid
  ·rw[hv]at this;cases this
  ·rw[hv]at this;exact⟨rfl,by simpa[aa]using this⟩
 obtain⟨e1,e2,e3,e4,e5,e6⟩:=Rt.parts h h0.1 h0.2;refine gs (kN T43 rfl T350 rfl rfl rfl) ?_;refine gs (ci (.tmp rfl) rfl rfl (.tmp rfl) T43 rfl T350 rfl rfl (by simp only[length_map];omega) rfl rfl) ?_;refine gD ?_ (4,0);refine gW ((Wk.freeze (k:=20) rfl).trans<|Wk.of (sl:=[(1,some (.ptr 1 0)),(2,some (.ptr 2 0)),(3,some (.ptr 3 0))]) (hp:=[(1,some (.box [bl r.neg,ws r.num,ws r.den])),(2,some (.box [bl r.neg,ws r.num])),(3,some (.box [bl false,nS]))]) aW (.k (.cons rfl (BlkSub.bL (.cons (.refl _) (.cons (.of (bJ (by simp))) .nil)) rfl) (.k .nil)))) ?_;refine gs (kN T43 rfl T350 rfl rfl rfl) ?_;refine gs (ci (.tmp rfl) rfl rfl (.tmp rfl) T43 rfl T350 rfl rfl (by simp only[length_map];omega) rfl rfl) ?_;refine gD ?_ (77777,0);refine gW ((Wk.freeze (k:=26) rfl).trans<|Wk.of (sl:=[(2,some (.ptr 2 0)),(3,some (.ptr 3 0))]) (hp:=[(2,some (.box [bl r.neg,ws r.num])),(3,some (.box [bl false,ws r.den]))]) aW (.k (.cons rfl (BlkSub.bL (.cons (.refl _) (.cons (.of (bJ (by simp))) .nil)) rfl) .nil))) ?_;refine bh ?_;rw[e1,e2];exact Dd e3 e4 e5
theorem sM{n d:Int}(hn:Zs n)(hd:Zs d)(h0:d≠0):FP 233 [zA n,zA d] (qA (Rat.divInt n d)):=by
 refine ai func233 ?_;refine gc (tk hn) ?_;refine gC (fun t9=>?_) (fun t9=>?_)
 ·have e0 : n=0 := Int.sign_eq_zero_iff_zero.1 (by simpa[aa]using t9);refine gR ?_;exact j8 (by rw[e0,Rat.zero_divInt];exact ja)
 have e0:n≠0:=fun h=>by rw[h]at t9;cases t9
 refine gc (tk hd) ?_;refine xX [2,3,4] [4] (fun(n1 d1:Int)=>[]) (fun n1 d1=>[(2,some (.box (zA n1).cells)),(3,some (.box (zA d1).cells))]) (fun n1 d1=>0<d1/\n1≠0/\Zs n1/\Zs d1/\Rat.divInt n1 d1=Rat.divInt n d) ?_ ?_
 ·intro K1 J1;refine gC (fun t13=>?_) (fun t13=>?_)
  ·have e1 : d<0 := Int.sign_eq_neg_one_iff_neg.1 (by have := Int.sign_trichotomy d;have h9 : d.sign<0 := (by simpa[aa]using t13);omega);refine gc (vG hn) ?_;refine gc (vG hd) ?_;refine gD ?_;exact ph J1 (-n) (-d) ⟨by omega,by omega,hn.neg,hd.neg,BY n d⟩
  have e1:0<d:=by
   have h9:0<=d.sign:=by simpa[aa]using t13
   have:=Int.sign_nonneg_iff.1 h9;omega
  exact ph J1 n d ⟨e1,e0,hn,hd,rfl⟩
 rintro n1 d1 ⟨f1,f2,f3,f4,f5⟩;refine gc (Rl f3 f4) ?_;refine gc (tk f3) ?_;refine xY [2,3,4,5] [3,4,5] (fun(n2:Int)=>[(6,some (bl (decide (n1<0))))]) (fun n2=>[(2,some (.box (zA n2).cells))]) (fun n2=>n2=(n1.natAbs:Int)) ?_ ?_
 ·intro K2 J2;refine gC (fun t24=>?_) (fun t24=>?_)
  ·have e2 : n1<0 := Int.sign_eq_neg_one_iff_neg.1 (by have := Int.sign_trichotomy n1;have h9 : n1.sign<0 := (by simpa[aa]using t24);omega);refine gc (vG f3) ?_;exact pv J2 (-n1) oz (hw:=Wk.of (.cons rfl (Sub.of (by rw[show aa .lss n1.sign 0=true from t24,decide_eq_true e2];rfl)) (.k (.k (.k (.k .nil))))) (.k (.k (.k (.k .nil)))))
  have e2:0<n1:=by
   have h9:0<=n1.sign:=by simpa[aa]using t24
   have:=Int.sign_nonneg_iff.1 h9;omega
  exact pv J2 n1 oz (hw:=Wk.of (.cons rfl (Sub.of (by rw[show aa .lss n1.sign 0=false from t24,decide_eq_false oz];rfl)) (.k (.k (.k (.k .nil))))) (.k (.k (.k (.k .nil)))))
 rintro n2 g1;have g2:Zs (Int.gcd n1 d1:Int):=f3.of_le (by rw[natAbs_natCast];exact Nat.le_of_dvd oz (Int.gcd_dvd_natAbs_left _ _));have g3:(Int.gcd n1 d1:Int)≠0:=by have:=Int.gcd_pos_of_ne_zero_left d1 f2;omega
 have g4:Zs n2:=f3.of_le oz;refine gc (EZ g4 g2 g3) ?_;refine gc (EZ f4 g2 g3) ?_;refine af ?_;rw[<- f5,<- Ov f1 f2,<- g1];rfl
theorem Ut{n d:Int}(hn:Zs n)(hd:Zs d):FP 404 [zA n,zA d] (.tup [qA (Rat.divInt n d),bg (if d=0 then 8 else 0)]):=by
 refine ai func404 ?_;refine gc (tk hd) ?_;refine gC (fun t8=>?_) (fun t8=>?_)
 ·have h0 : d=0 := Int.sign_eq_zero_iff_zero.1 (by simpa[aa]using t8);refine gR ?_;exact dV (by rw[if_pos h0,h0,Rat.divInt_zero];exact Sub.tup (.cons ja (.cons (.refl _) .nil)))
 have h0:d≠0:=fun h=>by rw[h]at t8;cases t8
 refine gc (sM hn hd h0) ?_;refine bh ?_;rw[if_neg h0];rfl
theorem km(n:Int)(h:-9223372036854775808<=n/\n<=9223372036854775807):FP 151 [i64 n] (qA n):=by
 have hz:Zs n:=⟨2,by omega,by unfold Lz;simp only[Nat.reducePow];omega⟩
 refine ai func151 ?_;refine gc (Dm n h) ?_;refine gc Ap ?_;refine gc (sM hz tP oz) ?_;refine af ?_;exact congrArg qA (Rat.num_divInt_den (n:Rat))
theorem Gy(a:Rt)(ha:a.ok):FP 121 [a.av] (qA (-a.q)):=by
 have za:=ha.qs;refine ai func121 ?_;refine gc (kZ a ha) ?_;refine gc (vG za.num) ?_;refine gc (sM za.num.neg za.den (by have:=a.q.den_nz;omega)) ?_;refine gD ?_;refine af ?_;rw[CS];rfl
theorem vt(a:Rt)(ha:a.ok):FP 209 [a.av] (i64 (bA a.q)):=by
 refine ai func209 ?_;refine gc (kZ a ha) ?_;refine gc (tk ha.qs.num) ?_;refine af ?_;rw[BQ]
theorem HM(a b:Rt)(ha:a.ok)(hb:b.ok):FP 365 [a.av,b.av] (i64 (bA (a.q-b.q))):=by
 have za:=ha.qs;have zb:=hb.qs;have m1:=za.mul zb;have m2:=zb.mul za;refine ai func365 ?_;refine gc (kZ a ha) ?_;refine gc (kZ b hb) ?_;refine gc (lU za.num zb.den) ?_;refine gc (lU zb.num za.den) ?_;refine gc (Co m1.1 m2.1) ?_;refine gD ?_;refine af ?_;rw[Uv]
theorem mQ(a b:Rt)(ha:a.ok)(hb:b.ok):FP 231 [a.av,b.av] (qA (a.q+b.q)):=by
 have za:=ha.qs;have zb:=hb.qs;have m1:=za.mul zb;have m2:=zb.mul za;refine ai func231 ?_;refine gc (kZ a ha) ?_;refine gc (kZ b hb) ?_;refine gc (lU za.num zb.den) ?_;refine gc (lU zb.num za.den) ?_;refine gc (PP m1.1 m2.1) ?_;refine gc (lU za.den zb.den) ?_;refine gc (sM (za.cross zb) m1.2.2.1 (Int.mul_ne_zero (by have:=a.q.den_nz;omega) (by have:=b.q.den_nz;omega))) ?_;refine gD ?_;refine af ?_;rw[A4];rfl
theorem PU(a b:Rt)(ha:a.ok)(hb:b.ok):FP 262 [a.av,b.av] (qA (a.q-b.q)):=by
 refine ai func262 ?_;refine gc (Gy b hb) ?_;refine gc (mQ a (rt (-b.q)) ha hb.qs.neg.ok) ?_;refine gD ?_;refine af ?_;rw[bZ,<- Rat.sub_eq_add_neg];rfl
theorem CJ(a b:Rt)(ha:a.ok)(hb:b.ok):FP 286 [a.av,b.av] (qA (a.q*b.q)):=by
 have za:=ha.qs;have zb:=hb.qs;have m1:=za.mul zb;refine ai func286 ?_;refine gc (kZ a ha) ?_;refine gc (kZ b hb) ?_;refine gc (lU za.num zb.num) ?_;refine gc (lU za.den zb.den) ?_;refine gc (sM m1.2.1 m1.2.2.1 (Int.mul_ne_zero (by have:=a.q.den_nz;omega) (by have:=b.q.den_nz;omega))) ?_;refine gD ?_;refine af ?_;rw[Ce];rfl
theorem Fu(a b:Rt)(ha:a.ok)(hb:b.ok):FP 385 [a.av,b.av] (.tup [qA (a.q/b.q),bg (if b.q=0 then 8 else 0)]):=by
 have za:=ha.qs;have zb:=hb.qs;have m1:=za.mul zb;refine ai func385 ?_;refine gc (kZ a ha) ?_;refine gc (kZ b hb) ?_;refine gc (lU za.num zb.den) ?_;refine gc (lU za.den zb.num) ?_;refine gc (Ut m1.1 m1.2.2.2) ?_;refine gD ?_;refine bh ?_
 have e1:((a.q.den:Int)*b.q.num=0)=(b.q=0):=by
  apply propext;rw[<- Rat.num_eq_zero,Int.mul_eq_zero];exact⟨fun h=>h.resolve_left (by have:=a.q.den_nz;omega),.inr⟩
 simp only[Ba,e1];rfl
theorem Fk{p:Pse}:cond (cond (!(cZ (fi p.turn.err))) true (!p.at_.x.valid)) true (!p.at_.y.valid)=!p.ok:=by
 unfold Pse.ok;rw[tx];cases decide (p.turn.err=0) <;> cases p.at_.x.valid <;> cases p.at_.y.valid <;> rfl
theorem Jn{p:Pse}(h:cond (cond (!(cZ (fi p.turn.err))) true (!p.at_.x.valid)) true (!p.at_.y.valid)=true):p.ok=false:=by
 rw[Fk]at h;exact cI h
theorem IH{p:Pse}(h:cond (cond (!(cZ (fi p.turn.err))) true (!p.at_.x.valid)) true (!p.at_.y.valid)=false):p.ok=true:=by
 rw[Fk]at h;exact cH h
theorem IE{p:Pse}(h:p.ok=true):p.turn.err=0/\p.at_.x.valid=true/\p.at_.y.valid=true:=by
 unfold Pse.ok at h;simp only[and_eq_true,decide_eq_true_eq]at h;exact⟨h.1.1,h.1.2,h.2⟩
structure Pq where
  c:List Rat
  s:List Rat
  x:List Rat
  y:List Rat
def Pq.av(p:Pq):AV:=.agg [nA p.c,nA p.s,nA p.x,nA p.y]
structure Pq.ok(n e:Nat)(p:Pq):Prop where
  c:Nm n e p.c
  s:Nm n e p.s
  x:Nm n e p.x
  y:Nm n e p.y
def fy(p:Pse):Pq:=⟨sh 0 (bV p.turn.half p.turn.t.q:Rat),sh 0 (cm p.turn.half p.turn.t.q:Rat),sh 0 (p.at_.x.q:Rat),sh 0 (p.at_.y.q:Rat)⟩
def gS(ps:List Pse):Nat:=if ps.all Pse.ok=true then 0 else 2
def ofL(ps:List Pse):List Pq:=if ps.all Pse.ok=true then ps.map fy else[]
def vc(bs:List Pq):AV:=.agg [.lst 1 [],.lst 4 (bs.map Pq.av),.lst 1 []]
theorem Dz{ps:List Pse}(h:gS ps=0):ps.all Pse.ok=true:=by
 unfold gS at h;split at h
 ·assumption
 ·cases h
theorem GN{ps:List Pse}(h:ps.all Pse.ok=true):gS ps=0:=by unfold gS;rw[if_pos h]
theorem CV{ps:List Pse}(h:ps.all Pse.ok=true):ofL ps=ps.map fy:=by unfold ofL;rw[if_pos h]
theorem Om{ps:List Pse}(h:ps.all Pse.ok=false):gS ps=2:=by unfold gS;rw[if_neg (by rw[h];simp)]
theorem LZ{ps:List Pse}(h:ps.all Pse.ok=false):ofL ps=[]:=by unfold ofL;rw[if_neg (by rw[h];simp)]
theorem Lo:Sub (.agg [.v (.slice none 0 0),.v (.slice none 0 0),.v (.slice none 0 0)]) (vc []):=.agg (.cons (.nil _ _ _) (.cons (.nil _ _ _) (.cons (.nil _ _ _) .nil))) rfl
theorem O7{bs:List Pq}:Sub (.agg [.v (.slice none 0 0),.lst 4 (bs.map Pq.av),.v (.slice none 0 0)]) (vc bs):=.agg (.cons (.nil _ _ _) (.cons (.refl _) (.cons (.nil _ _ _) .nil))) rfl
theorem oi{half:Bool}{t:Rat}{e:Nat}(h:Qb e t):Qb (4*e+6) (bV half t):=by
 unfold bV;split
 ·exact Qb.one.neg.mono oz
 ·exact((Qb.one.sub (h.mul h)).div (Qb.one.add (h.mul h))).mono oz
theorem qd{half:Bool}{t:Rat}{e:Nat}(h:Qb e t):Qb (4*e+6) (cm half t):=by
 unfold cm;split
 ·exact Qb.zero.mono oz
 ·exact((h.add h).div (Qb.one.add (h.mul h))).mono oz
theorem q7{n e:Nat}{q:Rat}(hn:n<=5)(h:Qb e q):Nm n (e+e) (sh 0 (q:Rat)):=by
 have h1:Nl n (sh 0 (q:Rat)):=by
  have:Nl 0 (sh 0 (q:Rat)):=dZ 0 _;rcases this with h |⟨j,hj,h⟩
  ·exact .inl h
  ·exact .inr ⟨j,by omega,h⟩
 refine⟨hn,h1,?_⟩
 have hm:∀p∈sh 0 (q:Rat),Qb e p:=by
  intro p hp
  have:p=q:=by
   unfold sh at hp;split at hp
   ·cases hp
   ·exact List.mem_singleton.1 hp
  rw[this];exact h
 obtain⟨D,N,h3,h4,h5⟩:=tz hm
 have h6:(sh 0 (q:Rat)).length<=1:=by
  rcases(dZ 0 (q:Rat))with h |⟨j,hj,h⟩
  ·rw[h];simp
  ·have : j = 0 := by omega
   subst this;rw[h];simp
 have h7:e*(sh 0 (q:Rat)).length<=e*1:=mul_le_mul_left _ h6;exact⟨D,N,h3,le_trans h4 (b7 oz),le_trans h5 (b7 oz)⟩
theorem OQ{n:Nat}{p:Pse}(hn:n<=5)(h:p.lok):(fy p).ok n 1000 :=
 ⟨(q7 hn (oi h.t)).mono oz,(q7 hn (qd h.t)).mono oz,(q7 hn h.x).mono oz,(q7 hn h.y).mono oz⟩
def pP(ts:LL)(b:Pl)(w:Pq):Bool :=
  fM ts (ae ts.length (lq b.c)) (ae ts.length w.c)&&fM ts (ae ts.length (lq b.s)) (ae ts.length w.s)&&fM ts (ae ts.length (lq b.x)) (ae ts.length w.x)&&fM ts (ae ts.length (lq b.y)) (ae ts.length w.y)
def mE(a:As)(ps:List Pse):Nat :=
  if ba a.rs≠0 then ba a.rs else if gS ps≠0 then gS ps else if a.bs.length≠ps.length then 10 else dR (a.bs.map (fun b=>bt a.rs b.l))
def mB(a:As)(ps:List Pse):Bool:=decide (mE a ps=0)&&(a.bs.zip ps).all (fun z=>pP (llq a.rs) z.1 (fy z.2))
theorem yk{α:Type}{l:List α}{f:α->Nat}{i:Nat}{x:α}(hx:l[i]?=some x)(hb:∀y∈l.take i,f y=0)(hn:f x≠0):dR (l.map f)=f x:=by
 have e:l=l.take i++l.drop i:=(List.take_append_drop i l).symm;have hi:=(List.getElem?_eq_some_iff.1 hx).1
 have e2:l.drop i=x::l.drop (i+1):=by
  rw[List.drop_eq_getElem_cons hi,(List.getElem?_eq_some_iff.1 hx).2]
 rw[e,map_append,sZ _ _ (lL (fun v hv=>by
  obtain⟨y,hy,rfl⟩:=List.mem_map.1 hv;exact hb y hy)),e2]
 show(if f x≠0 then f x else _)=_;rw[if_pos hn]
theorem FY{a:As}{ps:List Pse}(h:ba a.rs≠0):mE a ps=ba a.rs:=by unfold mE;rw[if_pos h]
theorem Eu{a:As}{ps:List Pse}(h:ba a.rs=0)(h1:gS ps≠0):mE a ps=gS ps:=by unfold mE;rw[if_neg (by rw[h];simp),if_pos h1]
theorem DJ{a:As}{ps:List Pse}(h:ba a.rs=0)(h1:gS ps=0)(h2:a.bs.length≠ps.length):mE a ps=10:=by
 unfold mE;rw[if_neg (by rw[h];simp),if_neg (by rw[h1];simp),if_pos h2]
theorem Dn{a:As}{ps:List Pse}(h:ba a.rs=0)(h1:gS ps=0)(h2:a.bs.length=ps.length):mE a ps=dR (a.bs.map (fun b=>bt a.rs b.l)):=by
 unfold mE;rw[if_neg (by rw[h];simp),if_neg (by rw[h1];simp),if_neg (by rw[h2];simp)]
theorem tD{a:As}{ps:List Pse}(h:mE a ps≠0):mB a ps=false:=by unfold mB;rw[decide_eq_false h];rfl
theorem JY{a:As}{ps:List Pse}(h:mE a ps=0):mB a ps=(a.bs.zip ps).all (fun z=>pP (llq a.rs) z.1 (fy z.2)):=by unfold mB;rw[decide_eq_true h];rfl
theorem Cj{rs:List (List Rt)}{b:Pl}{E:Nat}(h:bt rs b.l=0)(hb:∀x∈b.l,NR x E)(h5:rs.length<=5) :
  b.av=Pq.av ⟨lq b.c,lq b.s,lq b.x,lq b.y⟩/\Pq.ok rs.length E ⟨lq b.c,lq b.s,lq b.x,lq b.y⟩:=by
 have h1:=(ns h).2
 have g:∀x∈b.l,nR x=nA (lq x)/\Nm rs.length E (lq x):=fun x hx=>by
  obtain⟨e1,e2⟩:=(hb x hx).num (h1 x hx);exact⟨e1,h5,e2,(hb x hx).cb⟩
 have c:=g b.c (by simp[Pl.l]);have s:=g b.s (by simp[Pl.l]);have x:=g b.x (by simp[Pl.l]);have y:=g b.y (by simp[Pl.l]);exact⟨by unfold Pl.av Pq.av;rw[c.1,s.1,x.1,y.1],c.2,s.2,x.2,y.2⟩
def oW(b:Pl)(w:Pq):List (List Rat×List Rat):=[(lq b.c,w.c),(lq b.s,w.s),(lq b.x,w.x),(lq b.y,w.y)]
theorem Qt{b:Pl}{w:Pq}{k:Nat}(hk:k<4) :
  ∃z,(oW b w)[k]?=some z/\(([nA (lq b.c),nA w.c,nA (lq b.s),nA w.s,nA (lq b.x),nA w.x,nA (lq b.y),nA w.y]:List AV).drop (k*2)).take 2=[nA z.1,nA z.2]:=by
 match k,hk with
 |0,_=>exact⟨_,rfl,rfl⟩
 |1,_=>exact⟨_,rfl,rfl⟩
 |2,_=>exact⟨_,rfl,rfl⟩
 |3,_=>exact⟨_,rfl,rfl⟩
def sE(ts:LL)(z:List Rat×List Rat):Bool:=fM ts (ae ts.length z.1) (ae ts.length z.2)
theorem D9{ts:LL}{b:Pl}{w:Pq}:(oW b w).all (sE ts)=pP ts b w:=by
 unfold oW pP sE;simp only[all_cons,List.all_nil,Bool.and_true,Bool.and_assoc]
theorem U3{n:Nat}{b:Pl}{w:Pq}(hb:Pq.ok n 4000 ⟨lq b.c,lq b.s,lq b.x,lq b.y⟩)(hw:w.ok n 1000):∀z∈oW b w,Nm n 4000 z.1/\Nm n 1000 z.2:=by
 intro z hz;simp only[oW,mem_cons,not_mem_nil,or_false]at hz;rcases hz with rfl |rfl |rfl |rfl
 ·exact⟨hb.c,hw.c⟩
 ·exact⟨hb.s,hw.s⟩
 ·exact⟨hb.x,hw.x⟩
 ·exact⟨hb.y,hw.y⟩
theorem Uu{α β:Type}{l:List α}{l':List β}{i:Nat}{x:α}{y:β}(hx:l[i]?=some x)(hy:l'[i]?=some y):(l.zip l')[i]?=some (x,y):=by
 rw[List.zip,List.getElem?_zipWith,hx,hy]
instance:Inhabited Tn:=⟨⟨⟨false,[],[]⟩,false⟩⟩
def bU(n:Nat)(ok:Nat->Bool):Option Nat:=(List.range n).find? (fun i=>!ok i)
theorem fL{n i:Nat}{ok:Nat->Bool}(hi:i<n)(h:∀j,j<i->ok j=true)(he:ok i=false):bU n ok=some i:=by
 unfold bU;rw[List.find?_range_eq_some];exact⟨by rw[he];rfl,by simpa using hi,fun j hj=>by rw[h j hj];rfl⟩
theorem eP{n:Nat}{ok:Nat->Bool}(h:∀j,j<n->ok j=true):bU n ok=none:=by
 unfold bU;rw[List.find?_range_eq_none];exact fun j hj=>by rw[h j hj];rfl
theorem PA{n:Nat}{ok:Nat->Bool}(h:bU n ok=none):∀j,j<n->ok j=true:=by
 unfold bU at h;rw[List.find?_range_eq_none]at h;intro j hj;have:=h j hj;simpa using this
def iX:Option Nat->Int
  |none=>-1
  |some i=>i
theorem ya{o:Option Nat}(h:aa .geq (iX o) 0=true):∃i,o=some i:=by
 cases o with
 |none=>cases h
 |some i=>exact⟨i,rfl⟩
theorem AZ{o:Option Nat}(h:aa .geq (iX o) 0=false):o=none:=by
 cases o with
 |none=>rfl
 |some i =>
  have h1:¬((i:Int)>=0):=of_decide_eq_false h;omega
abbrev iV(ts:LL)(x:List Rt):T ts.length:=ae ts.length (lq x)
def m7(ts:LL)(b:Pl)(m:Mk):T ts.length×T ts.length:=(ur ts (iV ts b.c) (iV ts b.s) (iV ts b.x) m.x.q m.y.q,tI ts (iV ts b.c) (iV ts b.s) (iV ts b.y) m.x.q m.y.q)
def sk(l:Li)(a:As)(body pt:Int):T (llq a.rs).length×T (llq a.rs).length:=m7 (llq a.rs) (a.bs.getD body.toNat default) ((cz l body).getD pt.toNat default)
def Hf(p:Nat×Nat):AV:=.agg [i64 p.1,i64 p.2]
theorem cJ{l:Li}(h:ay l=0):gH l=0/\ee l=0/\fN l=0/\l.bo.length<=8/\l.bo.length≠0:=by
 unfold ay at h;split at h
 ·cases h
 ·split at h
  ·cases h
  ·split at h
   ·cases h
   ·split at h
    ·rename_i h1;exact absurd h h1
    ·rename_i g1 _ h1;split at h
     ·rename_i h2;exact absurd h h2
     ·rename_i h2;exact⟨Decidable.not_not.1 h1,Decidable.not_not.1 h2,h,by omega,by omega⟩
theorem Gp{l:Li}(h:ay l=0){i:Nat}{j:Jt}(hj:l.jo[i]?=some j):dO l j=0:=by
 have h1:=(cJ h).2.1;unfold ee at h1;split at h1
 ·cases h1
 ·have h2:=rF h1 i (List.getElem?_eq_some_iff.1 hj).1;unfold fH at h2;rw[aC hj]at h2;split at h2
  ·cases h2
  ·split at h2
   ·cases h2
   ·exact h2
theorem dx{l:Li}(h:ay l=0){i:Nat}{j:Jt}(hj:l.jo[i]?=some j) :
  bi j.a l.bo.length=true/\bi j.b l.bo.length=true/\bi j.point (cz l j.a).length=true/\bi j.on (cz l j.b).length=true/\(j.kind≠0->bi j.to (cz l j.b).length=true):=by
 have h1:=Gp h hj;unfold dO at h1;split at h1
 ·cases h1
 ·split at h1
  ·cases h1
  ·rename_i h2;split at h1
   ·cases h1
   ·split at h1
    ·cases h1
    ·rename_i h3;have a1:bi j.a l.bo.length = true:=by cases h:bi j.a l.bo.length <;> simp_all
     have a2:bi j.b l.bo.length=true:=by cases h:bi j.b l.bo.length <;> simp_all
     have a3:bi j.point (cz l j.a).length=true:=by cases h:bi j.point (cz l j.a).length <;> simp_all
     have a4:bi j.on (cz l j.b).length=true:=by cases h:bi j.on (cz l j.b).length <;> simp_all
     refine⟨a1,a2,a3,a4,fun hk=>?_⟩;rw[if_neg hk]at h1;split at h1
     ·cases h1
     ·rename_i h4;cases h:bi j.to (cz l j.b).length <;> simp_all
theorem kP{l:Li}(h:ay l=0){i:Nat}{d:Dr}(hd:l.dv[i]?=some d):bi d.body l.bo.length=true:=by
 have h1:=(cJ h).2.2.1;unfold fN at h1;split at h1
 ·cases h1
 ·have h2:=rF h1 i (List.getElem?_eq_some_iff.1 hd).1;unfold dD at h2;rw[aC hd]at h2;split at h2
  ·cases h2
  ·split at h2
   ·cases h2
   ·split at h2
    ·cases h2
    ·rename_i h3;cases h:bi d.body l.bo.length <;> simp_all
theorem Lx{l:Li}(h:ay l=0){n k:Nat}{b:Bd}{m:Mk}(hb:l.bo[n]?=some b)(hm:b.pts[k]?=some m):m.x.valid=true/\m.y.valid=true:=by
 have h2:=rF (cJ h).1 n (List.getElem?_eq_some_iff.1 hb).1;unfold dT at h2;rw[aC hb]at h2;split at h2
 ·cases h2
 ·split at h2
  ·cases h2
  ·split at h2
   ·cases h2
   ·have h3:=rF h2 k (List.getElem?_eq_some_iff.1 hm).1;unfold dL at h3;rw[aC hm]at h3;split at h3
    ·cases h3
    ·split at h3
     ·cases h3
     ·split at h3
      ·assumption
      ·cases h3
theorem yL{ts:LL}{r e f:Nat}(tw:Tw ts r){b:Pl}{m:Mk}(hb:Pq.ok ts.length e ⟨lq b.c,lq b.s,lq b.x,lq b.y⟩)(hx:Qb f m.x.q)(hy:Qb f m.y.q) :
  Nm ts.length (3*e+2*f+2*kB r ts.length+10) (sh ts.length (m7 ts b m).1)/\Nm ts.length (3*e+2*f+2*kB r ts.length+10) (sh ts.length (m7 ts b m).2):=by
 have nx:=Nm.ofQ tw.five (Cb.one hx);have ny:=Nm.ofQ tw.five (Cb.one hy);have h1:=(wA tw hb.c hb.s nx ny).add hb.x;rw[AH]at h1;have h2:=(ul tw hb.c hb.s nx ny).add hb.y;rw[ym]at h2;exact⟨h1.mono oz,h2.mono oz⟩
def fX(l:Li)(xs:List Tn):Nat:=if ay l≠0 then ay l else if xs.length≠l.dv.length then 10 else dR (xs.map Tn.err)
theorem GL{l:Li}{xs:List Tn}(h:ay l=0)(h1:xs.length≠l.dv.length):fX l xs=10:=by unfold fX;rw[if_neg (by rw[h];simp),if_pos h1]
theorem z8{l:Li}{xs:List Tn}(h:ay l=0)(h1:xs.length=l.dv.length){i:Nat}{x:Tn}(hx:xs[i]?=some x)(hb:∀y∈xs.take i,y.err=0)(hn:x.err≠0):fX l xs=x.err:=by
 unfold fX;rw[if_neg (by rw[h];simp),if_neg (by rw[h1];simp),yk hx hb hn]
theorem zf{l:Li}{xs:List Tn}(h:ay l=0)(h1:xs.length=l.dv.length)(hb:∀y∈xs,y.err=0):fX l xs=0:=by
 unfold fX;rw[if_neg (by rw[h];simp),if_neg (by rw[h1];simp)]
 exact lL (fun e he=>by obtain⟨x,hx,rfl⟩:=List.mem_map.1 he;exact hb x hx)
theorem J0{e n m:Nat}(h:cond (!(cZ (fi e))) true (aa .neq (n:Int) (m:Int))=true):e≠0\/n≠m:=by
 cases h1:cZ (fi e)
 ·exact .inl (Bc h1)
 ·rw[h1]at h;have:=lN h;exact .inr oz
structure Gr where
  kind:Int
  bo:List Int
  jo:List Int
  driver:Int
instance:Inhabited Gr:=⟨⟨0,[],[],0⟩⟩
def Gr.av(g:Gr):AV:=.agg [i64 g.kind,.lst 1 (g.bo.map i64),.lst 1 (g.jo.map i64),i64 g.driver]
def kn(k:List Bool)(i:Int):Bool:=k.getD i.toNat false
def cg(n:Nat)(b:Int):List Bool:=(List.replicate n false).set b.toNat true
def k9(l:Li)(b:Int):Bool:=l.dv.any (fun d=>decide (d.body=b))
def freeB(l:Li)(kw:List Bool)(b:Int):Bool:=!kn kw b&&!k9 l b
def kA(kind body:Int)(oth:List Bool)(j:Jt):Bool:=decide (j.kind=kind)&&(decide (j.a=body)&&kn oth j.b||decide (j.b=body)&&kn oth j.a)
def jointI(l:Li)(kind body:Int)(oth:List Bool):Int:=iX (bU l.jo.length (fun i=>!kA kind body oth (l.jo.getD i default)))
def drHit(l:Li)(kw:List Bool)(i:Nat):Bool:=!kn kw (l.dv.getD i default).body&&decide (0<=jointI l 0 (l.dv.getD i default).body kw)
def driverG(l:Li)(kw:List Bool):Option Gr :=
  (bU l.dv.length (fun i=>!drHit l kw i)).map fun i=>⟨0,[(l.dv.getD i default).body],[jointI l 0 (l.dv.getD i default).body kw],i⟩
def prHit(l:Li)(kw:List Bool)(i k:Nat):Bool :=
  (freeB l kw i&&freeB l kw k)&&(decide (0<=jointI l 0 i kw)&&decide (0<=jointI l 0 k kw)&&decide (0<=jointI l 0 i (cg l.bo.length k)))
def prAt(l:Li)(kw:List Bool)(i:Nat):Option Nat:=(bU (l.bo.length-(i+1)) (fun k=>!prHit l kw i (i+1+k))).map (·+(i+1))
def prG(l:Li)(kw:List Bool)(i k:Nat):Gr:=⟨1,[i,k],[jointI l 0 i kw,jointI l 0 k kw,jointI l 0 i (cg l.bo.length k)],0⟩
def pairG(l:Li)(kw:List Bool):Option Gr :=
  (bU l.bo.length (fun i=>(prAt l kw i).isNone)).map fun i=>match prAt l kw i with
    |some k=>prG l kw i k
    |none=>default
def sgHit(l:Li)(kw:List Bool)(i:Nat):Bool:=freeB l kw i&&(decide (0<=jointI l 0 i kw)&&decide (0<=jointI l 1 i kw))
def sgG(l:Li)(kw:List Bool)(i:Nat):Gr :=
  ⟨if(l.jo.getD (jointI l 1 i kw).toNat default).a=i then 2 else 3,[i],[jointI l 0 i kw,jointI l 1 i kw],0⟩
def singleG(l:Li)(kw:List Bool):Option Gr:=(bU l.bo.length (fun i=>!sgHit l kw i)).map (sgG l kw)
def nextG(l:Li)(kw:List Bool):Option Gr:=(driverG l kw).or ((pairG l kw).or (singleG l kw))
def bf(kw:List Bool)(bs:List Int):List Bool:=bs.foldl (fun k b=>k.set b.toNat true) kw
def findFrom(l:Li):Nat->List Bool->List Gr->List Bool×List Gr
  |0,kw,out=>(kw,out)
  |n+1,kw,out=>match nextG l kw with
    |none=>(kw,out)
    |some g=>findFrom l n (bf kw g.bo) (out++[g])
def findG(l:Li):List Gr:=(findFrom l l.bo.length (cg l.bo.length 0) []).2
def bH(l:Li):List Bool:=(findG l).foldl (fun k g=>bf k g.bo) (cg l.bo.length 0)
def dA(l:Li):List Bool:=(findG l).foldl (fun k g=>bf k g.jo) (List.replicate l.jo.length false)
def dW(k:List Bool):List Int:=((List.range k.length).filter (fun i=>!k.getD i false)).map (fun i:Nat=>((i:Nat):Int))
def splitE(l:Li):Nat:=if(dW (bH l)).length+(dW (dA l)).length=0 then 0 else 7
def splitG(l:Li):List Gr:=if splitE l=0 then findG l else[]
theorem D4{kind body:Int}{oth:List Bool}{j:Jt}{va vb:Bool}(ea:kn oth j.a=va)(eb:kn oth j.b=vb) :
  cond (aa .eql j.kind kind) (cond (cond (aa .eql j.a body) vb false) true (cond (aa .eql j.b body) va false)) false=kA kind body oth j:=by
 unfold kA;rw[pi,pi,pi,ea,eb,ig,ig,ig,it]
theorem gy(n:Nat)(b:Int):(cg n b).length=n:=by unfold cg;simp
theorem jd:∀(bs:List Int)(k:List Bool),(bf k bs).length=k.length
 |[],k=>rfl
 |b::bs,k=>by
  show(bf (k.set b.toNat true) bs).length=_;rw[jd bs];simp
theorem eI{n i:Nat}{ok:Nat->Bool}(h:bU n ok=some i):i<n/\ok i=false:=by
 unfold bU at h;rw[List.find?_range_eq_some]at h;exact⟨by simpa using h.2.1,by simpa using h.1⟩
theorem mt{l:Li}{kind body:Int}{oth:List Bool}:-1<=jointI l kind body oth/\jointI l kind body oth<l.jo.length:=by
 unfold jointI;cases h:bU l.jo.length (fun i=>!kA kind body oth (l.jo.getD i default))with
 |none=>exact⟨by decide,by show(-1:Int)<_;omega⟩
 |some i=>have:=(eI h).1;exact⟨by show(-1:Int)<=(i:Int);omega,by show(i:Int)<_;omega⟩
structure GrOk(l:Li)(g:Gr):Prop where
  b:∀x∈g.bo,0<=x/\x<l.bo.length
  j:∀x∈g.jo,0<=x/\x<l.jo.length
  lb:g.bo.length<=2
  lj:g.jo.length<=3
theorem IU{l:Li}(hl:ay l=0){kw:List Bool}{g:Gr}(h:driverG l kw=some g):GrOk l g:=by
 unfold driverG at h;rw[map_eq_some_iff]at h;obtain⟨i,hi,rfl⟩:=h;obtain⟨h1,h2⟩:=eI hi;obtain⟨d,hd⟩:=ax h1;have h3:=c9 (kP hl hd);unfold drHit at h2;simp only[Bool.not_eq_false',and_eq_true,decide_eq_true_eq]at h2;rw[aC hd]at h2 ⊢;have h4:=mt (l:=l) (kind:=0) (body:=d.body) (oth:=kw);refine⟨fun x hx=>?_,fun x hx=>?_,by simp,by simp⟩
 ·rw[List.mem_singleton.1 hx];exact h3
 ·rw[List.mem_singleton.1 hx];exact⟨h2.2,h4.2⟩
theorem Qv{l:Li}{kw:List Bool}{g:Gr}(h:pairG l kw=some g):GrOk l g:=by
 unfold pairG at h;rw[map_eq_some_iff]at h;obtain⟨i,hi,h⟩:=h;obtain⟨h1,h2⟩:=eI hi;split at h
 ·rename_i k hk;subst h;unfold prAt at hk;rw [map_eq_some_iff] at hk;obtain ⟨k',hk',rfl⟩:=hk;obtain ⟨h3,h4⟩:=eI hk';rw [show i + 1 + k' = k' + (i + 1) by omega] at h4;unfold prHit at h4;simp only [Bool.not_eq_false',and_eq_true,decide_eq_true_eq] at h4;obtain ⟨_,⟨j1,j2⟩,j3⟩:=h4;refine ⟨fun x hx=>?_,fun x hx=>?_,by simp [prG],by simp [prG]⟩
  ·simp only[prG,mem_cons,not_mem_nil,or_false]at hx;rcases hx with rfl |rfl <;> constructor <;> omega
  ·simp only[prG,mem_cons,not_mem_nil,or_false]at hx;rcases hx with rfl |rfl |rfl
   ·exact⟨j1,mt.2⟩
   ·exact⟨j2,mt.2⟩
   ·exact⟨j3,mt.2⟩
 ·rename_i hk;rw[hk]at h2;cases h2
theorem Ik{l:Li}{kw:List Bool}{g:Gr}(h:singleG l kw=some g):GrOk l g:=by
 unfold singleG at h;rw[map_eq_some_iff]at h;obtain⟨i,hi,rfl⟩:=h;obtain⟨h1,h2⟩:=eI hi;unfold sgHit at h2;simp only[Bool.not_eq_false',and_eq_true,decide_eq_true_eq]at h2;obtain⟨_,j1,j2⟩:=h2;refine⟨fun x hx=>?_,fun x hx=>?_,by simp[sgG],by simp[sgG]⟩
 ·simp only[sgG,mem_cons,not_mem_nil,or_false]at hx;subst hx;constructor <;> omega
 ·simp only[sgG,mem_cons,not_mem_nil,or_false]at hx;rcases hx with rfl |rfl
  ·exact⟨j1,mt.2⟩
  ·exact⟨j2,mt.2⟩
theorem vo{l:Li}(hl:ay l=0){kw:List Bool}{g:Gr}(h:nextG l kw=some g):GrOk l g:=by
 unfold nextG at h;cases h1:driverG l kw with
 |some g'=>rw[h1]at h;cases h;exact IU hl h1
 |none =>
  rw[h1]at h;cases h2:pairG l kw with
  |some g'=>rw[h2]at h;cases h;exact Qv h2
  |none=>rw[h2]at h;exact Ik h
theorem B4{l:Li}(hl:ay l=0):∀(n:Nat)(kw:List Bool)(out:List Gr),(∀g∈out,GrOk l g)->(∀g∈(findFrom l n kw out).2,GrOk l g)/\(findFrom l n kw out).2.length<=out.length+n
 |0,kw,out,h=>⟨h,by simp[findFrom]⟩
 |n+1,kw,out,h=>by
  unfold findFrom;cases hg:nextG l kw with
  |none=>exact⟨h,by simp⟩
  |some g =>
   have h1:=B4 hl n (bf kw g.bo) (out++[g]) (fun x hx=>by
    rcases List.mem_append.1 hx with hx |hx
    ·exact h x hx
    ·rw[List.mem_singleton.1 hx];exact vo hl hg)
   refine⟨h1.1,?_⟩;have:=h1.2;rw[length_append]at this;show(findFrom l n (bf kw g.bo) (out++[g])).2.length<=_;simp only[length_cons,length_nil]at this;omega
theorem r5{l:Li}(hl:ay l=0):(∀g∈findG l,GrOk l g)/\(findG l).length<=8:=by
 have h:=B4 hl l.bo.length (cg l.bo.length 0) [] (fun g hg=>by cases hg);have h8:=(cJ hl).2.2.2.1;exact⟨h.1,by have:=h.2;simp only[length_nil]at this;unfold findG;omega⟩
def jE(j:Jt)(b:Int):Int:=if b=j.a then j.b else if b=j.b then j.a else -1
def wI(kind body:Int)(p:Int->Bool)(j:Jt):Bool:=decide (j.kind=kind)&&(decide (0<=jE j body)&&p (jE j body))
def gJ(l:Li)(kind body:Int)(p:Int->Bool):Int:=iX (bU l.jo.length (fun i=>!wI kind body p (l.jo.getD i default)))
theorem Mg{b:Bool}{z:Int}(h:cond b (aa .geq z 0) false=true):0<=z:=by
 cases b
 ·cases h
 ·exact of_decide_eq_true h
theorem O2{a k z:Int}{q:Bool}:cond (cond (aa .eql a k) (aa .geq z 0) false) q false=(decide (a=k)&&(decide (0<=z)&&q)):=by
 rw[pi,show aa .geq z 0=decide (0<=z)from rfl,ig,ig,Bool.and_assoc]
theorem Jw{l:Li}(hli:ay l=0){i:Nat}{j:Jt}(hj:l.jo[i]?=some j)(b:Int):jE j b<l.bo.length:=by
 obtain⟨i1,i2,_⟩:=dx hli hj;have b1:=c9 i1;have b2:=c9 i2;unfold jE;split
 ·omega
 ·split <;> omega
theorem IJ{n:Nat}{ok ok':Nat->Bool}(h:∀i,i<n->ok i=ok' i):bU n ok=bU n ok':=by
 unfold bU
 have:∀l:List Nat,(∀i∈l,i<n)->l.find? (fun i=>!ok i)=l.find? (fun i=>!ok' i):=by
  intro l
  induction l with
  |nil=>intro _;rfl
  |cons a l ih =>
   intro hl;simp only[List.find?_cons,h a (hl a (by simp)),ih (fun i hi=>hl i (by simp[hi]))]
 exact this _ (fun i hi=>List.mem_range.1 hi)
theorem yE{l:Li}(hli:ay l=0){kind body:Int}{p:Int->Bool}{oth:List Bool}(h:∀o:Int,0<=o->o<l.bo.length->p o=kn oth o):gJ l kind body p=jointI l kind body oth:=by
 unfold gJ jointI;rw[IJ];intro i hi;obtain⟨j,hj⟩:=ax hi;rw[aC hj];obtain⟨i1,i2,_⟩:=dx hli hj;have b1:=c9 i1;have b2:=c9 i2;congr 1;unfold wI kA;congr 1;unfold jE
 by_cases h1:body=j.a
 ·subst h1;rw[if_pos rfl,h _ b2.1 b2.2]
  by_cases h2:j.b=j.a
  ·simp[h2,b1.1]
  ·simp[h2,b2.1]
 ·rw[if_neg h1]
  by_cases h2:body=j.b
  ·subst h2;rw[if_pos rfl,h _ b1.1 b1.2];have h3:¬j.a=j.b:=fun e=>h1 e.symm
   simp[h3,b1.1]
  ·rw[if_neg h2];have h3:¬j.a=body:=fun e=>h1 e.symm
   have h4:¬j.b=body:=fun e=>h2 e.symm
   simp[h3,h4]
theorem Df{k:List Bool}{i:Nat}{b:Int}(h0:0<=b)(hi:i<k.length):kn (k.set i true) b=(decide (b=i)||kn k b):=by
 unfold kn;rw[getD_eq_getElem?_getD,List.getElem?_set,getD_eq_getElem?_getD]
 by_cases h:b=i
 ·rw[decide_eq_true h,Bool.true_or,if_pos oz];rw[if_pos oz];rfl
 ·rw[decide_eq_false h,Bool.false_or,if_neg oz]
theorem AI:∀{bs:List Int}{k:List Bool}{b:Int},0<=b->(∀x∈bs,0<=x/\x<k.length)->kn (bf k bs) b=(bs.any (fun x=>decide (x=b))||kn k b)
 |[],k,b,h0,h=>by simp[bf]
 |x::bs,k,b,h0,h=>by
  show kn (bf (k.set x.toNat true) bs) b=_;obtain⟨hx0,hx1⟩:=h x (by simp);rw[AI h0 (fun y hy=>by rw[length_set];exact h y (by simp[hy])),Df h0 oz,List.any_cons];have e:decide (b=(x.toNat:Int))=decide (x=b):=decide_eq_decide.2 oz;rw[e];cases decide (x=b) <;> simp
theorem vY(n:Nat)(b:Int):kn (List.replicate n false) b=false:=by
 unfold kn;rw[getD_eq_getElem?_getD,getElem?_replicate];split <;> rfl
def bK(l:Li):List Bool:=bf (List.replicate l.bo.length false) (l.dv.map Dr.body)
theorem sa(l:Li):(bK l).length=l.bo.length:=by unfold bK;rw[jd,length_replicate]
theorem Mi{l:Li}(hli:ay l=0){b:Int}(h0:0<=b):kn (bK l) b=k9 l b:=by
 unfold bK k9;rw[AI h0,vY,Bool.or_false,List.any_map]
 ·rfl
 ·intro x hx;obtain⟨d,hd,rfl⟩:=List.mem_map.1 hx;obtain⟨i,hi⟩:=List.mem_iff_getElem?.1 hd;have:=c9 (kP hli hi);rw[length_replicate];omega
theorem nK{n:Nat}{b o:Int}(h0:0<=o)(hb0:0<=b)(hb:b<n):kn (cg n b) o=decide (o=b):=by
 unfold cg;rw[Df h0 (by rw[length_replicate];omega),vY,Bool.or_false];exact decide_eq_decide.2 oz
def dw(k:List Bool):Nat:=k.countP (fun x=>!x)
theorem N9{k:List Bool}{i:Nat}(h:k[i]?=some false):dw (k.set i true)+1=dw k:=by
 unfold dw;have hi:=(List.getElem?_eq_some_iff.1 h).1;have he:=(List.getElem?_eq_some_iff.1 h).2;rw[List.countP_set hi,he];have:0<k.countP (fun x=>!x):=List.countP_pos_iff.2 ⟨false,mem_of_getElem? h,rfl⟩;simp;omega
theorem SZ(k:List Bool)(i:Nat):dw (k.set i true)<=dw k:=by
 by_cases hi:i<k.length
 ·unfold dw;rw[List.countP_set hi];simp
 ·rw[List.set_eq_of_length_le oz];exact le_refl _
theorem DB:∀(bs:List Int)(k:List Bool),dw (bf k bs)<=dw k
 |[],k=>le_refl _
 |x::bs,k=>le_trans (DB bs (k.set x.toNat true)) (SZ k _)
theorem OE{x:Int}{bs:List Int}{k:List Bool}(h:k[x.toNat]?=some false):dw (bf k (x::bs))<dw k:=by
 have h1:=DB bs (k.set x.toNat true);have h2:=N9 h;show dw (bf (k.set x.toNat true) bs)<_;omega
theorem xR{k:List Bool}{b:Int}(h:kn k b=false)(h1:b.toNat<k.length):k[b.toNat]?=some false:=by
 unfold kn at h;rw[getD_eq_getElem?_getD,getElem?_eq_getElem h1]at h;rw[getElem?_eq_getElem h1];simpa using h
theorem NV{l:Li}(hl:ay l=0){kw:List Bool}(hk:kw.length=l.bo.length){g:Gr}(h:nextG l kw=some g):∃x bs,g.bo=x::bs/\kw[x.toNat]?=some false:=by
 unfold nextG at h;cases h1:driverG l kw with
 |some g' =>
  rw[h1]at h;cases h
  unfold driverG at h1;rw[map_eq_some_iff]at h1;obtain⟨i,hi,rfl⟩:=h1;obtain⟨h2,h3⟩:=eI hi;obtain⟨d,hd⟩:=ax h2;have h4:=c9 (kP hl hd);rw[aC hd]at *;unfold drHit at h3;rw[aC hd]at h3;simp only[Bool.not_eq_false',and_eq_true,Bool.not_eq_true',decide_eq_true_eq]at h3;exact⟨_,_,rfl,xR h3.1 oz⟩
 |none =>
  rw[h1]at h;cases h2:pairG l kw with
  |some g' =>
   rw[h2]at h;cases h
   unfold pairG at h2;rw[map_eq_some_iff]at h2;obtain⟨i,hi,h2⟩:=h2;obtain⟨h3,h4⟩:=eI hi;split at h2
   ·rename_i k hk';subst h2;unfold prAt at hk';rw[map_eq_some_iff]at hk';obtain⟨k',hk',rfl⟩:=hk';obtain⟨h5,h6⟩:=eI hk';unfold prHit freeB at h6;simp only[Bool.not_eq_false',and_eq_true,Bool.not_eq_true',decide_eq_true_eq]at h6;exact⟨_,_,rfl,xR h6.1.1.1 oz⟩
   ·rename_i hk';rw[hk']at h4;cases h4
  |none =>
   rw[h2]at h;have h:singleG l kw=some g:=h;unfold singleG at h;rw[map_eq_some_iff]at h;obtain⟨i,hi,rfl⟩:=h;obtain⟨h3,h4⟩:=eI hi;unfold sgHit freeB at h4;simp only[Bool.not_eq_false',and_eq_true,Bool.not_eq_true',decide_eq_true_eq]at h4;exact⟨_,_,rfl,xR h4.1.1 oz⟩
theorem ru{l:Li}(hl:ay l=0){kw:List Bool}(hk:kw.length=l.bo.length){g:Gr}(h:nextG l kw=some g):dw (bf kw g.bo)<dw kw:=by
 obtain⟨x,bs,e,h1⟩:=NV hl hk h;rw[e];exact OE h1
theorem yY{l:Li}(hl:ay l=0):∀(n m:Nat)(kw:List Bool)(out:List Gr),kw.length=l.bo.length->dw kw<=n->dw kw<=m->findFrom l n kw out=findFrom l m kw out
 |0,0,kw,out,hk,h1,h2=>rfl
 |0,m+1,kw,out,hk,h1,h2=>by
  unfold findFrom;cases hg:nextG l kw with
  |none=>rfl
  |some g=>have:=ru hl hk hg;omega
 |n+1,0,kw,out,hk,h1,h2=>by
  unfold findFrom;cases hg:nextG l kw with
  |none=>rfl
  |some g=>have:=ru hl hk hg;omega
 |n+1,m+1,kw,out,hk,h1,h2=>by
  unfold findFrom;cases hg:nextG l kw with
  |none=>rfl
  |some g =>
   have:=ru hl hk hg;exact yY hl n m _ _ (by rw[jd];exact hk) oz oz
theorem zN{l:Li}:∀(n:Nat)(kw:List Bool)(out:List Gr),∃gs,findFrom l n kw out=(gs.foldl (fun k g=>bf k g.bo) kw,out++gs)
 |0,kw,out=>⟨[],by simp[findFrom]⟩
 |n+1,kw,out=>by
  unfold findFrom;cases hg:nextG l kw with
  |none=>exact⟨[],by simp⟩
  |some g =>
   obtain⟨gs,e⟩:=zN n (bf kw g.bo) (out++[g]);exact⟨g::gs,by show findFrom l n _ _=_;rw[e];simp⟩
theorem BD(l:Li):findFrom l l.bo.length (cg l.bo.length 0) []=(bH l,findG l):=by
 obtain⟨gs,e⟩:=zN (l:=l) l.bo.length (cg l.bo.length 0) [];unfold bH findG;rw[e];simp
theorem tB{k:List Bool}:(dW k).length=0↔k.contains false=false:=by
 unfold dW;rw[length_map,List.length_eq_zero_iff,List.filter_eq_nil_iff];constructor
 ·intro h;rw[<- Bool.not_eq_true,List.contains_iff_mem];intro hm;obtain⟨i,hi⟩:=List.mem_iff_getElem?.1 hm;have hlt:=(List.getElem?_eq_some_iff.1 hi).1;have:=h i (List.mem_range.2 hlt);rw[getD_eq_getElem?_getD,hi]at this;simp at this
 ·intro h i hi;rw[<- Bool.not_eq_true,List.contains_iff_mem]at h;intro hc;have hlt:=List.mem_range.1 hi;rw[getD_eq_getElem?_getD,getElem?_eq_getElem hlt]at hc;simp at hc;exact h (hc▸getElem_mem hlt)
theorem oD:Sub (.agg [.v (.int .i64 0),.v (.slice none 0 0),.v (.slice none 0 0),.v (.int .i64 0)]) (Gr.av default):=.agg (.cons (.refl _) (.cons (.nil _ _ _) (.cons (.nil _ _ _) (.cons (.refl _) .nil)))) rfl
theorem G6{z:Int}(h:aa .geq z 0=true):0<=z:=of_decide_eq_true h
theorem GH{z:Int}(h:aa .geq z 0=false):¬0<=z:=of_decide_eq_false h
theorem uw{a b c:Int}:cond (cond (aa .geq a 0) (aa .geq b 0) false) (aa .geq c 0) false=(decide (0<=a)&&decide (0<=b)&&decide (0<=c)):=by
 have e:∀z:Int,aa .geq z 0=decide (0<=z):=fun z=>rfl
 rw[e,e,e,ig,ig]
theorem Gu{a b:Int}:cond (aa .lss a 0) true (aa .lss b 0)=!(decide (0<=a)&&decide (0<=b)):=by
 have e:∀z:Int,aa .lss z 0=!decide (0<=z):=fun z=>by rw[<- decide_not];exact decide_eq_decide.2 oz
 rw[e,e,it,Bool.not_and]
theorem By{a b:Int}(h:cond (aa .lss a 0) true (aa .lss b 0)=true):(decide (0<=a)&&decide (0<=b))=false:=by rw[Gu]at h;exact cI h
theorem Bl{a b:Int}(h:cond (aa .lss a 0) true (aa .lss b 0)=false):0<=a/\0<=b:=by
 rw[Gu]at h;have:=cH h;simpa using this
structure TieO(l:Li)(kind:Int)(bs:List Int)(z b:Int)(j:Jt):Prop where
  hz:0<=z
  hj:l.jo[z.toNat]?=some j
  kd:j.kind=kind
  tie:(j.a=b/\j.b∉bs)\/(j.b=b/\j.a∉bs)
inductive DyK(l:Li):Gr->Prop where
  |drv {b z d:Int} {j:Jt} {x:Dr} (t:TieO l 0 [b] z b j) (d0:0<=d) (hd:l.dv[d.toNat]?=some x) (hb:x.body=b):DyK l ⟨0,[b],[z],d⟩
  |rrr {i k z0 z1 z2:Int} {j0 j1 j2:Jt} (ne:i≠k) (t0:TieO l 0 [i,k] z0 i j0) (t1:TieO l 0 [i,k] z1 k j1) (h0:0<=z2) (h2:l.jo[z2.toNat]?=some j2) (kd:j2.kind=0)
      (tie:(j2.a=i/\j2.b=k)\/(j2.b=i/\j2.a=k)):DyK l ⟨1,[i,k],[z0,z1,z2],0⟩
  |pr {i z0 z1:Int} {j0 j1:Jt} (t0:TieO l 0 [i] z0 i j0) (t1:TieO l 1 [i] z1 i j1) (ha:j1.a=i):DyK l ⟨2,[i],[z0,z1],0⟩
  |rp {i z0 z1:Int} {j0 j1:Jt} (t0:TieO l 0 [i] z0 i j0) (t1:TieO l 1 [i] z1 i j1) (ha:j1.a≠i):DyK l ⟨3,[i],[z0,z1],0⟩
theorem vj{l:Li}{kind b:Int}{oth:List Bool}(h:0<=jointI l kind b oth) :
  ∃(i:Nat)(j:Jt),jointI l kind b oth=(i:Int)/\l.jo[i]?=some j/\j.kind=kind/\((j.a=b/\kn oth j.b=true)\/(j.b=b/\kn oth j.a=true)):=by
 unfold jointI at h ⊢;cases hf:bU l.jo.length (fun i=>!kA kind b oth (l.jo.getD i default))with
 |none=>rw[hf]at h;exact absurd h (by decide)
 |some i =>
  obtain⟨h1,h2⟩:=eI hf;obtain⟨j,hj⟩:=ax h1;rw[aC hj]at h2;unfold kA at h2;simp only[Bool.not_eq_false',and_eq_true,or_eq_true,decide_eq_true_eq]at h2;exact⟨i,j,rfl,hj,h2.1,h2.2⟩
theorem sY{l:Li}{kind b:Int}{kw:List Bool}{bs:List Int}(hb:∀x∈bs,kn kw x=false)(h:0<=jointI l kind b kw):∃j,TieO l kind bs (jointI l kind b kw) b j:=by
 obtain⟨i,j,e,hj,hk,ht⟩:=vj h;have hn:∀x,kn kw x=true->x∉bs:=fun x hx hm=>by rw[hb x hm]at hx;cases hx
 refine⟨j,h,by rw[e,toNat_natCast];exact hj,hk,?_⟩;rcases ht with⟨h1,h2⟩ |⟨h1,h2⟩
 ·exact .inl ⟨h1,hn _ h2⟩
 ·exact .inr ⟨h1,hn _ h2⟩
theorem pJ{l:Li}{kw:List Bool}{b:Int}(h:freeB l kw b=true):kn kw b=false:=by
 unfold freeB at h;simp only[and_eq_true,Bool.not_eq_true']at h;exact h.1
theorem ug{kw:List Bool}{b:Int}(h:kn kw b=false):∀x∈[b],kn kw x=false:=fun x hx=>by rw[List.mem_singleton.1 hx];exact h
theorem L6{l:Li}(hl:ay l=0){kw:List Bool}{g:Gr}(h:driverG l kw=some g):DyK l g:=by
 unfold driverG at h;rw[map_eq_some_iff]at h;obtain⟨i,hi,rfl⟩:=h;obtain⟨h1,h2⟩:=eI hi;obtain⟨d,hd⟩:=ax h1;unfold drHit at h2;simp only[Bool.not_eq_false',and_eq_true,decide_eq_true_eq,Bool.not_eq_true']at h2;rw[aC hd]at h2 ⊢;obtain⟨j,hj⟩:=sY (ug h2.1) h2.2;exact .drv hj oz (by rw[toNat_natCast];exact hd) rfl
theorem UN{l:Li}(hl:ay l=0){kw:List Bool}{g:Gr}(h:pairG l kw=some g):DyK l g:=by
 unfold pairG at h;rw[map_eq_some_iff]at h;obtain⟨i,hi,h⟩:=h;obtain⟨h1,h2⟩:=eI hi;split at h
 ·rename_i k hk;subst h;unfold prAt at hk;rw [map_eq_some_iff] at hk;obtain ⟨k',hk',rfl⟩:=hk;obtain ⟨h3,h4⟩:=eI hk';rw [show i + 1 + k' = k' + (i + 1) by omega] at h4;unfold prHit at h4;simp only [Bool.not_eq_false',and_eq_true,decide_eq_true_eq] at h4;obtain ⟨⟨f1,f2⟩,⟨j1,j2⟩,j3⟩:=h4
  have hb:∀x∈[(i:Int),((k'+(i+1):Nat):Int)],kn kw x=false:=fun x hx=>by
   simp only[mem_cons,not_mem_nil,or_false]at hx;rcases hx with rfl |rfl
   ·exact pJ f1
   ·exact pJ f2
  obtain⟨a0,t0⟩:=sY hb j1;obtain⟨a1,t1⟩:=sY hb j2;obtain⟨n,a2,e,hj,hkd,ht⟩:=vj j3;obtain⟨i1,i2,_⟩:=dx hl hj;have i1:=(c9 i1).1;have i2:=(c9 i2).1;refine .rrr oz t0 t1 j3 (by rw[e,toNat_natCast];exact hj) hkd ?_;rcases ht with⟨e1,e2⟩ |⟨e1,e2⟩
  ·rw[nK i2 oz oz]at e2;exact .inl ⟨e1,of_decide_eq_true e2⟩
  ·rw[nK i1 oz oz]at e2;exact .inr ⟨e1,of_decide_eq_true e2⟩
 ·rename_i hk;rw[hk]at h2;cases h2
theorem LH{l:Li}{kw:List Bool}{g:Gr}(h:singleG l kw=some g):DyK l g:=by
 unfold singleG at h;rw[map_eq_some_iff]at h;obtain⟨i,hi,rfl⟩:=h;obtain⟨h1,h2⟩:=eI hi;unfold sgHit at h2;simp only[Bool.not_eq_false',and_eq_true,decide_eq_true_eq]at h2;obtain⟨f1,j1,j2⟩:=h2;obtain⟨a0,t0⟩:=sY (ug (pJ f1)) j1;obtain⟨a1,t1⟩:=sY (ug (pJ f1)) j2;unfold sgG;rw[aC t1.hj]
 by_cases e:a1.a=i
 ·rw[if_pos e];exact .pr t0 t1 e
 ·rw[if_neg e];exact .rp t0 t1 e
theorem Nk{l:Li}(hl:ay l=0){kw:List Bool}{g:Gr}(h:nextG l kw=some g):DyK l g:=by
 unfold nextG at h;cases h1:driverG l kw with
 |some g'=>rw[h1]at h;cases h;exact L6 hl h1
 |none =>
  rw[h1]at h;cases h2:pairG l kw with
  |some g'=>rw[h2]at h;cases h;exact UN hl h2
  |none=>rw[h2]at h;exact LH h
theorem C3{l:Li}(hl:ay l=0):∀(n:Nat)(kw:List Bool)(out:List Gr),(∀g∈out,DyK l g)->∀g∈(findFrom l n kw out).2,DyK l g
 |0,kw,out,h=>h
 |n+1,kw,out,h=>by
  unfold findFrom;cases hg:nextG l kw with
  |none=>exact h
  |some g=>exact C3 hl n (bf kw g.bo) (out++[g]) (fun x hx=>by
    rcases List.mem_append.1 hx with hx |hx
    ·exact h x hx
    ·rw[List.mem_singleton.1 hx];exact Nk hl hg)
theorem qS{l:Li}(hl:ay l=0){g:Gr}(h:g∈splitG l):DyK l g/\GrOk l g:=by
 unfold splitG at h;split at h
 ·exact⟨C3 hl _ _ _ (fun g hg=>by cases hg) g h,(r5 hl).1 g h⟩
 ·cases h
open Lean.Grind
def E(r:(k:Nat)->T k)(n:Nat):Type:=T n
namespace T
theorem ofQ_zero:∀n,ofQ n 0=zero n
 |0=>rfl
 |n+1=>by simp only[ofQ,zero,ofQ_zero n]
theorem ofQ_add:∀n (p q:Rat),ofQ n (p+q)=add n (ofQ n p) (ofQ n q)
 |0,p,q=>rfl
 |n+1,p,q=>by simp only[ofQ,add,ofQ_add n,add_zero]
theorem ofQ_neg:∀n (p:Rat),ofQ n (-p)=neg n (ofQ n p)
 |0,p=>rfl
 |n+1,p=>by simp only[ofQ,neg,ofQ_neg n,neg_zero]
end T
structure Laws(r:(k:Nat)->T k)(n:Nat):Prop where
  assoc:∀x y z,T.mul r n (T.mul r n x y) z=T.mul r n x (T.mul r n y z)
  dist:∀x y z,T.mul r n x (T.add n y z)=T.add n (T.mul r n x y) (T.mul r n x z)
  one:∀x,T.mul r n (T.ofQ n 1) x=x
theorem T.neg_mul'{r:(k:Nat)->T k}{n:Nat}(h:Laws r n)(x y:T n):T.mul r n (T.neg n x) y=T.neg n (T.mul r n x y):=by
 have h1:T.add n (T.mul r n x y) (T.mul r n (T.neg n x) y)=T.zero n:=by
  rw[T.mul_comm r n x,T.mul_comm r n (T.neg n x),<- h.dist,T.add_neg,T.mul_zero]
 have h2:=congrArg (fun z=>T.add n (T.neg n (T.mul r n x y)) z) h1;simp only[T.add_zero]at h2;rw[<- T.add_assoc,T.add_comm n (T.neg n _),T.add_neg,T.zero_add]at h2;exact h2
theorem T.mul_addr{r:(k:Nat)->T k}{n:Nat}(h:Laws r n)(a b c:T n):T.mul r n (T.add n a b) c=T.add n (T.mul r n a c) (T.mul r n b c):=by
 rw[T.mul_comm r n _ c,h.dist,T.mul_comm r n c,T.mul_comm r n c]
instance (r:(k:Nat)->T k)(n:Nat):Add (E r n):=⟨T.add n⟩
instance (r:(k:Nat)->T k)(n:Nat):Mul (E r n):=⟨T.mul r n⟩
instance (r:(k:Nat)->T k)(n:Nat):Neg (E r n):=⟨T.neg n⟩
instance (r:(k:Nat)->T k)(n:Nat):_root_.Sub (E r n):=⟨fun x y=>T.add n x (T.neg n y)⟩
instance (r:(k:Nat)->T k)(n c:Nat):OfNat (E r n) c:=⟨T.ofQ n (c:Rat)⟩
instance (r:(k:Nat)->T k)(n:Nat):NatCast (E r n):=⟨fun c=>T.ofQ n (c:Rat)⟩
instance (r:(k:Nat)->T k)(n:Nat):IntCast (E r n):=⟨fun c=>T.ofQ n (c:Rat)⟩
instance (r:(k:Nat)->T k)(n:Nat):SMul Nat (E r n):=⟨fun c x=>T.mul r n (T.ofQ n (c:Rat)) x⟩
instance (r:(k:Nat)->T k)(n:Nat):SMul Int (E r n):=⟨fun c x=>T.mul r n (T.ofQ n (c:Rat)) x⟩
def E.pow{r:(k:Nat)->T k}{n:Nat}(x:E r n):Nat->E r n
  |0=>T.ofQ n 1
  |c+1=>T.mul r n (E.pow x c) x
instance (r:(k:Nat)->T k)(n:Nat):HPow (E r n) Nat (E r n):=⟨E.pow⟩
@[reducible] def Laws.ring {r:(k:Nat)->T k} {n:Nat} (h:Laws r n):CommRing (E r n) where
  add_zero a:=by
    show T.add n a (T.ofQ n ((0:Nat):Rat))=a;rw[show(((0:Nat):Rat))=0 from rfl,T.ofQ_zero];exact T.add_zero n a
  add_comm a b:=T.add_comm n a b
  add_assoc a b c:=T.add_assoc n a b c
  mul_assoc a b c:=h.assoc a b c
  mul_one a:=(T.mul_comm r n a _).trans (h.one a)
  one_mul a:=h.one a
  left_distrib a b c:=h.dist a b c
  right_distrib a b c:=T.mul_addr h a b c
  zero_mul a:=by
    show T.mul r n (T.ofQ n ((0:Nat):Rat)) a=T.ofQ n ((0:Nat):Rat);rw[show(((0:Nat):Rat))=0 from rfl,T.ofQ_zero];exact T.zero_mul r n a
  mul_zero a:=by
    show T.mul r n a (T.ofQ n ((0:Nat):Rat))=T.ofQ n ((0:Nat):Rat);rw[show(((0:Nat):Rat))=0 from rfl,T.ofQ_zero];exact T.mul_zero r n a
  pow_zero a:=rfl
  pow_succ a c:=rfl
  ofNat_succ c:=by
    show T.ofQ n ((c+1:Nat):Rat)=T.add n (T.ofQ n (c:Rat)) (T.ofQ n ((1:Nat):Rat));rw[<- T.ofQ_add];congr 1;exact Rat.natCast_add c 1
  ofNat_eq_natCast c:=rfl
  nsmul_eq_natCast_mul c a:=rfl
  neg_add_cancel a:=(T.add_comm n (T.neg n a) a).trans ((T.add_neg n a).trans (T.ofQ_zero n).symm)
  sub a b:=T.add n a (T.neg n b)
  sub_eq_add_neg a b:=rfl
  neg_zsmul i a:=(congrArg (fun z=>T.mul r n z a) (show T.ofQ n ((-i:Int):Rat)=T.neg n (T.ofQ n (i:Rat)) by rw[Rat.intCast_neg,T.ofQ_neg])).trans (T.neg_mul' h _ a)
  zsmul_natCast_eq_nsmul c a:=rfl
  intCast_ofNat c:=rfl
  intCast_neg i:=by
    show T.ofQ n ((-i:Int):Rat)=T.neg n (T.ofQ n (i:Rat));rw[Rat.intCast_neg,T.ofQ_neg]
  mul_comm a b:=T.mul_comm r n a b
section
variable{R:Type}[CommRing R](x y u v p q d:R)
theorem KG:(x*u+y*v*d)*p+(x*v+y*u)*q*d=x*(u*p+v*q*d)+y*(u*q+v*p)*d:=by grind
theorem Jp:(x*u+y*v*d)*q+(x*v+y*u)*p=x*(u*q+v*p)+y*(u*p+v*q*d):=by grind
theorem Lk:x*(u+p)+y*(v+q)*d=(x*u+y*v*d)+(x*p+y*q*d):=by grind
theorem OI:x*(v+q)+y*(u+p)=(x*v+y*u)+(x*q+y*p):=by grind
end
theorem l9(r:(k:Nat)->T k):∀n,Laws r n
 |0=>⟨fun x y z=>Rat.mul_assoc x y z,fun x y z=>Rat.mul_add x y z,fun x=>Rat.one_mul x⟩
 |n+1=>by
  have I:=(l9 r n).ring;have h1:=(l9 r n).one;refine⟨?_,?_,?_⟩
  ·rintro⟨x,y⟩ ⟨u,v⟩ ⟨p,q⟩;exact Prod.ext (@KG (E r n) (l9 r n).ring x y u v p q (r n)) (@Jp (E r n) (l9 r n).ring x y u v p q (r n))
  ·rintro⟨x,y⟩ ⟨u,v⟩ ⟨p,q⟩;exact Prod.ext (@Lk (E r n) (l9 r n).ring x y u v p q (r n)) (@OI (E r n) (l9 r n).ring x y u v p q)
  ·rintro⟨u,v⟩;refine Prod.ext ?_ ?_
   ·show T.add n (T.mul r n (T.ofQ n 1) u) (T.mul r n (T.mul r n (T.zero n) v) (r n))=u;rw[h1,T.zero_mul,T.zero_mul,T.add_zero]
   ·show T.add n (T.mul r n (T.ofQ n 1) v) (T.mul r n (T.zero n) u)=v;rw[h1,T.zero_mul,T.add_zero]
instance eRing(r:(k:Nat)->T k)(n:Nat):CommRing (E r n):=(l9 r n).ring
structure Sg(R:Type)[CommRing R](s:R->Int):Prop where
  cs:∀x,s x=-1\/s x=0\/s x=1
  one:s 1=1
  neg:∀x,s (-x)=-s x
  mul:∀x y,s (x*y)=s x*s y
  add:∀x y,0<=s x->0<=s y->0<=s (x+y)
namespace Sg
variable{R:Type}[CommRing R]{s:R->Int}
theorem zero(h:Sg R s):s 0=0:=by
 have h1:=h.neg 0;rw[show -(0:R)=0 by grind]at h1;omega
theorem zadd(h:Sg R s){x y:R}(hx:s x=0):s (x+y)=s y:=by
 have h1:=h.cs y;have h2:=h.cs (x+y);have n1:=h.neg x;have n2:=h.neg y;have n3:=h.neg (x+y);have a1:=h.add x y;have a2:=h.add (-x) (-y);have a3:=h.add (-x) (x+y);have a4:=h.add x (-(x+y));rw[show -x+-y=-(x+y) by grind]at a2;rw[show -x+(x+y)=y by grind]at a3;rw[show x+-(x+y)=-y by grind]at a4;omega
theorem padd(h:Sg R s){x y:R}(hx:s x=1)(hy:0<=s y):s (x+y)=1:=by
 have h2:=h.cs (x+y);have a1:=h.add x y;have n2:=h.neg y;have n3:=h.neg (x+y);have a4:=h.add (-(x+y)) y;have e:-(x+y)+y=-x:=by grind
 have n1:=h.neg x;rw[e]at a4;rcases h2 with h2 |h2 |h2
 ·omega
 ·have:=h.zadd (x:=-(x+y)) (y:=y) oz;rw[e]at this;omega
 ·exact h2
theorem sq(h:Sg R s)(x:R):0<=s (x*x):=by
 rw[h.mul];rcases h.cs x with e |e |e <;> rw[e] <;> decide
theorem sqle(h:Sg R s){a b:R}(ha:0<=s a)(hb:0<=s (a*a-b*b)):0<=s (a+b):=by
 have c1:=h.cs (a+b);rcases c1 with c1 |c1 |c1
 ·exfalso;have n1:=h.neg (a+b);have p1:s (-(a+b)+a)=1:=h.padd oz ha;rw[show -(a+b)+a=-b by grind]at p1;have p2:s (-b+a)=1:=h.padd p1 ha;have m:=h.mul (-b+a) (a+b);rw[show(-b+a)*(a+b)=a*a-b*b by grind,p2,c1]at m;omega
 ·omega
 ·omega
theorem cancel(h:Sg R s){p x:R}(hp:s p=1)(hx:0<=s (p*x)):0<=s x:=by
 rw[h.mul,hp]at hx;omega
end Sg
def bB{r:(k:Nat)->T k}{n:Nat}(x y:E r n):E r (n+1):=((x,y):T n×T n)
def sg(r:(k:Nat)->T k)(n:Nat)(x:E r n):Int:=T.sgn r n x
def bq(r:(k:Nat)->T k)(n:Nat):E r n:=r n
variable{r:(k:Nat)->T k}{n:Nat}
theorem jI(z:E r (n+1)):∃x y:E r n,z=bB x y:=⟨z.1,z.2,rfl⟩
theorem nV(x y u v:E r n):bB x y+bB u v=bB (x+u) (y+v):=rfl
theorem rG(x y:E r n):-bB x y=bB (-x) (-y):=rfl
theorem j4(x y u v:E r n):bB x y*bB u v=bB (x*u+y*v*bq r n) (x*v+y*u):=rfl
theorem E.zero_def:(0:E r n)=T.zero n:=T.ofQ_zero n
theorem uW:(1:E r (n+1))=bB 1 0:=by
 show T.ofQ (n+1) ((1:Nat):Rat)=(T.ofQ n ((1:Nat):Rat),T.ofQ n ((0:Nat):Rat));rw[show(((0:Nat):Rat))=0 from rfl,T.ofQ_zero];rfl
def aL(x y:E r n):E r n:=x*x+-(y*y*bq r n)
theorem jO(x y:E r n):sg r (n+1) (bB x y)=T.sgn3 (sg r n x) (sg r n y) (sg r n (bq r n)) (sg r n (aL x y)):=rfl
def PE(x y:E r n):Prop:=(0<=sg r n x/\0<=sg r n (aL x y))\/(0<=sg r n y/\0 <= -sg r n (aL x y))
theorem qf(h:Sg (E r n) (sg r n))(hd:sg r n (bq r n)=1)(x y:E r n):0<=sg r (n+1) (bB x y)↔PE x y:=by
 rw[jO,hd];unfold PE
 have f1:sg r n y=0->sg r n (aL x y)=sg r n x*sg r n x:=by
  intro hy;have h1:sg r n (-(y*y*bq r n))=0:=by rw[h.neg,h.mul,h.mul,hy];simp
  have:=h.zadd (y:=x*x) h1;unfold aL;rw[show x*x+-(y*y*bq r n)=-(y*y*bq r n)+x*x by grind,this,h.mul]
 have f2:sg r n x=0->sg r n (aL x y)=-(sg r n y*sg r n y):=by
  intro hx;have h1:sg r n (x*x)=0:=by rw[h.mul,hx];simp
  have:=h.zadd (y:=-(y*y*bq r n)) h1;unfold aL;rw[this,h.neg,h.mul,h.mul,hd];simp
 have c1:=h.cs x;have c2:=h.cs y;have c3:=h.cs (aL x y)
 revert f1 f2 c1 c2 c3
 generalize sg r n x=a;generalize sg r n y=b;generalize sg r n (aL x y)=c;intro f1 f2 c1 c2 c3;rcases c1 with rfl |rfl |rfl <;> rcases c2 with rfl |rfl |rfl <;> rcases c3 with rfl |rfl |rfl <;> first |decide |(exfalso;revert f1 f2;decide)
theorem MQ(h:Sg (E r n) (sg r n))(hd:sg r n (bq r n)=1){x y u v:E r n}(h1:PE x y)(h2:PE u v):PE (x*u+y*v*bq r n) (x*v+y*u):=by
 have nm:aL (x*u+y*v*bq r n) (x*v+y*u)=aL x y*aL u v:=by unfold aL;grind
 have hn:=h.mul (aL x y) (aL u v);have d0:0<=sg r n (bq r n):=by omega
 unfold PE;rw[nm,hn];rcases h1 with⟨a1,a2⟩ |⟨a1,a2⟩ <;> rcases h2 with⟨b1,b2⟩ |⟨b1,b2⟩
 ·refine .inl ⟨h.sqle ?_ ?_,Int.mul_nonneg a2 b2⟩
  ·rw[h.mul];exact Int.mul_nonneg a1 b1
  ·have e : x * u * (x * u) - y * v * bq r n * (y * v * bq r n) = aL x y * (u * u) + y * y * bq r n * aL u v := by unfold aL; grind
   rw[e];refine h.add _ _ ?_ ?_
   ·rw[h.mul];exact Int.mul_nonneg a2 (h.sq u)
   ·rw[h.mul,h.mul];exact Int.mul_nonneg (Int.mul_nonneg (h.sq y) d0) b2
 ·refine .inr ⟨h.sqle ?_ ?_,?_⟩
  ·rw[h.mul];exact Int.mul_nonneg a1 b1
  ·have e : x * v * (x * v) - y * u * (y * u) = aL x y * (v * v) + y * y * -aL u v := by unfold aL; grind
   rw[e];refine h.add _ _ ?_ ?_
   ·rw[h.mul];exact Int.mul_nonneg a2 (h.sq v)
   ·rw[h.mul,h.neg];exact Int.mul_nonneg (h.sq y) b2
  ·rw[<- Int.mul_neg];exact Int.mul_nonneg a2 b2
 ·refine .inr ⟨?_,?_⟩
  ·rw [show x * v + y * u = y * u + x * v by grind];refine h.sqle ?_ ?_
   ·rw[h.mul];exact Int.mul_nonneg a1 b1
   ·have e : y * u * (y * u) - x * v * (x * v) = aL u v * (y * y) + v * v * -aL x y := by unfold aL; grind
    rw[e];refine h.add _ _ ?_ ?_
    ·rw[h.mul];exact Int.mul_nonneg b2 (h.sq y)
    ·rw[h.mul,h.neg];exact Int.mul_nonneg (h.sq v) a2
  ·rw[<- Int.neg_mul];exact Int.mul_nonneg a2 b2
 ·refine .inl ⟨?_,?_⟩
  ·rw [show x * u + y * v * bq r n = y * v * bq r n + x * u by grind];refine h.sqle ?_ ?_
   ·rw[h.mul,h.mul];exact Int.mul_nonneg (Int.mul_nonneg a1 b1) d0
   ·have e : y * v * bq r n * (y * v * bq r n) - x * u * (x * u) = -aL x y * (v * v * bq r n) + x * x * -aL u v := by unfold aL; grind
    rw[e];refine h.add _ _ ?_ ?_
    ·rw[h.mul,h.neg,h.mul];exact Int.mul_nonneg a2 (Int.mul_nonneg (h.sq v) d0)
    ·rw[h.mul,h.neg];exact Int.mul_nonneg (h.sq x) b2
  ·rw[<- Int.neg_mul_neg];exact Int.mul_nonneg a2 b2
theorem Dt(h:Sg (E r n) (sg r n))(hd:sg r n (bq r n)=1){x y u v:E r n}(a1:0<=sg r n x)(a2:0<=sg r n (aL x y))(b1:0<=sg r n v)(b2:0 <= -sg r n (aL u v)):PE (x+u) (y+v):=by
  have cX:=h.cs (x+u);have cY:=h.cs (y+v);have cN:=h.cs (aL (x+u) (y+v));unfold PE
  by_cases hX:0<=sg r n (x+u)
  · by_cases hN:0<=sg r n (aL (x+u) (y+v))
    · exact .inl ⟨hX,hN⟩
    · by_cases hY:0<=sg r n (y+v)
      · exact .inr ⟨hY,by omega⟩
      · -- Y < 0: then N is at least 0
        exfalso;have hY':sg r n (-(y+v))=1:=by rw[h.neg];omega
        have ny:sg r n (-y)=1:=by
          have:=h.padd hY' b1
          rwa [show -(y+v)+v=-y by grind]at this
        have k1:0<=sg r n (x*v+y*u):=by
          refine h.sqle (by rw[h.mul];exact Int.mul_nonneg a1 b1) ?_;have e:x*v*(x*v)-y*u*(y*u)=aL x y*(v*v)+y*y*-aL u v:=by unfold aL;grind
          rw[e];refine h.add _ _ ?_ ?_
          · rw[h.mul];exact Int.mul_nonneg a2 (h.sq v)
          · rw[h.mul,h.neg];exact Int.mul_nonneg (h.sq y) b2
        have k2:0<=sg r n (x*v+-(y*u)):=by
          refine h.sqle (by rw[h.mul];exact Int.mul_nonneg a1 b1) ?_;have e:x*v*(x*v) - -(y*u)*-(y*u)=aL x y*(v*v)+y*y*-aL u v:=by unfold aL;grind
          rw[e];refine h.add _ _ ?_ ?_
          · rw[h.mul];exact Int.mul_nonneg a2 (h.sq v)
          · rw[h.mul,h.neg];exact Int.mul_nonneg (h.sq y) b2
        have k3:0<=sg r n (-y*(x+u)-x*-(y+v)):=by
          rw[show -y*(x+u)-x*-(y+v)=x*v+-(y*u) by grind];exact k2
        have k4:0<=sg r n (-y*(x+u)+x*-(y+v)):=by
          rw[show -y*(x+u)+x*-(y+v)=(-y*(x+u)-x*-(y+v))+(x*-(y+v)+x*-(y+v)) by grind];refine h.add _ _ k3 (h.add _ _ ?_ ?_) <;> (rw[h.mul,hY'];omega)
        have k5:0<=sg r n ((y*y)*aL (x+u) (y+v)):=by
          have e:(y*y)*aL (x+u) (y+v)=(-y*(x+u)-x*-(y+v))*(-y*(x+u)+x*-(y+v))+aL x y*(-(y+v)*-(y+v)):=by unfold aL;grind
          rw[e];refine h.add _ _ (by rw[h.mul];exact Int.mul_nonneg k3 k4) (by rw[h.mul];exact Int.mul_nonneg a2 (h.sq _))
        have k6 := h.cancel (by rw [h.mul]; rw [h.neg] at ny; have : sg r n y = -1 := by omega
                                rw[this];rfl) k5
        exact hN k6
  · have hX' : sg r n (-(x + u)) = 1 := by rw [h.neg]; omega
    have nu:sg r n (-u)=1:=by
      have:=h.padd hX' a1
      rwa [show -(x+u)+x=-u by grind]at this
    have su:sg r n u=-1:=by rw[h.neg]at nu;omega
    have hv:sg r n v=1:=by
      rcases h.cs v with e |e |e
      · omega
      · exfalso
        have h1:sg r n (-(v*v*bq r n))=0:=by rw[h.neg,h.mul,h.mul,e];simp
        have:=h.zadd (y:=u*u) h1;rw[show -(v*v*bq r n)+u*u=aL u v by unfold aL;grind,h.mul,su]at this;omega
      · exact e
    have k1:0<=sg r n (x*v+y*-u):=by
      refine h.sqle (by rw[h.mul];exact Int.mul_nonneg a1 b1) ?_;have e:x*v*(x*v)-y*-u*(y*-u)=aL x y*(v*v)+y*y*-aL u v:=by unfold aL;grind
      rw[e];refine h.add _ _ ?_ ?_
      · rw[h.mul];exact Int.mul_nonneg a2 (h.sq v)
      · rw[h.mul,h.neg];exact Int.mul_nonneg (h.sq y) b2
    have k3:0<=sg r n (-u*(y+v)-v*-(x+u)):=by
      rw[show -u*(y+v)-v*-(x+u)=x*v+y*-u by grind];exact k1
    have k4:0<=sg r n (v*-(x+u)):=by rw[h.mul,hv,hX'];decide
    have kY:0<=sg r n (y+v):=by
      refine h.cancel nu ?_;rw[show -u*(y+v)=(-u*(y+v)-v*-(x+u))+v*-(x+u) by grind];exact h.add _ _ k3 k4
    refine .inr ⟨kY,?_⟩
    have k5:0<=sg r n ((v*v)*-aL (x+u) (y+v)):=by
      have e:(v*v)*-aL (x+u) (y+v)=(-u*(y+v)-v*-(x+u))*(-u*(y+v)+v*-(x+u))+-aL u v*((y+v)*(y+v)):=by unfold aL;grind
      rw[e];have k6:0<=sg r n (-u*(y+v)+v*-(x+u)):=h.add _ _ (by rw[h.mul,nu];omega) k4;refine h.add _ _ (by rw[h.mul];exact Int.mul_nonneg k3 k6) (by rw[h.mul,h.neg];exact Int.mul_nonneg b2 (h.sq _))
    have k7:=h.cancel (by rw[h.mul,hv];rfl) k5
    rwa [h.neg]at k7
theorem Kx(h:Sg (E r n) (sg r n))(hd:sg r n (bq r n)=1){x y u v:E r n}(h1:PE x y)(h2:PE u v):PE (x+u) (y+v):=by
 have d0:0<=sg r n (bq r n):=by omega
 rcases h1 with⟨a1,a2⟩ |⟨a1,a2⟩ <;> rcases h2 with⟨b1,b2⟩ |⟨b1,b2⟩
 ·refine .inl ⟨h.add _ _ a1 b1,?_⟩
  have k:0<=sg r n (x*u+-(y*v*bq r n)):=by
   refine h.sqle (by rw[h.mul];exact Int.mul_nonneg a1 b1) ?_;have e:x*u*(x*u) - -(y*v*bq r n)*-(y*v*bq r n)=aL x y*(u*u)+y*y*bq r n*aL u v:=by unfold aL;grind
   rw[e];refine h.add _ _ ?_ ?_
   ·rw[h.mul];exact Int.mul_nonneg a2 (h.sq u)
   ·rw[h.mul,h.mul];exact Int.mul_nonneg (Int.mul_nonneg (h.sq y) d0) b2
  rw[show aL (x+u) (y+v)=(aL x y+aL u v)+((x*u+-(y*v*bq r n))+(x*u+-(y*v*bq r n))) by unfold aL;grind];exact h.add _ _ (h.add _ _ a2 b2) (h.add _ _ k k)
 ·exact Dt h hd a1 a2 b1 b2
 ·rw[show x+u=u+x by grind,show y+v=v+y by grind];exact Dt h hd b1 b2 a1 a2
 ·refine .inr ⟨h.add _ _ a1 b1,?_⟩
  have k:0<=sg r n (y*v*bq r n+-(x*u)):=by
   refine h.sqle (by rw[h.mul,h.mul];exact Int.mul_nonneg (Int.mul_nonneg a1 b1) d0) ?_;have e:y*v*bq r n*(y*v*bq r n) - -(x*u)*-(x*u)=-aL x y*(v*v*bq r n)+x*x*-aL u v:=by unfold aL;grind
   rw[e];refine h.add _ _ ?_ ?_
   ·rw[h.mul,h.neg,h.mul];exact Int.mul_nonneg a2 (Int.mul_nonneg (h.sq v) d0)
   ·rw[h.mul,h.neg];exact Int.mul_nonneg (h.sq x) b2
  have k2:0<=sg r n (-aL (x+u) (y+v)):=by
   rw[show -aL (x+u) (y+v)=(-aL x y+-aL u v)+((y*v*bq r n+-(x*u))+(y*v*bq r n+-(x*u))) by unfold aL;grind];exact h.add _ _ (h.add _ _ (by rw[h.neg];exact a2) (by rw[h.neg];exact b2)) (h.add _ _ k k)
  rwa [h.neg]at k2
theorem M0(a b c d:Int):T.sgn3 (-a) (-b) c d=-T.sgn3 a b c d:=by
 unfold T.sgn3;have e:(-a=-b \/ -b=0)↔(a=b\/b=0):=by omega
 simp only[e];split
 ·rfl
 ·split
  ·rfl
  ·by_cases h:a=0
   ·rw[if_pos oz,if_pos h]
   ·rw[if_neg oz,if_neg h,Int.neg_mul]
theorem O9(h:Sg (E r n) (sg r n))(hd:0<=sg r n (bq r n)):Sg (E r (n+1)) (sg r (n+1)):=by
 have hcs:∀z:E r (n+1),sg r (n+1) z=-1\/sg r (n+1) z=0\/sg r (n+1) z=1:=fun z=>T.sgn_cases r (n+1) z
 have hone:sg r (n+1) 1=1:=by
  rw[uW,jO,h.one,h.zero];unfold T.sgn3;split
  ·rfl
  ·simp
 have hneg:∀z:E r (n+1),sg r (n+1) (-z)=-sg r (n+1) z:=by
  intro z;obtain⟨x,y,rfl⟩:=jI z;rw[rG,jO,jO,h.neg,h.neg,show aL (-x) (-y)=aL x y by unfold aL;grind,M0]
 by_cases hd0:sg r n (bq r n)=0
 ·have e0:∀x y:E r n,sg r (n+1) (bB x y)=sg r n x:=by
   intro x y;rw[jO,hd0];unfold T.sgn3;rw[if_pos rfl]
  refine⟨hcs,hone,hneg,?_,?_⟩
  ·intro z w;obtain ⟨x,y,rfl⟩:=jI z;obtain ⟨u,v,rfl⟩:=jI w;rw [j4,e0,e0,e0];have h1:sg r n (y * v * bq r n) = 0:=by rw [h.mul,hd0]; simp
   have:=h.zadd (y:=x*u) h1;rw[show x*u+y*v*bq r n=y*v*bq r n+x*u by grind,this,h.mul]
  ·intro z w;obtain⟨x,y,rfl⟩:=jI z;obtain⟨u,v,rfl⟩:=jI w;rw[nV,e0,e0,e0];exact h.add x u
 ·have hd1 : sg r n (bq r n) = 1 := by rcases h.cs (bq r n) with e | e | e <;> omega
  have hadd:∀z w:E r (n+1),0<=sg r (n+1) z->0<=sg r (n+1) w->0<=sg r (n+1) (z+w):=by
   intro z w;obtain⟨x,y,rfl⟩:=jI z;obtain⟨u,v,rfl⟩:=jI w;rw[nV,qf h hd1,qf h hd1,qf h hd1];exact Kx h hd1
  have hpm:∀z w:E r (n+1),0<=sg r (n+1) z->0<=sg r (n+1) w->0<=sg r (n+1) (z*w):=by
   intro z w;obtain⟨x,y,rfl⟩:=jI z;obtain⟨u,v,rfl⟩:=jI w;rw[j4,qf h hd1,qf h hd1,qf h hd1];exact MQ h hd1
  have hzm:∀z w:E r (n+1),sg r (n+1) z=0->sg r (n+1) (w*z)=0:=by
   intro z w hz;have n1:=hneg z;have n2:=hneg w;have n3:=hneg (w*z);have m1:=hpm w z;have m2:=hpm w (-z);have m3:=hpm (-w) z;have m4:=hpm (-w) (-z);rw[show w*-z=-(w*z) by grind]at m2;rw[show -w*z=-(w*z) by grind]at m3;rw[show -w*-z=w*z by grind]at m4;rcases hcs w with e |e |e <;> omega
  have hsc:∀(a u v:E r n),sg r (n+1) (bB (a*u) (a*v))=sg r n a*sg r (n+1) (bB u v):=by
   intro a u v;rw[jO,jO,show aL (a*u) (a*v)=a*a*aL u v by unfold aL;grind,h.mul,h.mul,h.mul,h.mul,hd1]
   have f1:sg r n v=0->sg r n (aL u v)=sg r n u*sg r n u:=by
    intro hy;have h1:sg r n (-(v*v*bq r n))=0:=by rw[h.neg,h.mul,h.mul,hy];simp
    have:=h.zadd (y:=u*u) h1;unfold aL;rw[show u*u+-(v*v*bq r n)=-(v*v*bq r n)+u*u by grind,this,h.mul]
   have c1:=h.cs u;have c2:=h.cs v;have c3:=h.cs (aL u v);have c4:=h.cs a
   revert c1 c2 c3 c4
   generalize sg r n u=a1;generalize sg r n v=b1;generalize sg r n (aL u v)=c1;generalize sg r n a=e1;intro c1 c2 c3 c4;rcases c1 with rfl |rfl |rfl <;> rcases c2 with rfl |rfl |rfl <;> rcases c3 with rfl |rfl |rfl <;> rcases c4 with rfl |rfl |rfl <;> decide
  have hpadd:∀z w:E r (n+1),sg r (n+1) z=1->0<=sg r (n+1) w->sg r (n+1) (z+w)=1:=by
   intro z w hz hw;have a1:=hadd z w oz hw;rcases hcs (z+w)with e |e |e
   ·omega
   ·exfalso;have n1:=hneg z;have n2:=hneg (z+w);have a2:=hadd (-(z+w)) w oz hw;rw[show -(z+w)+w=-z by grind]at a2;omega
   ·exact e
  have hpp:∀z w:E r (n+1),sg r (n+1) z=1->sg r (n+1) w=1->sg r (n+1) (z*w)=1:=by
   intro z w hz hw;obtain⟨x,y,rfl⟩:=jI z;obtain⟨u,v,rfl⟩:=jI w;have p0:=hpm _ _ (by omega:0<=sg r (n+1) (bB x y)) (by omega:0<=sg r (n+1) (bB u v));rcases hcs (bB x y*bB u v)with e |e |e
   ·omega
   ·exfalso
    by_cases hN:sg r n (aL x y)=0
    ·have hxy:sg r n x=1/\sg r n y=1:=by
      rw[jO,hd1,hN]at hz
      have f1:sg r n y=0->sg r n (aL x y)=sg r n x*sg r n x:=by
       intro hy;have h1:sg r n (-(y*y*bq r n))=0:=by rw[h.neg,h.mul,h.mul,hy];simp
       have:=h.zadd (y:=x*x) h1;unfold aL;rw[show x*x+-(y*y*bq r n)=-(y*y*bq r n)+x*x by grind,this,h.mul]
      have f2:sg r n x=0->sg r n (aL x y)=-(sg r n y*sg r n y):=by
       intro hx;have h1:sg r n (x*x)=0:=by rw[h.mul,hx];simp
       have:=h.zadd (y:=-(y*y*bq r n)) h1;unfold aL;rw[this,h.neg,h.mul,h.mul,hd1];simp
      rw[hN]at f1 f2;have c1:=h.cs x;have c2:=h.cs y
      revert hz f1 f2 c1 c2
      generalize sg r n x=a;generalize sg r n y=b;intro hz f1 f2 c1 c2;rcases c1 with rfl |rfl |rfl <;> rcases c2 with rfl |rfl |rfl <;> revert hz f1 f2 <;> decide
     have k1:sg r (n+1) (bB (x*u) (x*v))=1:=by rw[hsc,hxy.1,hw];rfl
     have k2:0<=sg r (n+1) (bB 0 y):=by
      rw[jO,h.zero,hxy.2,hd1];unfold T.sgn3;simp
     have k3:=hpm _ _ k2 (by omega:0<=sg r (n+1) (bB u v));have k4:=hpadd _ _ k1 k3;rw[j4,nV]at k4;rw[j4]at e;rw[show x*u+(0*u+y*v*bq r n)=x*u+y*v*bq r n by grind,show x*v+(0*v+y*u)=x*v+y*u by grind]at k4;omega
    ·have k1:=hzm _ (bB x (-y)) e;rw[show bB x (-y)*(bB x y*bB u v)=bB (aL x y*u) (aL x y*v) by rw[j4,j4];unfold aL;congr 1 <;> grind,hsc,hw]at k1;omega
   ·exact e
  refine⟨hcs,hone,hneg,?_,hadd⟩;intro z w;rcases hcs w with e |e |e
  ·rcases hcs z with e' |e' |e'
   ·have := hpp (-z) (-w) (by rw[hneg];omega) (by rw[hneg];omega);rw[show -z*-w=z*w by grind]at this;rw[this,e,e'];rfl
   ·have:=hzm z w e';rw[show w*z=z*w by grind]at this;rw[this,e'];simp
   ·have := hpp z (-w) e' (by rw[hneg];omega);rw[show z*-w=-(z*w) by grind,hneg]at this;rw[e,e'];omega
  ·rw[hzm w z e,e];simp
  ·rcases hcs z with e' |e' |e'
   ·have := hpp (-z) w (by rw[hneg];omega) e;rw[show -z*w=-(z*w) by grind,hneg]at this;rw[e,e'];omega
   ·have:=hzm z w e';rw[show w*z=z*w by grind]at this;rw[this,e'];simp
   ·rw[hpp z w e' e,e,e'];rfl
theorem lK(q:Rat):bA q=-1/\q<0\/bA q=0/\q=0\/bA q=1/\0<q:=by
 unfold bA;split
 ·exact .inl ⟨rfl,by assumption⟩
 ·split
  ·exact .inr (.inr ⟨rfl,by assumption⟩)
  ·exact .inr (.inl ⟨rfl,by grind⟩)
theorem tX{q:Rat}(h:0<q):bA q=1:=by
 rcases lK q with⟨_,h'⟩ |⟨_,h'⟩ |⟨e,_⟩
 ·grind
 ·grind
 ·exact e
theorem yA{q:Rat}(h:q<0):bA q=-1:=by
 rcases lK q with⟨e,_⟩ |⟨_,h'⟩ |⟨_,h'⟩
 ·exact e
 ·grind
 ·grind
theorem Sh(q:Rat):bA (-q)=-bA q:=by
 rcases lK q with⟨e,h⟩ |⟨e,h⟩ |⟨e,h⟩
 ·rw[e,tX (by grind)];rfl
 ·rw[h];rfl
 ·rw[e,yA (by grind)]
theorem PZ(p q:Rat):bA (p*q)=bA p*bA q:=by
 have h0:bA 0=0:=rfl;rcases lK p with⟨e,h⟩ |⟨e,h⟩ |⟨e,h⟩ <;> rcases lK q with⟨e',h'⟩ |⟨e',h'⟩ |⟨e',h'⟩
 ·have := Rat.mul_pos (a := -p) (b := -q) (by grind) (by grind);rw[e,e',tX (by grind)];rfl
 ·rw[h',Rat.mul_zero,h0];simp
 ·have := Rat.mul_pos (a := -p) (b := q) (by grind) h';rw[e,e',yA (by grind)];rfl
 ·rw[h,Rat.zero_mul,h0];simp
 ·rw[h,Rat.zero_mul,h0];simp
 ·rw[h,Rat.zero_mul,h0];simp
 ·have := Rat.mul_pos (a := p) (b := -q) h (by grind);rw[e,e',yA (by grind)];rfl
 ·rw[h',Rat.mul_zero,h0];simp
 ·rw[e,e',tX (Rat.mul_pos h h')];rfl
theorem Sf(p q:Rat)(h1:0<=bA p)(h2:0<=bA q):0<=bA (p+q):=by
 rcases lK (p+q)with⟨e,h⟩ |⟨e,h⟩ |⟨e,h⟩
 ·exfalso;rcases lK p with⟨e1,g1⟩ |⟨e1,g1⟩ |⟨e1,g1⟩ <;> rcases lK q with⟨e2,g2⟩ |⟨e2,g2⟩ |⟨e2,g2⟩ <;> first |omega |grind
 ·omega
 ·omega
theorem Kk(r:(k:Nat)->T k):Sg (E r 0) (sg r 0) :=
 ⟨fun q=>T.sgnQ_cases q,rfl,fun q=>Sh q,fun p q=>PZ p q,fun p q=>Sf p q⟩
def eH(r:(k:Nat)->T k)(n:Nat):Prop:=∀j,j<n->0<=T.sgn r j (r j)
theorem gk(r:(k:Nat)->T k):∀n,eH r n->Sg (E r n) (sg r n)
 |0,_=>Kk r
 |n+1,h=>O9 (gk r n (fun j hj=>h j oz)) (h n oz)
end Go.Lw
namespace Go.Lw
def xA{r:(k:Nat)->T k}{n:Nat}(x:E r n):AV:=nA (sh n x)
abbrev Pn(r:(k:Nat)->T k)(n:Nat):Type:=E r n×E r n
def lA(r:(k:Nat)->T k)(n:Nat):LL:=(List.range n).map fun k=>enc k (r k)
def qE{r:(k:Nat)->T k}{n:Nat}(q:Rat):E r n:=T.ofQ n q
theorem zo:∀(n:Nat)(q:Rat),sh n (T.ofQ n q)=sh 0 (q:Rat)
 |0,q=>rfl
 |n+1,q=>by
  show(if T.isZ n (T.zero n)=true then sh n (T.ofQ n q)else _)=_;rw[if_pos ((T.isZ_iff n _).2 rfl),zo n q]
theorem Ek:∀n:Nat,sh n (T.zero n)=[]
 |0=>rfl
 |n+1=>by
  show(if T.isZ n (T.zero n)=true then sh n (T.zero n)else _)=_;rw[if_pos ((T.isZ_iff n _).2 rfl),Ek n]
theorem rJ(r:(k:Nat)->T k)(n:Nat):(lA r n).length=n:=by simp[lA]
theorem FK{r:(k:Nat)->T k}{n j:Nat}(h:j<n):(lA r n).getD j []=enc j (r j):=by
 unfold lA;rw[getD_eq_getElem?_getD,getElem?_map,List.getElem?_range h];rfl
theorem Mx{r:(k:Nat)->T k}{n j:Nat}(h:j<n):au (lA r n) j=r j:=by
 unfold au;rw[FK h,wz]
theorem E1{ts:LL}{R:Nat}(tw:Tw ts R):ts=lA (au ts) ts.length:=by
 apply List.ext_getElem?;intro j
 by_cases hj:j<ts.length
 ·have h1:=FK (r:=au ts) hj;have h2:=tw.len j hj;rw[getD_eq_getElem?_getD]at h1;rw[getElem?_eq_getElem (show j<(lA (au ts) ts.length).length by rw[rJ];exact hj)]at h1 ⊢;rw[Option.getD_some]at h1;rw[h1,getElem?_eq_getElem hj];unfold au;rw[oJ _ _ h2,getD_eq_getElem?_getD,getElem?_eq_getElem hj];rfl
 ·rw[getElem?_eq_none oz,getElem?_eq_none (by rw[rJ];omega)]
class Cx(r:(k:Nat)->T k)(n:Nat)(u k:outParam Nat):Prop where
  ex:∃R,Tw (lA r n) R/\eB R n<=k
  k1:1<=k
  u3:3<=u
class Zu(u k:Nat){r:(k:Nat)->T k}{n:Nat}(x:E r n)(w v:outParam Nat):Prop where
  nm:Nm n (w*u+v*k) (sh n x)
class Zp(u k:Nat){r:(k:Nat)->T k}{n:Nat}(p:Pn r n)(w v:outParam Nat):Prop where
  x:Nm n (w*u+v*k) (sh n p.1)
  y:Nm n (w*u+v*k) (sh n p.2)
class Qz(u:Nat)(q:Rat)(w:outParam Nat):Prop where
  cb:Cb (w*u) [q]
section
variable{r:(k:Nat)->T k}{n u k:Nat}
theorem Cx.five(c:Cx r n u k):n<=5:=by obtain⟨R,tw,_⟩:=c.ex;have:=tw.five;rwa [rJ]at this
theorem Cx.three(c:Cx r n u k):n<=3:=by obtain⟨R,tw,_⟩:=c.ex;have:=tw.three;rwa [rJ]at this
theorem vk(w v w' v' u k:Nat):(w*u+v*k)+(w'*u+v'*k)=(w+w')*u+(v+v')*k:=by
 rw[Nat.add_mul,Nat.add_mul];omega
theorem Nm.eq{n e f:Nat}{l:List Rat}(h:Nm n e l)(hf:e=f):Nm n f l:=hf▸h
theorem Nm.addT{e f:Nat}{x y:T n}(hx:Nm n e (sh n x))(hy:Nm n f (sh n y)):Nm n (e+f+1) (sh n (T.add n x y)):=by
 have h:=hx.add hy
 rwa [a7,a7]at h
theorem Nm.subT{e f:Nat}{x y:T n}(hx:Nm n e (sh n x))(hy:Nm n f (sh n y)):Nm n (e+f+1) (sh n (T.add n x (T.neg n y))):=by
 have h:=hx.sub hy
 rwa [a7,a7]at h
theorem Nm.negT{e:Nat}{x:T n}(hx:Nm n e (sh n x)):Nm n e (sh n (T.neg n x)):=by
 have h:=hx.neg
 rwa [a7]at h
theorem Nm.mulT{R e f:Nat}(tw:Tw (lA r n) R){x y:T n}(hx:Nm n e (sh n x))(hy:Nm n f (sh n y)):Nm n (e+f+eB R n) (sh n (T.mul r n x y)):=by
 have h:=Nm.mul tw (rJ r n).symm hx hy
 rwa [a7,a7,T.mul_congr n (fun j hj=>Mx hj)]at h
instance Zu.add[c:Cx r n u k]{x y:E r n}{w v w' v':Nat}[hx:Zu u k x w v][hy:Zu u k y w' v']:Zu u k (x+y) (w+w') (v+v'+1) :=
  ⟨(Nm.addT hx.nm hy.nm).mono (by rw[vk,Nat.add_mul _ 1];have:=c.k1;omega)⟩
instance Zu.sub[c:Cx r n u k]{x y:E r n}{w v w' v':Nat}[hx:Zu u k x w v][hy:Zu u k y w' v']:Zu u k (x-y) (w+w') (v+v'+1) :=
  ⟨(Nm.subT hx.nm hy.nm).mono (by rw[vk,Nat.add_mul _ 1];have:=c.k1;omega)⟩
instance Zu.neg{x:E r n}{w v:Nat}[hx:Zu u k x w v]:Zu u k (-x) w v:=⟨Nm.negT hx.nm⟩
instance Zu.mul[c:Cx r n u k]{x y:E r n}{w v w' v':Nat}[hx:Zu u k x w v][hy:Zu u k y w' v']:Zu u k (x*y) (w+w') (v+v'+1):=by
  obtain⟨R,tw,hk⟩:=c.ex;exact⟨(Nm.mulT tw hx.nm hy.nm).mono (by rw[vk,Nat.add_mul _ 1];omega)⟩
instance Zu.qE[c:Cx r n u k]{q:Rat}{w:Nat}[h:Qz u q w]:Zu u k (qE q:E r n) w 0:=⟨by
  show Nm n _ (sh n (T.ofQ n q));rw[zo];exact(Nm.ofQ c.five h.cb).eq oz⟩
theorem Cb.int{e:Nat}{z:Int}(h:z.natAbs<=2^e):Cb e [(z:Rat)] :=
 ⟨1,z.natAbs,⟨by omega,fun q hq=>⟨z,by rw[List.mem_singleton.1 hq];exact Rat.mul_one _,le_refl _⟩⟩,Nat.one_le_two_pow,h⟩
theorem Qz.int[c:Cx r n u k]{z:Int}(h:z.natAbs<=8):Qz u (z:Rat) 1:=⟨Cb.int (le_trans h (show 2^3<=_ from b7 (by have:=c.u3;omega)))⟩
instance Zu.c0[c:Cx r n u k]:Zu u k (0:E r n) 0 0:=⟨by
  show Nm n _ (sh n (T.ofQ n ((0:Nat):Rat)));rw[show(((0:Nat):Rat))=0 from rfl,T.ofQ_zero,Ek];exact⟨c.five,.inl rfl,Cb.nil.mono (zero_le _)⟩⟩
instance Zu.c1[c:Cx r n u k]:Zu u k (1:E r n) 1 0:=by
  haveI:Qz u ((1:Nat):Rat) 1:=Qz.int (c:=c) (z:=1) (by decide);exact(inferInstance:Zu u k (Go.Lw.qE ((1:Nat):Rat):E r n) 1 0)
instance Zu.c2[c:Cx r n u k]:Zu u k (2:E r n) 1 0:=by
  haveI:Qz u ((2:Nat):Rat) 1:=Qz.int (c:=c) (z:=2) (by decide);exact(inferInstance:Zu u k (Go.Lw.qE ((2:Nat):Rat):E r n) 1 0)
instance Zu.c4[c:Cx r n u k]:Zu u k (4:E r n) 1 0:=by
  haveI:Qz u ((4:Nat):Rat) 1:=Qz.int (c:=c) (z:=4) (by decide);exact(inferInstance:Zu u k (Go.Lw.qE ((4:Nat):Rat):E r n) 1 0)
instance Zu.px{p:Pn r n}{w v:Nat}[h:Zp u k p w v]:Zu u k p.1 w v:=⟨h.x⟩
instance Zu.py{p:Pn r n}{w v:Nat}[h:Zp u k p w v]:Zu u k p.2 w v:=⟨h.y⟩
theorem A8{w v w' v' u k:Nat}(h:w<=w')(h':v<=v'):w*u+v*k<=w'*u+v'*k:=Nat.add_le_add (mul_le_mul_right _ h) (mul_le_mul_right _ h')
instance Zp.mk'{x y:E r n}{w v w' v':Nat}[hx:Zu u k x w v][hy:Zu u k y w' v']:Zp u k ((x,y):Pn r n) (max w w') (max v v') :=
  ⟨hx.nm.mono (A8 (Nat.le_max_left ..) (Nat.le_max_left ..)),hy.nm.mono (A8 (Nat.le_max_right ..) (Nat.le_max_right ..))⟩
def SU(p q:Pn r n):Pn r n:=(p.1+q.1,p.2+q.2)
def LV(p q:Pn r n):Pn r n:=(p.1-q.1,p.2-q.2)
def MV(c:E r n)(p:Pn r n):Pn r n:=(c*p.1,c*p.2)
def JP(p q:Pn r n):E r n:=p.1*q.1+p.2*q.2
def Tl(p q:Pn r n):E r n:=p.1*q.2-p.2*q.1
def N5(c s:E r n)(p:Pn r n):Pn r n:=(c*p.1-s*p.2,s*p.1+c*p.2)
def pQ(x y:Rat):Pn r n:=(qE x,qE y)
def NX(p:Pn r n):Pn r n:=(-p.2,p.1)
instance Zp.add[c:Cx r n u k]{p q:Pn r n}{w v w' v':Nat}[hp:Zp u k p w v][hq:Zp u k q w' v']:Zp u k (SU p q) (w+w') (v+v'+1) :=
  ⟨(inferInstance:Zu u k (p.1+q.1) (w+w') (v+v'+1)).nm,(inferInstance:Zu u k (p.2+q.2) (w+w') (v+v'+1)).nm⟩
instance Zp.sub[c:Cx r n u k]{p q:Pn r n}{w v w' v':Nat}[hp:Zp u k p w v][hq:Zp u k q w' v']:Zp u k (LV p q) (w+w') (v+v'+1) :=
  ⟨(inferInstance:Zu u k (p.1-q.1) (w+w') (v+v'+1)).nm,(inferInstance:Zu u k (p.2-q.2) (w+w') (v+v'+1)).nm⟩
instance Zp.scale[c:Cx r n u k]{a:E r n}{q:Pn r n}{w v w' v':Nat}[hp:Zu u k a w v][hq:Zp u k q w' v']:Zp u k (MV a q) (w+w') (v+v'+1) :=
  ⟨(inferInstance:Zu u k (a*q.1) (w+w') (v+v'+1)).nm,(inferInstance:Zu u k (a*q.2) (w+w') (v+v'+1)).nm⟩
instance Zu.dot[c:Cx r n u k]{p q:Pn r n}{w v w' v':Nat}[hp:Zp u k p w v][hq:Zp u k q w' v']:Zu u k (JP p q) (w+w'+(w+w')) (v+v'+1+(v+v'+1)+1) :=
  (inferInstance:Zu u k (p.1*q.1+p.2*q.2) _ _)
instance Zu.cross[c:Cx r n u k]{p q:Pn r n}{w v w' v':Nat}[hp:Zp u k p w v][hq:Zp u k q w' v']:Zu u k (Tl p q) (w+w'+(w+w')) (v+v'+1+(v+v'+1)+1) :=
  (inferInstance:Zu u k (p.1*q.2-p.2*q.1) _ _)
instance Zp.turn[c:Cx r n u k]{a b:E r n}{p:Pn r n}{w v w' v' w2 v2:Nat}[ha:Zu u k a w v][hb:Zu u k b w' v'][hp:Zp u k p w2 v2] :
    Zp u k (N5 a b p) (w+w2+(w'+w2)) (v+v2+1+(v'+v2+1)+1) :=
  ⟨(inferInstance:Zu u k (a*p.1-b*p.2) _ _).nm,by
    have h:=(inferInstance:Zu u k (b*p.1+a*p.2) _ _).nm;exact h.eq (by rw[Nat.add_comm (w'+w2),Nat.add_comm (v'+v2+1)])⟩
instance Zp.ofQ[c:Cx r n u k]{x y:Rat}{w w':Nat}[hx:Qz u x w][hy:Qz u y w']:Zp u k (pQ x y:Pn r n) (max w w') (max 0 0) :=
  (inferInstance:Zp u k ((qE x,qE y):Pn r n) _ _)
instance Zp.quart{p:Pn r n}{w v:Nat}[hp:Zp u k p w v]:Zp u k (NX p) w v:=⟨(inferInstance:Zu u k (-p.2) w v).nm,hp.x⟩
end
theorem Ck(rs:List (List Rt)):(llq rs).length=rs.length:=by simp[llq]
abbrev Et(ts:LL):Type:=E (au ts) ts.length
def dE(ts:LL)(a:List Rat):Et ts:=ae ts.length a
def sX{ts:LL}(x:Et ts):List Rat:=sh ts.length x
def ak{ts:LL}(x:Et ts):Int:=T.sgn (au ts) ts.length x
class Ct(ts:LL)(u k:outParam Nat):Prop where
  ex:∃R,Tw ts R/\eB R ts.length<=k
  k1:1<=k
  u3:3<=u
  ub:u<=1000000
  kb:k<=1000000
instance Ct.cx{ts:LL}{u k:Nat}[c:Ct ts u k]:Cx (au ts) ts.length u k:=by
  obtain⟨R,tw,h⟩:=c.ex;exact⟨⟨R,E1 tw▸tw,h⟩,c.k1,c.u3⟩
class Zl(ts:LL)(u k:Nat)(a:List Rat)(x:outParam (Et ts))(w v:outParam Nat):Prop where
  eq:ae ts.length a=x
  nm:Nm ts.length (w*u+v*k) a
section
variable{ts:LL}{u k:Nat}
instance Zl.sX{x:Et ts}{w v:Nat}[h:Zu u k x w v]:Zl ts u k (sX x) x w v:=⟨a7 _ _,h.nm⟩
instance Zl.q[c:Ct ts u k]{q:Rat}{w:Nat}[h:Qz u q w]:Zl ts u k (sh 0 (q:Rat)) (qE q:Et ts) w 0:=⟨fR _ q,by
  obtain⟨R,tw,_⟩:=c.ex;exact(Nm.ofQ tw.five h.cb).eq oz⟩
instance Zl.nil [c : Ct ts u k] : Zl ts u k [] (0 : Et ts) 0 0 := ⟨by rw [je]; exact E.zero_def.symm, by
  obtain⟨R,tw,_⟩:=c.ex;exact⟨tw.five,.inl rfl,Cb.nil.mono (zero_le _)⟩⟩
theorem Zl.zu{a:List Rat}{x:Et ts}{w v:Nat}(h:Zl ts u k a x w v):Zu u k x w v:=⟨by
 have h1:=h.nm;have h2:=Cb.sh h1.cb h1.nl;rw[h.eq]at h2;exact⟨h1.five,dZ _ _,h2⟩⟩
theorem Zl.at{a:List Rat}{e:Nat}(h:Nm ts.length e a)(he:e<=u):Zl ts u k a (dE ts a) 1 0:=⟨rfl,h.mono oz⟩
theorem Gt(c:Ct ts u k){w v m:Nat}(h:w+v<=m):w*u+v*k<=m*1000000:=by
 have h1:w*u<=w*1000000:=mul_le_mul_left _ c.ub;have h2:v*k<=v*1000000:=mul_le_mul_left _ c.kb;omega
theorem Zl.up(c:Ct ts u k){a:List Rat}{x:Et ts}{w v m:Nat}(h:Zl ts u k a x w v)(hm:w+v<=m):Nm ts.length (m*1000000) a:=h.nm.mono (Gt c hm)
theorem Ct.kk(c:Ct ts u k){R:Nat}(h:eB R ts.length<=k):kB R ts.length<=1000000:=le_trans h c.kb
def dotE(x y z t:Et ts):Et ts:=x*z+y*t
def crsE(x y z t:Et ts):Et ts:=x*t-y*z
instance Zu.dotE[c:Ct ts u k]{x y z t:Et ts}{w1 v1 w2 v2 w3 v3 w4 v4:Nat}[Zu u k x w1 v1][Zu u k y w2 v2][Zu u k z w3 v3][Zu u k t w4 v4]:Zu u k (dotE x y z t) (w1+w3+(w2+w4)) (v1+v3+1+(v2+v4+1)+1) :=
  (inferInstance:Zu u k (x*z+y*t) _ _)
instance Zu.crsE[c:Ct ts u k]{x y z t:Et ts}{w1 v1 w2 v2 w3 v3 w4 v4:Nat}[Zu u k x w1 v1][Zu u k y w2 v2][Zu u k z w3 v3][Zu u k t w4 v4]:Zu u k (crsE x y z t) (w1+w4+(w2+w3)) (v1+v4+1+(v2+v3+1)+1) :=
  (inferInstance:Zu u k (x*t-y*z) _ _)
end
def dX(xs:List Int):List Int:=xs.mergeSort (fun a b=>decide (a<=b))
theorem Am(xs:List Int):(dX xs).Perm xs:=List.mergeSort_perm _ _
theorem LW(xs:List Int):(dX xs).Pairwise (· <= ·):=by
 have h:=List.pairwise_mergeSort (le:=fun a b:Int=>decide (a<=b)) (fun a b c h1 h2=>by simp only[decide_eq_true_eq]at *;omega) (fun a b=>by simp only[or_eq_true,decide_eq_true_eq];omega) xs;exact h.imp (fun h=>of_decide_eq_true h)
theorem N1{xs ys:List Int}(hp:ys.Perm xs)(hs:ys.Pairwise (· <= ·)):ys=dX xs :=
 List.Perm.eq_of_pairwise (le:=fun a b:Int=>a<=b) (fun a b _ _ h1 h2=>by omega) hs (LW xs) (hp.trans (Am xs).symm)
theorem F3(xs:List Int):(dX xs).length=xs.length:=(Am xs).length_eq
theorem yH{xs:List Int}{b:Int}:b∈dX xs↔b∈xs:=(Am xs).mem_iff
theorem De(e:Nat)(l:List Nat):dR (e::l)=if e≠0 then e else dR l:=rfl
theorem pf{α:Type}{f:α->Nat}{L:List α}(h:∀x∈L,f x=0):dR (L.map f)=0:=by
 induction L with
 |nil=>rfl
 |cons x L ih =>
  rw[map_cons,De,if_neg (by rw[h x (mem_cons_self ..)];simp)];exact ih (fun y hy=>h y (mem_cons_of_mem _ hy))
def iQ(g:Gr)(j:Jt):Int:=if g.bo.contains j.a=true then(if g.bo.contains j.b=true then -1 else j.b)else j.a
def fq(l:Li)(g:Gr):List Int:=g.jo.map (fun j=>iQ g (l.jo.getD j.toNat default))
theorem pR(l:Li)(g:Gr):(fq l g).length=g.jo.length:=by unfold fq;rw[length_map]
theorem JS{l:Li}(hl:ay l=0){g:Gr}(hg:GrOk l g):∀b∈fq l g,b<l.bo.length:=by
 intro b hb;unfold fq at hb;obtain⟨z,hz,rfl⟩:=List.mem_map.1 hb;obtain⟨z0,z1⟩:=hg.j z hz;obtain⟨j,hj⟩:=ax (l:=l.jo) (i:=z.toNat) oz;rw[aC hj];obtain⟨i1,i2,_⟩:=dx hl hj;have i1:=c9 i1;have i2:=c9 i2;unfold iQ;split
 ·split
  ·omega
  ·omega
 ·omega
def cD(l:Li)(g:Gr)(own:Bool):List Int:=fq l g++(if own=true then g.bo else[])
theorem xN{l:Li}(hl:ay l=0){g:Gr}(hg:GrOk l g){own:Bool}:∀b∈cD l g own,b<l.bo.length:=by
 intro b hb;rcases List.mem_append.1 hb with hb |hb
 ·exact JS hl hg b hb
 ·split at hb
  ·exact(hg.b b hb).2
  ·cases hb
theorem OY{l:Li}{g:Gr}(hg:GrOk l g){own:Bool}:(cD l g own).length<=5:=by
 unfold cD;have h1:=hg.lb;have h2:=hg.lj;rw[length_append,pR];split
 ·omega
 ·simp only[length_nil];omega
def fQ(a:As)(b:Int):Nat:=if b<0 then 0 else bt a.rs (a.bs.getD b.toNat default).l
def iO(l:Li)(k:Int):Gr:=(splitG l).getD k.toNat default
def jD(l:Li)(k:Int)(a:As)(own:Bool):Nat :=
  if splitE l≠0 then splitE l else if k<0\/((splitG l).length:Int)<=k then 9 else if a.bs.length≠l.bo.length then 10 else if ba a.rs≠0 then ba a.rs
  else dR ((dX (cD l (iO l k) own)).map (fQ a))
def fg(l:Li)(k:Int)(a:As)(own:Bool):Nat:=if ay l≠0 then ay l else jD l k a own
section
variable{l:Li}{k:Int}{a:As}{own:Bool}
theorem qe(h:ay l=0):fg l k a own=jD l k a own:=by unfold fg;rw[if_neg oz]
theorem MO{e:Nat}(he:(if ay l=0 then splitE l else ay l)=e)(h:e≠0):fg l k a own=e:=by
 by_cases h1:ay l=0
 ·rw[if_pos h1]at he;rw[qe h1];unfold jD;rw[if_pos oz];exact he
 ·rw[if_neg h1]at he;unfold fg;rw[if_pos h1];exact he
theorem Hg(h:(if ay l=0 then splitE l else ay l)=0):ay l=0/\splitE l=0:=by
 by_cases h1:ay l=0
 ·rw[if_pos h1]at h;exact⟨h1,h⟩
 ·rw[if_neg h1]at h;exact absurd h h1
theorem RA(hs:splitE l=0)(hk:k<0\/((splitG l).length:Int)<=k):jD l k a own=9:=by unfold jD;rw[if_neg oz,if_pos hk]
theorem LA(hs:splitE l=0)(hk:¬(k<0\/((splitG l).length:Int)<=k))(hb:a.bs.length≠l.bo.length):jD l k a own=10:=by
 unfold jD;rw[if_neg oz,if_neg hk,if_pos hb]
theorem Tq(hs:splitE l=0)(hk:¬(k<0\/((splitG l).length:Int)<=k))(hb:a.bs.length=l.bo.length)(hc:ba a.rs≠0):jD l k a own=ba a.rs:=by
 unfold jD;rw[if_neg oz,if_neg hk,if_neg oz,if_pos hc]
theorem Hq(hs:splitE l=0)(hk:¬(k<0\/((splitG l).length:Int)<=k))(hb:a.bs.length=l.bo.length)(hc:ba a.rs=0):jD l k a own=dR ((dX (cD l (iO l k) own)).map (fQ a)):=by
 unfold jD;rw[if_neg oz,if_neg hk,if_neg oz,if_neg oz]
end
structure DyOk(E:Nat)(l:Li)(k:Int)(a:As)(own:Bool)(i:Nat)(g:Gr):Prop where
  li:ay l=0
  sp:splitE l=0
  hk:k=(i:Int)
  hg:(splitG l)[i]?=some g
  ok:GrOk l g
  dy:DyK l g
  ln:a.bs.length=l.bo.length
  chk:ba a.rs=0
  nd:∀b∈cD l g own,fQ a b=0
  sm:∀b∈cD l g own,0<=b->∀p,a.bs[b.toNat]?=some p->∀x∈p.l,NR x E
def se(E:Nat)(l:Li)(k:Int)(a:As)(own:Bool):Prop:=∀b∈cD l (iO l k) own,0<=b->∀p,a.bs[b.toNat]?=some p->∀x∈p.l,NR x E
theorem G0{l:Li}{k:Int}{a:As}{own:Bool}{E:Nat}(hs:se E l k a own)(h:fg l k a own=0):∃i g,DyOk E l k a own i g:=by
 unfold fg at h;split at h
 ·rename_i h1;exact absurd h h1
 ·rename_i h1;have h1:=Decidable.not_not.1 h1;unfold jD at h;split at h
  ·rename_i h2;exact absurd h h2
  ·rename_i h2;split at h
   ·cases h
   ·rename_i h3;split at h
    ·cases h
    ·rename_i h4;split at h
     ·rename_i h5;exact absurd h h5
     ·rename_i h5;obtain⟨g,hg⟩:=ax (l:=splitG l) (i:=k.toNat) oz;have e:iO l k=g:=aC hg;rw[e]at h;obtain⟨d1,d2⟩:=qS h1 (mem_of_getElem? hg);refine⟨k.toNat,g,h1,by omega,by omega,hg,d2,d1,by omega,by omega,fun b hb=>?_,e▸hs⟩;exact nD h _ (List.mem_map.2 ⟨b,yH.2 hb,rfl⟩)
theorem DyOk.body{E:Nat}{l:Li}{k:Int}{a:As}{own:Bool}{i:Nat}{g:Gr}(h:DyOk E l k a own i g){b:Int}(hb:b∈cD l g own)(h0:0<=b):∃p,a.bs[b.toNat]?=some p/\bt a.rs p.l=0/\∀x∈p.l,NR x E:=by
 have h1:=xN h.li h.ok b hb;obtain⟨p,hp⟩:=ax (l:=a.bs) (i:=b.toNat) (by have:=h.ln;omega);have h2:=h.nd b hb;unfold fQ at h2;rw[if_neg oz,aC hp]at h2;exact⟨p,hp,h2,h.sm b hb h0 p hp⟩
theorem Rx(n:Nat):50000000000<=lm n:=iJ n
theorem Uc{k:Int}{n:Nat}(h:cond (aa .lss k 0) true (aa .geq k (n:Int))=true):k<0\/(n:Int)<=k:=by
 by_cases h1:k<0
 ·exact .inl h1
 ·refine .inr ?_;have h2:aa .lss k 0=false:=decide_eq_false h1;rw[h2]at h;exact of_decide_eq_true (p:=k>=n) h
theorem RG{k:Int}{n:Nat}(h:cond (aa .lss k 0) true (aa .geq k (n:Int))=false):¬(k<0\/(n:Int)<=k):=by
 intro h1
 by_cases h2:k<0
 ·rw[show aa .lss k 0=true from decide_eq_true h2]at h;cases h
 ·rw[show aa .lss k 0=false from decide_eq_false h2]at h;have h3:¬(k>=n):=of_decide_eq_false h;omega
theorem TY{k:Int}{n:Nat}(h:¬(k<0\/(n:Int)<=k)):∃i:Nat,k=i/\i<n:=⟨k.toNat,by omega,by omega⟩
theorem Bu{a b:Nat}(h:aa .neq (a:Int) (b:Int)=true):a≠b:=by
 have h1:((a:Int) != (b:Int))=true:=h;have h2:=bne_iff_ne.1 h1;omega
theorem Dq{a b:Nat}(h:aa .neq (a:Int) (b:Int)=false):a=b:=by
 have h1:((a:Int) != (b:Int))=false:=h;have h2:(a:Int)=b:=by simpa only[bne_eq_false_iff_eq]using h1
 omega
theorem oY{r:(k:Nat)->T k}{n:Nat}(p q:Rat):(qE (p+q):E r n)=qE p+qE q:=T.ofQ_add n p q
theorem OJ{r:(k:Nat)->T k}{n:Nat}(p:Rat):(qE (-p):E r n)=-qE p:=T.ofQ_neg n p
theorem rE{r:(k:Nat)->T k}{n:Nat}(p q:Rat):(qE (p-q):E r n)=qE p-qE q:=by
 rw[Rat.sub_eq_add_neg,oY,OJ];grind
theorem lV{r:(k:Nat)->T k}{n:Nat}(p q:Rat):(qE (p*q):E r n)=qE p*qE q:=(T.mul_ofQ r n p q).symm
def aX(l:Li)(body pt:Int):Rat×Rat:=(((cz l body).getD pt.toNat default).x.q,((cz l body).getD pt.toNat default).y.q)
abbrev qC(p:Rat×Rat):List AV:=[bl (rt p.1).neg,ws (rt p.1).num,ws (rt p.1).den,bl (rt p.2).neg,ws (rt p.2).num,ws (rt p.2).den]
abbrev qP(p:Rat×Rat):AV:=.agg (qC p)
structure Sm(e:Nat)(p:Rat×Rat):Prop where
  x:Qb e p.1
  y:Qb e p.2
structure MkP(l:Li)(body pt:Int)(n k:Nat)(bd:Bd)(m:Mk):Prop where
  hn:body=n
  hk:pt=k
  gbd:l.bo[n]?=some bd
  gm:bd.pts[k]?=some m
  ex:m.x=rt (aX l body pt).1
  ey:m.y=rt (aX l body pt).2
  sm:Sm 1000 (aX l body pt)
theorem ou{l:Li}(hl:l.ok)(hli:ay l=0){body pt:Int}(h1:bi body l.bo.length=true)(h2:bi pt (cz l body).length=true):∃n k bd m,MkP l body pt n k bd m:=by
 obtain⟨bd,g1,g2,g3,g4⟩:=p6 h1;rw[g2]at h2;obtain⟨m,g5,g6,g7,g8⟩:=sW h2;have hv:=Lx hli g1 g5;have ho:=(hl.bo bd g3).pts m g7;have e:aX l body pt=(m.x.q,m.y.q):=by unfold aX;rw[g2,g6]
 exact⟨body.toNat,pt.toNat,bd,m,by omega,by omega,g1,g5,by rw[e];exact Rt.eq_rt ho.x hv.1,by rw[e];exact Rt.eq_rt ho.y hv.2,by rw[e];exact⟨ho.qx.mono oz,ho.qy.mono oz⟩⟩
theorem kR{l:Li}(hl:l.ok)(hli:ay l=0){body pt:Int}(h1:bi body l.bo.length=true)(h2:bi pt (cz l body).length=true):Sm 1000 (aX l body pt):=by
 obtain⟨n,k,bd,m,h⟩:=ou hl hli h1 h2;exact h.sm
def bC(l:Li)(a:As)(body pt:Int):Et (llq a.rs)×Et (llq a.rs):=sk l a body pt
structure PlP(E:Nat)(l:Li)(a:As)(body pt:Int)(n k:Nat)(bd:Bd)(m:Mk)(b:Pl):Prop where
  mp:MkP l body pt n k bd m
  gb:a.bs[n]?=some b
  eq:sk l a body pt=m7 (llq a.rs) b m
  av:b.av=Pq.av ⟨lq b.c,lq b.s,lq b.x,lq b.y⟩
  ok:Pq.ok (llq a.rs).length E ⟨lq b.c,lq b.s,lq b.x,lq b.y⟩
def Pd(E:Nat)(a:As)(body:Int):Prop:=∃p,a.bs[body.toNat]?=some p/\bt a.rs p.l=0/\∀x∈p.l,NR x E
theorem uR{E:Nat}{l:Li}(hl:l.ok)(hli:ay l=0){a:As}(al:AB a)(hc:ba a.rs=0){body pt:Int}(h1:bi body l.bo.length=true)(h2:bi pt (cz l body).length=true)(hb:Pd E a body):∃n k bd m b,PlP E l a body pt n k bd m b:=by
 obtain⟨n,k,bd,m,h⟩:=ou hl hli h1 h2;obtain⟨b,gb,hb,hbn⟩:=hb;obtain⟨tw,_⟩:=db al.tr hc;have h5:a.rs.length<=5:=by have:=tw.five;rwa [Ck]at this
 have h9:=Cj hb hbn h5;have e:body.toNat=n:=by have:=h.hn;omega
 have e2:pt.toNat=k:=by have:=h.hk;omega
 rw[e]at gb;obtain⟨bd',g1,g2,_,_⟩:=p6 h1;rw[e]at g1;have:bd'=bd:=Option.some.inj (g1.symm.trans h.gbd);subst this;refine⟨n,k,bd',m,b,h,gb,?_,h9.1,by rw[Ck];exact h9.2⟩;unfold sk;rw[e,e2,aC gb,g2,aC h.gm]
structure DyS(a:As):Prop where
  tr:TR a.rs 64990
  one:ba a.rs=0->(llq a.rs).length<=1
theorem DyS.ct{a:As}(h:DyS a)(hc:ba a.rs=0):Ct (llq a.rs) 310000 65000:=by
 obtain⟨tw,_⟩:=db h.tr hc;refine⟨⟨64990,tw,?_⟩,by omega,by omega,by omega,by omega⟩;have h1:=gT 64990 (h.one hc);have h2:eB 64990 1=64992:=by simp only[eB]
 omega
theorem lX{l:Li}(hl:l.ok)(hli:ay l=0){a:As}(al:AB a)(S:DyS a)(hc:ba a.rs=0){body pt:Int}(h1:bi body l.bo.length=true)(h2:bi pt (cz l body).length=true)(hb:Pd 3900000 a body) :
  Zu 310000 65000 (bC l a body pt).1 40 40/\Zu 310000 65000 (bC l a body pt).2 40 40:=by
 obtain⟨n,k,bd,m,b,hp⟩:=uR hl hli al hc h1 h2 hb;obtain⟨tw,_⟩:=db S.tr hc
 have kb:kB 64990 (llq a.rs).length<=65000:=by
  have h1:=gT 64990 (S.one hc);have h2:eB 64990 1=64992:=by simp only[eB]
  show eB 64990 _<=_;omega
 have qx:Qb 1000 m.x.q:=by rw[hp.mp.ex,bZ];exact hp.mp.sm.x
 have qy:Qb 1000 m.y.q:=by rw[hp.mp.ey,bZ];exact hp.mp.sm.y
 have h:=yL tw hp.ok qx qy;unfold bC;rw[hp.eq];exact⟨⟨h.1.mono oz⟩,⟨h.2.mono oz⟩⟩
theorem oS{rs:List (List Rt)}{r:Nat}(h:TR rs r)(hc:ba rs=0):aO (llq rs)=.agg [.lst 1 (rs.map nR)]:=(db h hc).2.symm
theorem IB{x y:Option Blk}{k:Nat}{z:Blk}(h:lk [(1000,x),(1001,y)] k=some z):1000<=k:=by
 rw[aJ]at h;split at h
 ·omega
 ·rw[aJ]at h;split at h
  ·omega
  ·cases h
theorem lJ{s:AS}{k k':Nat}{x y:Blk}(h:lk s.hp k=some x)(h':lk s.hp k'=some y):∀q z,lk [(k,some x),(k',some y)] q=some z->lk s.hp q=some z:=by
 intro q z hz;rw[aJ]at hz;split at hz
 ·rename_i e;cases hz;rw[e];exact h
 ·rw[aJ]at hz;split at hz
  ·rename_i e;cases hz;rw[e];exact h'
  ·cases hz
def bW(p q:Rat×Rat):Rat×Rat:=(p.1-q.1,p.2-q.2)
def bQ(p q:Rat×Rat):Rat:=p.1*q.1+p.2*q.2
def xk(p q:Rat×Rat):Rat:=p.1*q.2-p.2*q.1
theorem Sm.sub{e f:Nat}{p q:Rat×Rat}(hp:Sm e p)(hq:Sm f q):Sm (e+f+1) (bW p q):=⟨hp.x.sub hq.x,hp.y.sub hq.y⟩
theorem Sm.dot{e f:Nat}{p q:Rat×Rat}(hp:Sm e p)(hq:Sm f q):Qb (e+f+(e+f)+1) (bQ p q):=(hp.x.mul hq.x).add (hp.y.mul hq.y)
theorem Sm.cross{e f:Nat}{p q:Rat×Rat}(hp:Sm e p)(hq:Sm f q):Qb (e+f+(e+f)+1) (xk p q):=(hp.x.mul hq.y).sub (hp.y.mul hq.x)
theorem Sm.mono{e f:Nat}{p:Rat×Rat}(hp:Sm e p)(h:e<=f):Sm f p:=⟨hp.x.mono h,hp.y.mono h⟩
theorem rD{q:Rat}{e w:Nat}(h:Qb e q)(he:e<=w*310000):Qz 310000 q w:=⟨(Cb.one h).mono he⟩
def aj(l:Li)(j:Jt)(b:Int):Rat×Rat:=if j.a=b then aX l b j.point else aX l b j.on
def aM(l:Li)(a:As)(j:Jt)(b:Int):Et (llq a.rs)×Et (llq a.rs):=if j.a=b then bC l a j.b j.on else bC l a j.a j.point
structure PinP(E:Nat)(l:Li)(a:As)(j:Jt)(b:Int):Prop where
  tie:(j.a=b/\Pd E a j.b)\/(j.a≠b/\j.b=b/\Pd E a j.a)
theorem PinP.or{E:Nat}{l:Li}{a:As}{j:Jt}{b:Int}(h:PinP E l a j b):j.a=b\/j.b=b:=by
 rcases h.tie with h9 |h9
 ·exact .inl h9.1
 ·exact .inr h9.2.1
theorem lM{l:Li}(hl:l.ok)(hli:ay l=0){a:As}(al:AB a)(S:DyS a)(hc:ba a.rs=0){i:Nat}{j:Jt}(hj:l.jo[i]?=some j){b:Int}(h:PinP 3900000 l a j b) :
  Zu 310000 65000 (aM l a j b).1 40 40/\Zu 310000 65000 (aM l a j b).2 40 40:=by
 obtain⟨i1,i2,i3,i4,_⟩:=dx hli hj;unfold aM;rcases h.tie with⟨e,hb⟩ |⟨e,e2,hb⟩
 ·rw[if_pos e];exact lX hl hli al S hc i2 i4 hb
 ·rw[if_neg e];exact lX hl hli al S hc i1 i3 hb
theorem gG{l:Li}(hl:l.ok)(hli:ay l=0){i:Nat}{j:Jt}(hj:l.jo[i]?=some j){b:Int}(h:j.a=b\/j.b=b):Sm 1000 (aj l j b):=by
 obtain⟨i1,i2,i3,i4,_⟩:=dx hli hj;unfold aj
 by_cases e:j.a=b
 ·rw[if_pos e];subst e;exact kR hl hli i1 i3
 ·rw[if_neg e];rcases h with h |h
  ·exact absurd h e
  ·subst h;exact kR hl hli i2 i4
theorem Rn{bs:List Int}{b:Int}(h:b∈bs):bs.contains b=true:=List.contains_iff_mem.2 h
theorem FO{bs:List Int}{b:Int}(h:b∉bs):bs.contains b=false:=by
 cases hc:bs.contains b with
 |false=>rfl
 |true=>exact absurd (List.contains_iff_mem.1 hc) h
theorem DyOk.ancs{E:Nat}{l:Li}{k:Int}{a:As}{own:Bool}{n:Nat}{g:Gr}(h:DyOk E l k a own n g){z b:Int}{j:Jt}(hz:z∈g.jo)(hj:l.jo[z.toNat]?=some j)(hb:iQ g j=b)(h0:0<=b):Pd E a b:=by
 refine h.body ?_ h0;unfold cD fq;refine List.mem_append_left _ (List.mem_map.2 ⟨z,hz,?_⟩);rw[aC hj];exact hb
theorem DyOk.pin{E:Nat}{l:Li}{k:Int}{a:As}{own:Bool}{n:Nat}{g:Gr}(h:DyOk E l k a own n g){kd z b:Int}{j:Jt}{bs:List Int}(hbs:g.bo=bs)(t:TieO l kd bs z b j)(hz:z∈g.jo)(hb:b∈bs):PinP E l a j b:=by
 subst hbs;obtain⟨i1,i2,_⟩:=dx h.li t.hj;have i1:=c9 i1;have i2:=c9 i2;rcases t.tie with⟨e,hn⟩ |⟨e,hn⟩
 ·refine⟨.inl ⟨e,h.ancs hz t.hj ?_ i2.1⟩⟩;unfold iQ;rw[if_pos (Rn (e▸hb)),if_neg (by rw[FO hn];simp)]
 ·refine⟨.inr ⟨fun e2=>hn (e2▸hb),e,h.ancs hz t.hj ?_ i1.1⟩⟩;unfold iQ;rw[if_neg (by rw[FO hn];simp)]
theorem DyOk.own{E:Nat}{l:Li}{k:Int}{a:As}{n:Nat}{g:Gr}(h:DyOk E l k a true n g){b:Int}(hb:b∈g.bo):Pd E a b:=by
 refine h.body ?_ (h.ok.b b hb).1;unfold cD;rw[if_pos rfl];exact List.mem_append_right _ hb
structure RrrP(E:Nat)(l:Li)(a:As)(g:Gr)(i k z0 z1 z2:Int)(j0 j1 j2:Jt):Prop where
  eq:g=⟨1,[i,k],[z0,z1,z2],0⟩
  h0:l.jo[z0.toNat]?=some j0
  h1:l.jo[z1.toNat]?=some j1
  h2:l.jo[z2.toNat]?=some j2
  p0:PinP E l a j0 i
  p1:PinP E l a j1 k
  t1:j2.a=i\/j2.b=i
  t2:j2.a=k\/j2.b=k
structure SlP(E:Nat)(l:Li)(a:As)(g:Gr)(kd i z0 z1:Int)(j0 j:Jt):Prop where
  eq:g=⟨kd,[i],[z0,z1],0⟩
  h0:l.jo[z0.toNat]?=some j0
  h1:l.jo[z1.toNat]?=some j
  p0:PinP E l a j0 i
  p1:PinP E l a j i
  hk:j.kind≠0
theorem DyOk.rrr{E:Nat}{l:Li}{k:Int}{a:As}{own:Bool}{n:Nat}{g:Gr}(h:DyOk E l k a own n g)(hk:g.kind=1):∃i k z0 z1 z2 j0 j1 j2,RrrP E l a g i k z0 z1 z2 j0 j1 j2:=by
 have hd:=h.dy;cases hd with
 |drv _ _ _ _=>exact absurd hk (by simp)
 |pr _ _ _=>exact absurd hk (by simp)
 |rp _ _ _=>exact absurd hk (by simp)
 | @rrr i k z0 z1 z2 j0 j1 j2 ne t0 t1 h0 h2 kd tie =>
  refine⟨i,k,z0,z1,z2,j0,j1,j2,rfl,t0.hj,t1.hj,h2,h.pin rfl t0 (by simp) (by simp),h.pin rfl t1 (by simp) (by simp),?_,?_⟩
  ·rcases tie with h9 |h9
   ·exact .inl h9.1
   ·exact .inr h9.1
  ·rcases tie with h9 |h9
   ·exact .inr h9.2
   ·exact .inl h9.2
theorem DyOk.pr{E:Nat}{l:Li}{k:Int}{a:As}{own:Bool}{n:Nat}{g:Gr}(h:DyOk E l k a own n g)(hk:g.kind=2):∃i z0 z1 j0 j,SlP E l a g 2 i z0 z1 j0 j/\j.a=i/\Pd E a j.b:=by
 have hd:=h.dy;cases hd with
 |drv _ _ _ _=>exact absurd hk (by simp)
 |rrr _ _ _ _ _ _ _=>exact absurd hk (by simp)
 |rp _ _ _=>exact absurd hk (by simp)
 | @pr i z0 z1 j0 j1 t0 t1 ha =>
  have p1:PinP E l a j1 i:=h.pin rfl t1 (by simp) (by simp);refine⟨i,z0,z1,j0,j1,⟨rfl,t0.hj,t1.hj,h.pin rfl t0 (by simp) (by simp),p1,by rw[t1.kd];decide⟩,ha,?_⟩;rcases p1.tie with h9 |h9
  ·exact h9.2
  ·exact absurd ha h9.1
theorem DyOk.rp{E:Nat}{l:Li}{k:Int}{a:As}{own:Bool}{n:Nat}{g:Gr}(h:DyOk E l k a own n g)(h0:g.kind≠0)(h1:g.kind≠1)(h2:g.kind≠2):∃i z0 z1 j0 j,SlP E l a g 3 i z0 z1 j0 j/\j.a≠i/\j.b=i/\Pd E a j.a:=by
 have hd:=h.dy;cases hd with
 |drv _ _ _ _=>exact absurd rfl h0
 |rrr _ _ _ _ _ _ _=>exact absurd rfl h1
 |pr _ _ _=>exact absurd rfl h2
 | @rp i z0 z1 j0 j1 t0 t1 ha =>
  have p1:PinP E l a j1 i:=h.pin rfl t1 (by simp) (by simp);refine⟨i,z0,z1,j0,j1,⟨rfl,t0.hj,t1.hj,h.pin rfl t0 (by simp) (by simp),p1,by rw[t1.kd];decide⟩,ha,?_⟩;rcases p1.tie with h9 |h9
  ·exact absurd h9.1 ha
  ·exact⟨h9.2.1,h9.2.2⟩
theorem RV{ts:LL}{r e f:Nat}(tw:Tw ts r){b:Pl}{q:Rat×Rat}(hb:Pq.ok ts.length e ⟨lq b.c,lq b.s,lq b.x,lq b.y⟩)(hq:Sm f q) :
  Nm ts.length (3*e+2*f+2*kB r ts.length+10) (sh ts.length (ur ts (iV ts b.c) (iV ts b.s) (iV ts b.x) q.1 q.2))/\Nm ts.length (3*e+2*f+2*kB r ts.length+10) (sh ts.length (tI ts (iV ts b.c) (iV ts b.s) (iV ts b.y) q.1 q.2)):=by
 have nx:=Nm.ofQ tw.five (Cb.one hq.x);have ny:=Nm.ofQ tw.five (Cb.one hq.y);have h1:=(wA tw hb.c hb.s nx ny).add hb.x;rw[AH]at h1;have h2:=(ul tw hb.c hb.s nx ny).add hb.y;rw[ym]at h2;exact⟨h1.mono oz,h2.mono oz⟩
def bO(c p:Rat×Rat):Rat:=bQ (bW c p) (bW c p)
theorem Js{e f:Nat}{c p:Rat×Rat}(hc:Sm e c)(hp:Sm f p):Qb (e+f+1+(e+f+1)+(e+f+1+(e+f+1))+1) (bO c p):=(hc.sub hp).dot (hc.sub hp)
def di(l:Li)(g:Gr)(n:Nat):Jt:=l.jo.getD (g.jo.getD n 0).toNat default
def eK(g:Gr)(n:Nat):Int:=g.bo.getD n 0
section
variable(l:Li)(a:As)
def cW(i:Int)(j:Jt):Rat×Rat:=bW (aX l i j.to) (aX l i j.on)
def cG(i:Int)(j0 j:Jt):Rat:=xk (cW l i j) (bW (aX l i j.on) (aj l j0 i))
def ji(i:Int)(j:Jt):Rat:=bQ (cW l i j) (cW l i j)
def br{ts:LL}(p q:Et ts×Et ts):Et ts×Et ts:=(p.1-q.1,p.2-q.2)
def pj{ts:LL}(p q:Et ts×Et ts):Et ts:=dotE p.1 p.2 q.1 q.2
def tU{ts:LL}(p q:Et ts×Et ts):Et ts:=crsE p.1 p.2 q.1 q.2
def co(i:Int)(j0 j:Jt):Et (llq a.rs)×Et (llq a.rs):=br (bC l a j.a j.point) (aM l a j0 i)
def cA(i:Int)(j0 j:Jt):Et (llq a.rs):=pj (co l a i j0 j) (co l a i j0 j)
end
section
variable{E:Nat}{l:Li}{a:As}{g:Gr}
theorem RrrP.at{i k z0 z1 z2:Int}{j0 j1 j2:Jt}(h:RrrP E l a g i k z0 z1 z2 j0 j1 j2):di l g 0=j0/\di l g 1=j1/\di l g 2=j2/\eK g 0=i/\eK g 1=k/\g.kind=1:=by
 rw[h.eq];exact⟨aC h.h0,aC h.h1,aC h.h2,rfl,rfl,rfl⟩
theorem SlP.at{kd i z0 z1:Int}{j0 j:Jt}(h:SlP E l a g kd i z0 z1 j0 j):di l g 0=j0/\di l g 1=j/\eK g 0=i/\g.kind=kd:=by
 rw[h.eq];exact⟨aC h.h0,aC h.h1,rfl,rfl⟩
end
section
variable{ts:LL}
def aD(p q:Et ts×Et ts):Et ts:=pj (br p q) (br p q)
theorem Bq(q:Rat):ak (qE q:Et ts)=bA q:=T.sgn_ofQ _ _ q
theorem mb(x:Rat):0<=x*x:=by
 rcases(Rat.le_total:0<=x\/x<=0)with h |h
 ·exact Rat.mul_nonneg h h
 ·have h1 : 0 <= -x := by grind
  have h2:=Rat.mul_nonneg h1 h1;grind
theorem Ld(p q:Rat×Rat):0<=bO p q:=by
 unfold bO bQ bW;have h1:=mb (p.1-q.1);have h2:=mb (p.2-q.2);dsimp only;grind
theorem xB(p q:Rat×Rat):0<=ak (qE (bO p q):Et ts):=by
 rw[Bq];have h:=Ld p q;unfold bA;split
 ·grind
 ·split <;> omega
def bu(p:Et ts×Et ts)(r:Et ts)(q:Et ts×Et ts)(s:Et ts):Et ts:=qE 4*(r*aD p q)-((r+aD p q)-s)*((r+aD p q)-s)
end
section
variable{E:Nat}{l:Li}{a:As}{g:Gr}
end
theorem DyOk.ne{E:Nat}{l:Li}{k:Int}{a:As}{own:Bool}{n:Nat}{i k2 z0 z1 z2:Int}(h:DyOk E l k a own n ⟨1,[i,k2],[z0,z1,z2],0⟩):i≠k2:=by
 have hd:=h.dy;generalize hg:(⟨1,[i,k2],[z0,z1,z2],0⟩:Gr)=g at hd;cases hd with
 |drv _ _ _ _=>simp at hg
 |pr _ _ _=>simp at hg
 |rp _ _ _=>simp at hg
 |rrr ne _ _ _ _ _ _=>simp at hg;obtain⟨⟨rfl,rfl⟩,_⟩:=hg;exact ne
structure Bulk{H:Type}(bk:DataW H->Nat)(bka:List (DataW H)->Nat):Prop where
  one:∀d,1<=bk d
  nil:bka []=0
  cons:∀d l,bka (d::l)=bk d+bka l
  slice:∀e s,bka e+1<=bk (.slice e s)
  agg:∀l,bka l<=bk (.agg l)
section
variable{P:Program}{W:World}{H:Type}{enc:TypeId×Value->H}{bk:DataW H->Nat}{bka:List (DataW H)->Nat}
theorem Bulk.pick(B:Bulk bk bka){α:Type}{m:α->Nat}:∀{l:List α}{xs:List (DataW H)},l.length<=xs.length->(∀(i:Nat)(a:α),l[i]?=some a->∃x,xs[i]?=some x/\m a<=bk x)->(l.map m).sum<=bka xs
 |[],xs,_,_=>by simp
 |a::l,[],hl,_=>by simp at hl
 |a::l,x::xs,hl,h=>by
  obtain⟨y,hy,h1⟩:=h 0 a rfl;cases hy;have h2:=B.pick (l:=l) (xs:=xs) (by simpa using hl) (fun i b hb=>h (i+1) b hb);rw[B.cons,map_cons,List.sum_cons];omega
def r4(P:Program)(W:World)(enc:TypeId×Value->H)(bk:DataW H->Nat)(t:TypeId){α:Type}(f:α->AV)(p:α->Prop)(m:α->Nat):Prop :=
  ∀(sp:Nat->Bool)(fuel:Nat)(cs:List Value)(x:DataW H×List MemPlace),DataW.trod enc P W 0 sp true fuel t cs=some x->(∀n∈x.1.weights P t,n<=reachBytes)->∃a,p a/\lC W cs (f a).cells/\m a<=bk x.1
theorem cK.m{t:TypeId}{α:Type}{f:α->AV}{p:α->Prop}(h:cK P W enc t f p):r4 P W enc bk t f p (fun _=>0):=by
 intro sp fuel cs x hx hw;obtain⟨a,h1,h2⟩:=h sp fuel cs x hx hw;exact⟨a,h1,h2,zero_le _⟩
theorem cK.m1(B:Bulk bk bka){t:TypeId}{α:Type}{f:α->AV}{p:α->Prop}(h:cK P W enc t f p):r4 P W enc bk t f p (fun _=>1):=by
 intro sp fuel cs x hx hw;obtain⟨a,h1,h2⟩:=h sp fuel cs x hx hw;exact⟨a,h1,h2,B.one _⟩
theorem r4.map{α β:Type}{t:TypeId}{f:α->AV}{p:α->Prop}{m:α->Nat}(h:r4 P W enc bk t f p m)(g:α->β)(f':β->AV)(p':β->Prop)(m':β->Nat)(hg:∀a,p a->p' (g a)/\f' (g a)=f a/\m' (g a)<=m a):r4 P W enc bk t f' p' m':=by
 intro sp fuel cs x hx hwt;obtain⟨a,ha,hc,hm⟩:=h sp fuel cs x hx hwt;obtain⟨h1,h2,h3⟩:=hg a ha;exact⟨g a,h1,by rw[h2];exact hc,le_trans h3 hm⟩
end
open Go.Proofs
section
variable{W:World}{H:Type}{enc:TypeId×Value->H}
theorem QA:cK prog W enc 350 (fun n:Nat=>u32 n) (fun n=>n<4294967296) :=
 (Dg (k:=.u32) Tryz.underlying350).map Int.toNat _ _ (fun n h=>by
  have h1:0<=n/\n<=4294967295:=by simpa[Lit.wf,IntKind.min,IntKind.max,IntKind.signed,IntKind.bits]using h
  have h2:((n.toNat:Nat):Int)=n:=by omega
  exact⟨by omega,by unfold u32;rw[h2]⟩)
theorem Fx:cK prog W enc 43 ws (fun l=>Ws l/\l.length<=281474976710656) :=
 (tl Tryz.underlying43 (n:=1) (by kernel_rfl) oz (by kernel_rfl) QA (fun _=>rfl)).map id _ _ (fun l h=>⟨⟨fun x hx=>h.1 x hx,h.2⟩,rfl⟩)
theorem CO:cK prog W enc 4 bl (fun _=>True):=KE Tryz.underlying4
theorem mW:cK prog W enc 3 i64 (fun _=>True):=(Dg (k:=.i64) Tryz.underlying3).map id _ _ (fun n h=>⟨trivial,rfl⟩)
theorem rA:cK prog W enc 9 (fun s:ByteArray=>AV.v (.string s)) (fun s=>s.size<=281474976710656):=PR Tryz.underlying9
theorem yW:cK prog W enc 45 Rt.av Rt.wok :=
 (mU (n := 3) Tryz.underlying45 (by kernel_rfl)
  (.cons rfl (n:=1) (by kernel_rfl) CO (fun _=>rfl) (.cons rfl (n:=1) (by kernel_rfl) Fx (fun _=>rfl) (.cons rfl (n:=1) (by kernel_rfl) Fx (fun _=>rfl) (.nil _)))) (fun _=>rfl)).map
  (fun z=>⟨z.1,z.2.1,z.2.2.1⟩) _ _ (fun z h=>⟨⟨h.2.1.1,h.2.2.1.1⟩,rfl⟩)
theorem HU:cK prog W enc 47 Tn.av (fun x=>x.t.wok) :=
 (mU (n := 4) Tryz.underlying47 (by kernel_rfl) (.cons rfl (n := 3) (by kernel_rfl) yW (fun _ => rfl) (.cons rfl (n := 1) (by kernel_rfl) CO (fun _ => rfl) (.nil _))) (fun _ => rfl)).map
  (fun z=>⟨z.1,z.2.1⟩) _ _ (fun z h=>⟨h.1,rfl⟩)
theorem OC:cK prog W enc 175 Mk.av (fun m=>m.name.size<=281474976710656/\m.x.wok/\m.y.wok) :=
 (mU (n := 7) Tryz.underlying175 (by kernel_rfl)
  (.cons rfl (n:=1) (by kernel_rfl) rA (fun _=>rfl) (.cons rfl (n:=3) (by kernel_rfl) yW (fun _=>rfl) (.cons rfl (n:=3) (by kernel_rfl) yW (fun _=>rfl) (.nil _)))) (fun _=>rfl)).map
  (fun z=>⟨z.1,z.2.1,z.2.2.1⟩) _ _ (fun z h=>⟨⟨h.1,h.2.1,h.2.2.1⟩,rfl⟩)
theorem QO:cK prog W enc 173 Bd.av (fun b=>b.name.size<=281474976710656/\b.pts.length<=281474976710656/\∀m∈b.pts,m.name.size<=281474976710656/\m.x.wok/\m.y.wok) :=
 (mU (n := 2) Tryz.underlying173 (by kernel_rfl)
  (.cons rfl (n:=1) (by kernel_rfl) rA (fun _=>rfl) (.cons rfl (n:=1) (by kernel_rfl) (tl Tryz.underlying171 (n:=7) (by kernel_rfl) oz (by kernel_rfl) OC (fun _=>rfl)) (fun _=>rfl) (.nil _))) (fun _=>rfl)).map
  (fun z=>⟨z.1,z.2.1⟩) _ _ (fun z h=>⟨⟨h.1,h.2.1.2,h.2.1.1⟩,rfl⟩)
theorem IC:cK prog W enc 75 Jt.av (fun j=>j.name.size<=281474976710656) :=
 (mU (n := 7) Tryz.underlying75 (by kernel_rfl)
  (.cons rfl (n := 1) (by kernel_rfl) rA (fun _ => rfl) (.cons rfl (n := 1) (by kernel_rfl) mW (fun _ => rfl) (.cons rfl (n := 1) (by kernel_rfl) mW (fun _ => rfl) (.cons rfl (n := 1) (by kernel_rfl) mW (fun _ => rfl)
   (.cons rfl (n:=1) (by kernel_rfl) mW (fun _=>rfl) (.cons rfl (n:=1) (by kernel_rfl) mW (fun _=>rfl) (.cons rfl (n:=1) (by kernel_rfl) mW (fun _=>rfl) (.nil _)))))))) (fun _=>rfl)).map
  (fun z=>⟨z.1,z.2.1,z.2.2.1,z.2.2.2.1,z.2.2.2.2.1,z.2.2.2.2.2.1,z.2.2.2.2.2.2.1⟩) _ _ (fun z h=>⟨h.1,rfl⟩)
theorem Jh:cK prog W enc 185 Dr.av (fun d=>d.name.size<=281474976710656) :=
 (mU (n := 2) Tryz.underlying185 (by kernel_rfl) (.cons rfl (n := 1) (by kernel_rfl) rA (fun _ => rfl) (.cons rfl (n := 1) (by kernel_rfl) mW (fun _ => rfl) (.nil _))) (fun _ => rfl)).map
  (fun z=>⟨z.1,z.2.1⟩) _ _ (fun z h=>⟨h.1,rfl⟩)
abbrev Nn(l:Li):List AV:=[.v (.string l.name),.lst 2 (l.bo.map Bd.av),.lst 7 (l.jo.map Jt.av),.lst 2 (l.dv.map Dr.av)]
theorem U5:cK prog W enc 26 (fun l:Li=>.agg (Nn l)) Li.okw :=
 (mU (n := 4) Tryz.underlying26 (by kernel_rfl)
  (.cons rfl (n := 1) (by kernel_rfl) rA (fun _ => rfl)
   (.cons rfl (n := 1) (by kernel_rfl) (tl Tryz.underlying22 (n := 2) (by kernel_rfl) oz (by kernel_rfl) QO (fun _ => rfl)) (fun _ => rfl)
    (.cons rfl (n := 1) (by kernel_rfl) (tl Tryz.underlying23 (n := 7) (by kernel_rfl) oz (by kernel_rfl) IC (fun _ => rfl)) (fun _ => rfl)
     (.cons rfl (n:=1) (by kernel_rfl) (tl Tryz.underlying24 (n:=2) (by kernel_rfl) oz (by kernel_rfl) Jh (fun _=>rfl)) (fun _=>rfl) (.nil _))))) (fun _=>rfl)).map
  (fun z=>⟨z.1,z.2.1,z.2.2.1,z.2.2.2.1⟩) _ _ (fun z h=>⟨⟨h.1,h.2.1.1,h.2.2.1.1,h.2.2.2.1.1,h.2.1.2,h.2.2.1.2,h.2.2.2.1.2⟩,rfl⟩)
end
open Go.Proofs Go.Proofs.YtpdiojikejnehaaGreat
open Go.ChangeShapes Go.WideShapes Go.ChangeAt Go.RowKit
theorem own:ownKnob prog.godebug=none:=by kernel_rfl
theorem DM:laidOutB prog=true:=by kernel_rfl
theorem Rz:prog.stopsHeard=true:=by kernel_rfl
theorem Pw:prog.plainKeys=true:=by kernel_rfl
theorem L9:mapsRowed prog=true:=by kernel_rfl
theorem I9:prog.mayEnter=true:=by kernel_rfl
theorem Ou:prog.liftsFinal=false:=by kernel_rfl
theorem UM{v:Value}(h:∀cs,v≠.agg cs):v.cells=#[v]:=by
 cases v <;> first |rfl |exact absurd rfl (h _)
theorem Qf{P:Program}{W:World}{r:Reach}{b0:Nat}{t e:TypeId}{v:Value}(ht:P.underlying t=some (.slice e))(hval:Value.okWide P W r b0 t v):v.cells=#[v]:=by
 refine UM (fun cs h=>?_);subst h;unfold Value.okWide at hval;rw[ht]at hval;unfold Cell.okWide at hval;rw[ht]at hval;unfold Cell.ok at hval;rw[ht]at hval;exact hval
theorem wK{H:Type}{enc:TypeId×Value->H}{W W':World}{t:TypeId}{v:Value}{d:DataW H}{ps:List MemPlace}{sp':Nat->Bool}(hr:prog.readableRec t=true)(ht:t<prog.types.size)
  (h:DataW.Trod enc prog W 0 (fun _=>true) true t v d ps) (hb:Below W.heap.size W W') (hlt:∀x∈ps,x.block<W.heap.size) (hs:∀p∈ps,sp' p.block=true):DataW.Trod enc prog W' 0 sp' true t v d ps :=
 WideElems.Trod_stays DM hr ht h (fun x hx=>hb.same (hlt x hx)) hs
end Go.Lw
namespace Go.Lw
open Go.Proofs
theorem Ic(m:List Nat)(hm:Ws m)(hl:m.length<=eU):FP 326 [ws m] (bl (!decide (m=[])&&(⟨false,m⟩:Wh).valid)):=by
 refine ai func326 ?_;refine gl ?_;refine cF ?_;refine m8 (fun h=>(iK (by simp[aa]at h;omega) (by unfold eU at hl;unfold aR;exact le_trans hl oz))) ?_;refine lO (fun h=>(bT (i:=m.length-1) (by simp[aa]at h;omega))) ?_;refine af ?_
 by_cases h:m=[]
 ·subst h;rfl
 ·have h1:0 < m.length:=List.length_pos_iff.2 h;have h2:aa .gtr (m.length:Int) 0 = true:=by simp [aa,h1]
  simp only[bl,h,decide_false,Bool.not_false,Bool.true_and,Wh.valid,List.getLast?_eq_getElem?,iS (show m.length-1<m.length by omega),aa];congr 2;generalize ah m _=x;rw[Bool.eq_iff_iff];simp[h1]
theorem AK:FP 189 [] (zA 1):=by
 refine ai func189 ?_;refine gc (DY 1 oz) ?_;refine af ?_
 first |rfl |(simp;done)
theorem Av(r:Rt)(h:r.ok):FP 236 [r.av] (bl r.valid):=by
 have hr:=h;have hn:=h.n0;have hd:=h.d0;have hl1:r.num.length<=137438953472:=h.2.2.1;have hl2:r.den.length<=137438953472:=h.2.2.2;refine ai func236 ?_;refine gl ?_;refine cF ?_;refine gC (fun t12=>?_) (fun t12=>?_)
 ·have h0 : r.num = [] /\ r.den = [] := by simpa [aa] using t12
  refine af ?_;unfold Rt.valid;rw[if_pos h0];rfl
 have h0:¬(r.num=[]/\r.den=[]):=by
  have:=t12;simp[aa]at this;exact fun h=>this h.1 h.2
 refine gc (Ic r.num hr.1 hr.2.2.1) ?_;refine bM (fun _=>(Ic r.den hr.2.1 hr.2.2.2)) ?_;refine bM (fun _=>(Hk r.n0 r.d0 hn hd (by show r.num.length+r.den.length<_;unfold aw;omega))) ?_;refine bM (fun _=>AK) ?_;refine bM (fun _=>(Qe (Rt.gcd_zs hr) tP)) ?_;refine af ?_;exact congrArg bl (JF h0).symm
theorem vE(r:Rt)(h:r.ok):FP 220 [r.av] (.tup [zA r.q.num,zA r.q.den]):=by
 have hl1:r.num.length<=137438953472:=h.2.2.1;have hl2:r.den.length<=137438953472:=h.2.2.2;refine ai func220 ?_;refine gc (Av r h) ?_;refine cF ?_;refine gC (fun t12=>?_) (fun t12=>?_)
 ·have h0:¬(r.valid=true/\r.num≠[]):=by
   have:=t12;intro h';simp[aa,h'.1,h'.2]at this
  refine gc AK ?_;refine gR ?_;exact dV (by rw[Rt.zero h0];exact Sub.tup (.cons GR (.cons (.refl _) .nil)))
 have h0:r.valid=true/\r.num≠[]:=by
  have:=t12;cases hv:r.valid
  ·rw[hv]at this;cases this
  ·rw[hv]at this;exact⟨rfl,by simpa[aa]using this⟩
 obtain⟨e1,e2,e3,e4,e5,e6⟩:=Rt.parts h h0.1 h0.2;refine gD ?_;refine bh ?_;rw[e1,e2];exact Dd e3 e4 e5
theorem zj{n d:Int}(hn:Zs n)(hd:Zs d)(h0:d≠0):FP 187 [zA n,zA d] (qA (Rat.divInt n d)):=by
 refine ai func187 ?_;refine gc (zY hn) ?_;refine gC (fun t14=>?_) (fun t14=>?_)
 ·have e0 : n=0 := Int.sign_eq_zero_iff_zero.1 (by simpa[aa]using t14);refine gR ?_;exact j8 (by rw[e0,Rat.zero_divInt];exact ja)
 have e0:n≠0:=fun h=>by rw[h]at t14;cases t14
 refine gc (zY hd) ?_;refine xX [2,3,4] [4] (fun(n1 d1:Int)=>[]) (fun n1 d1=>[(2,some (.box (zA n1).cells)),(3,some (.box (zA d1).cells))]) (fun n1 d1=>0<d1/\n1≠0/\Zs n1/\Zs d1/\Rat.divInt n1 d1=Rat.divInt n d) ?_ ?_
 ·intro K1 J1;refine gC (fun t18=>?_) (fun t18=>?_)
  ·have e1 : d<0 := Int.sign_eq_neg_one_iff_neg.1 (by have := Int.sign_trichotomy d;have h9 : d.sign<0 := (by simpa[aa]using t18);omega);refine gc (AJ hn) ?_;refine gc (AJ hd) ?_;refine gD ?_;exact ph J1 (-n) (-d) ⟨by omega,by omega,hn.neg,hd.neg,BY n d⟩
  have e1:0<d:=by
   have h9:0<=d.sign:=by simpa[aa]using t18
   have:=Int.sign_nonneg_iff.1 h9;omega
  exact ph J1 n d ⟨e1,e0,hn,hd,rfl⟩
 rintro n1 d1 ⟨f1,f2,f3,f4,f5⟩;have g2:Zs (Int.gcd n1 d1:Int):=f3.of_le (by rw[natAbs_natCast];exact Nat.le_of_dvd oz (Int.gcd_dvd_natAbs_left _ _));have g3:(Int.gcd n1 d1:Int)≠0:=by have:=Int.gcd_pos_of_ne_zero_left d1 f2;omega
 refine gc (Me f3 f4) ?_;refine gc (Er f3 g2 g3) ?_;refine gc (Er f4 g2 g3) ?_;refine af ?_;rw[<- f5,<- SC f1 f2];rfl
theorem yM(n:Int)(h:-9223372036854775808<=n/\n<=9223372036854775807):FP 88 [i64 n] (qA n):=by
 have hz:Zs n:=⟨2,by omega,by unfold Lz;simp only[Nat.reducePow];omega⟩
 refine ai func88 ?_;refine gc (DY n h) ?_;refine gc AK ?_;refine gc (zj hz tP oz) ?_;refine af ?_;exact congrArg qA (Rat.num_divInt_den (n:Rat))
theorem RH(a:Rt)(ha:a.ok):FP 222 [a.av] (qA (-a.q)):=by
 have za:=ha.qs;refine ai func222 ?_;refine gc (vE a ha) ?_;refine gc (AJ za.num) ?_;refine gc (zj za.num.neg za.den (by have:=a.q.den_nz;omega)) ?_;refine gD ?_;refine af ?_;rw[CS];rfl
theorem Fl(a:Rt)(ha:a.ok):FP 107 [a.av] (i64 (bA a.q)):=by
 refine ai func107 ?_;refine gc (vE a ha) ?_;refine gc (zY ha.qs.num) ?_;refine af ?_;rw[BQ]
theorem Ga(a b:Rt)(ha:a.ok)(hb:b.ok):FP 139 [a.av,b.av] (qA (a.q+b.q)):=by
 have za:=ha.qs;have zb:=hb.qs;have m1:=za.mul zb;have m2:=zb.mul za;refine ai func139 ?_;refine gc (vE a ha) ?_;refine gc (vE b hb) ?_;refine gc (yr za.num zb.den) ?_;refine gc (yr zb.num za.den) ?_;refine gc (Rd m1.1 m2.1) ?_;refine gc (yr za.den zb.den) ?_;refine gc (zj (za.cross zb) m1.2.2.1 (Int.mul_ne_zero (by have:=a.q.den_nz;omega) (by have:=b.q.den_nz;omega))) ?_;refine gD ?_;refine af ?_;rw[A4];rfl
theorem KU(a b:Rt)(ha:a.ok)(hb:b.ok):FP 108 [a.av,b.av] (qA (a.q-b.q)):=by
 refine ai func108 ?_;refine gc (RH b hb) ?_;refine gc (Ga a (rt (-b.q)) ha hb.qs.neg.ok) ?_;refine gD ?_;refine af ?_;rw[bZ,<- Rat.sub_eq_add_neg];rfl
theorem ye(a b:Rt)(ha:a.ok)(hb:b.ok)(hs:Qs (a.q-b.q)):FP 38 [a.av,b.av] (i64 (bA (a.q-b.q))):=by
 refine ai func38 ?_;refine gc (KU a b ha hb) ?_;refine gc (Fl (rt (a.q-b.q)) hs.ok) ?_;refine af ?_;rw[bZ]
end Go.Lw
