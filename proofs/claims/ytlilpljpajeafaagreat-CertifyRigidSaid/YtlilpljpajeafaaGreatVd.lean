/- CertifyRigid: for any linkage, any turns and any three places the law returns true and leaves its arguments as they were. No other condition. Part 4 of 8: what the later parts need -/
import Derived.Test.YtlilpljpajeafaaGreatVc
set_option linter.unusedVariables false
open List (mem_of_getElem? mem_cons_of_mem mem_append map_cons mem_cons all_cons length_cons mem_cons_self length_append length_nil getD_eq_getElem?_getD getElem?_eq_none all_eq_true getElem?_take getElem?_map getElem?_eq_getElem drop_eq_nil_of_le nil_append getElem?_replicate map_append length_take take_of_length_le drop_zero take_length not_mem_nil length_map drop_drop map_take length_replicate map_replicate map_set length_set)
open Nat (le_refl lt_of_lt_of_le lt_or_ge le_trans mul_le_mul_right mul_le_mul_left zero_le pow_add lt_of_le_of_lt)
open Option (map_eq_some_iff)
open Bool (and_eq_true or_eq_true)
open Int (toNat_natCast natAbs_natCast)
open Go.Proofs.Tryz
namespace Go.Lw
open Go.Proofs
theorem Ox{b:Nat}{p:Prop}[Decidable p](h:b=1↔p):dP [AV.v (Value.bool (aa BinOp.eql (b:Int) 1))]=bl (decide p):=by
 have:((b:Int)==1)=decide (b=1):=by rw[Bool.eq_iff_iff];simp;omega
 simp only[dP,aa,this,bl];rw[decide_eq_decide.2 h]
theorem SR(u v:List Nat)(off len n:Nat)(hu:Ws u)(hv:Ws v)(hvl:v.length+1<=len)(hj:off+len<=u.length)(hn:n<4294967296)(lu:u.length<=aS) :
  Con prog 399 [.ms 1000 1 off len,ws v,u64 n] [(1000,some (.row 1 (u.map u32)))] (bl (decide (val (bh u off len)<n*val v)))
   [(1000,some (.row 1 ((wr u off (a7 len (j9 n (val v) (val (bh u off len)) len))).map u32)))]:=by
 unfold aS at lu;refine gF func399 (fun k z h=>br h) ?_;refine HA [1,2,12] [] (fun(o:List Nat)(c b lo i:Nat)=>[(0,some (.ms 1000 1 off len)),(7,some (u64 c)),(8,some (u64 b)),(13,some (i64 i))]) (fun o _ _ _ _=>[(1000,some (.row 1 (o.map u32)))]) (fun o c b lo i=>o.length=u.length/\i<=len/\Ws o/\c<4294967296/\b<=1/\o.take off=u.take off/\o.drop (off+i)=u.drop (off+i)/\lo+c*4294967296^i=n*val (v.take i)/\val (bh o off i)+lo=val (bh u off i)+b*4294967296^i) (fun _ _ _ _ i=>len-i) u 0 0 0 0 ⟨rfl,by omega,hu,by omega,by omega,rfl,rfl,by simp[val],by simp[]⟩ ?_
 rintro o c b lo i ⟨ho,hi,hw,hc,hb,hd1,hd2,hv1,hv2⟩ K1 J1;refine gC (fun t14=>?_) (fun t14=>?_)
 ·have hin : i < len := by simpa [aa] using t14
  have h1:=bO hu (off+i);have h2:=bO hv i;have h0:=pO hd2;have h4:=v5 hn h2;obtain⟨c1,hc1⟩:∃c1,c1=c+n*af v i:=⟨_,rfl⟩
  have h3:=C8 h1 (show c1%4294967296<4294967296 by omega) hb hv2;obtain⟨d,hd⟩:∃d,d=if c1%4294967296+b<=af u (off+i)then af u (off+i)-c1%4294967296-b else af u (off+i)+18446744073709551616-c1%4294967296-b:=⟨_,rfl⟩
  rw[<- hd]at h3;have hd3:d<18446744073709551616:=by rw[hd];split <;> omega
  have h5:=Lo (w:=af v i) hv1;refine gc (by apply pg <;> assumption) ?_;refine ga (wD oz) ?_;refine ga ((iM oz).trans (by rw[<- hc1])) ?_;refine gs (mG (n:=i) (.tmp rfl) (.tmp rfl) T43 rfl T349 rfl oz (by first |omega |(simp;omega)) rfl) ?_;refine gs (dX (.tmp rfl) rfl (by rw[b7 (show off+i<o.length by omega),h0]) T349 rfl rfl rfl) ?_;refine gv (u64_in oz) ?_;refine gv (dI _) ?_;refine gv (u64_in oz) ?_;refine ga (kl oz oz) ?_;refine ga (show _=(d:Int) by rw[kl (by split <;> omega) oz,hd];congr 1;(repeat' split) <;> omega) ?_;refine gv (dI _) ?_;refine gs (mG (n:=i) (.tmp rfl) (.tmp rfl) T43 rfl T349 rfl oz (by first |omega |(simp;omega)) rfl) ?_;refine gs (dG (.tmp rfl) rfl (b7 (i:=off+i) oz) rfl (.tmp rfl) rfl rfl T349 rfl rfl) ?_;refine gs (eK (.tmp rfl) (.const _) oz (gf _ 63 oz) rfl) ?_;refine gs (eK (.tmp rfl) (.const _) oz (gf _ 32 oz) rfl) ?_;refine ga (c9 oz) ?_;exact IL J1 (o.set (off+i) (d%4294967296)) (c1/4294967296) (d/2^63) (lo+4294967296^i*(c1%4294967296)) (i+1) ⟨by simp[ho],by omega,fO hw oz,by omega,by omega,by rw[List.take_set_of_le oz];exact hd1,r4 hd2,by rw[dk,Nat.pow_succ,hc1];exact h5,by rw[CS oz,DL,Nat.pow_succ];exact h3⟩ (hw:=Wk.of aV (.cons rfl (BlkSub.of (by rw[map_set];rfl)) .nil))
 have hin:i=len:=by have:len<=i:=(by simpa[aa]using t14);omega
 subst hin;obtain⟨h6,h7⟩:=PV hu hw ho hj hv hvl hn hd1 hd2 hb hv1 hv2;refine gR ?_;exact aq.own2 rfl (by rw[<- h6]) (Ox h7)
theorem P8(u v:List Nat)(off len:Nat)(hu:Ws u)(hv:Ws v)(hvl:v.length<=len)(hj:off+len<=u.length)(lu:u.length<=aS) :
  Con prog 400 [.ms 1000 1 off len,ws v] [(1000,some (.row 1 (u.map u32)))] (.tup [])
   [(1000,some (.row 1 ((wr u off (a7 len ((val (bh u off len)+val v)%4294967296^len))).map u32)))]:=by
 unfold aS at lu;refine gF func400 (fun k z h=>br h) ?_;refine iR [1,7] [] (fun(o:List Nat)(c i:Nat)=>[(0,some (.ms 1000 1 off len)),(4,some (u64 c)),(8,some (i64 i))]) (fun o _ _=>[(1000,some (.row 1 (o.map u32)))]) (fun o c i=>o.length=u.length/\i<=len/\Ws o/\c<=1/\o.take off=u.take off/\o.drop (off+i)=u.drop (off+i)/\val (bh o off i)+c*4294967296^i=val (bh u off i)+val (v.take i)) (fun _ _ i=>len-i) u 0 0 ⟨rfl,by omega,hu,by omega,rfl,rfl,by simp[val]⟩ ?_
 rintro o c i ⟨ho,hi,hw,hc,hd1,hd2,hv2⟩ K1 J1;refine gC (fun t9=>?_) (fun t9=>?_)
 ·have hin : i < len := by simpa [aa] using t9
  have h1:=bO hu (off+i);have h2:=bO hv i;have h0:=pO hd2;have h3:=zW (u:=af u (off+i)) (w:=af v i) hv2;refine gs (mG (n:=i) (.tmp rfl) (.tmp rfl) T43 rfl T349 rfl oz (by first |omega |(simp;omega)) rfl) ?_;refine gs (dX (.tmp rfl) rfl (by rw[b7 (show off+i<o.length by omega),h0]) T349 rfl rfl rfl) ?_;refine gv (u64_in oz) ?_;refine gc (by apply pg <;> assumption) ?_;refine ga (iM oz) ?_;refine ga (iM oz) ?_;refine gD ?_;refine gv (dI _) ?_;refine gs (mG (n:=i) (.tmp rfl) (.tmp rfl) T43 rfl T349 rfl oz (by first |omega |(simp;omega)) rfl) ?_;refine gs (dG (.tmp rfl) rfl (b7 (i:=off+i) oz) rfl (.tmp rfl) rfl rfl T349 rfl rfl) ?_;refine gs (eK (.tmp rfl) (.const _) oz (gf _ 32 oz) rfl) ?_;refine ga (c9 oz) ?_;exact gP J1 (o.set (off+i) ((c+(af u (off+i)+af v i))%4294967296)) ((c+(af u (off+i)+af v i))/4294967296) (i+1) ⟨by simp[ho],by omega,fO hw oz,by omega,by rw[List.take_set_of_le oz];exact hd1,r4 hd2,by rw[CS oz,DL,dk,Nat.pow_succ];exact h3⟩ (hw:=Wk.of aV (.cons rfl (BlkSub.of (by rw[map_set];rfl)) .nil))
 have hin:i=len:=by have:len<=i:=(by simpa[aa]using t9);omega
 subst hin;have h6:=RX hw ho hj hvl hd1 hd2 hv2;refine gR ?_;exact aq.own2 rfl (by rw[<- h6]) rfl
theorem RL(x:Nat)(hx:x<4294967296):FP 346 [u32 x] (i64 (aX x)):=by
 refine ah func346 ?_;refine gC (fun t4=>?_) (fun t4=>?_)
 ·obtain ⟨y, hy, h2, h3⟩ : ∃ y, y = x / 2 ^ 16 /\ y < 65536 /\ aX x = 16 + aX y := ⟨_, rfl, by omega, si (by have := t4; simp [aa] at this; omega)⟩
  refine gs (eK (.tmp rfl) (.const _) oz ((pH x 16 oz).trans (by rw[<- hy])) rfl) ?_;refine gC (fun t8=>?_) (fun t8=>?_)
  ·have h5 : 2 ^ 8 <= y := by simp [aa] at t8; omega
   obtain⟨z,hz,h6,h7⟩:∃z,z=y/2^8/\z<256/\aX x=(aX x-aX y)+8+aX z:=⟨_,rfl,by omega,by have:=si h5;omega⟩
   refine gs (eK (.tmp rfl) (.const _) oz ((pH _ 8 oz).trans (show _=(z:Int) by first |(rw[hz];done) |(rw[hz,hy];done))) rfl) ?_;refine ga (c9 oz) ?_;refine gv (show IntKind.u8.wrap _=(z:Int) by first |exact jl h6 |(rw[hz];exact jl oz) |(rw[hz,hy];exact jl oz)) ?_;refine gs (tf (y:=z) (.const _) (.tmp rfl) T9 rfl (by kernel_rfl) (by first |rfl |omega) oz rfl) ?_;refine gv (i64_in (by have:=iP h6;omega)) ?_;refine ga (c9 (by have:=iP h6;omega)) ?_;refine ae ?_;simp only[i64];congr 2;have:=iP h6;omega
  have h5:y<2^8:=by simp[aa]at t8;omega
  obtain⟨z,hz,h6,h7⟩:∃z,z=y/\z<256/\aX x=(aX x-aX y)+aX z:=⟨_,rfl,by omega,by omega⟩
  refine gv (show IntKind.u8.wrap _=(z:Int) by first |exact jl h6 |(rw[hz];exact jl oz) |(rw[hz,hy];exact jl oz)) ?_;refine gs (tf (y:=z) (.const _) (.tmp rfl) T9 rfl (by kernel_rfl) (by first |rfl |omega) oz rfl) ?_;refine gv (i64_in (by have:=iP h6;omega)) ?_;refine ga (c9 (by have:=iP h6;omega)) ?_;refine ae ?_;simp only[i64];congr 2;have:=iP h6;omega
 obtain⟨y,hy,h2,h3⟩:∃y,y=x/\y<65536/\aX x=0+aX y:=⟨_,rfl,by have:=t4;simp[aa]at this;omega,by omega⟩
 refine gC (fun t8=>?_) (fun t8=>?_)
 ·have h5 : 2 ^ 8 <= y := by simp [aa] at t8; omega
  obtain⟨z,hz,h6,h7⟩:∃z,z=y/2^8/\z<256/\aX x=(aX x-aX y)+8+aX z:=⟨_,rfl,by omega,by have:=si h5;omega⟩
  refine gs (eK (.tmp rfl) (.const _) oz ((pH _ 8 oz).trans (show _=(z:Int) by first |(rw[hz];done) |(rw[hz,hy];done))) rfl) ?_;refine ga (c9 oz) ?_;refine gv (show IntKind.u8.wrap _=(z:Int) by first |exact jl h6 |(rw[hz];exact jl oz) |(rw[hz,hy];exact jl oz)) ?_;refine gs (tf (y:=z) (.const _) (.tmp rfl) T9 rfl (by kernel_rfl) (by first |rfl |omega) oz rfl) ?_;refine gv (i64_in (by have:=iP h6;omega)) ?_;refine ga (c9 (by have:=iP h6;omega)) ?_;refine ae ?_;simp only[i64];congr 2;have:=iP h6;omega
 have h5:y<2^8:=by simp[aa]at t8;omega
 obtain⟨z,hz,h6,h7⟩:∃z,z=y/\z<256/\aX x=(aX x-aX y)+aX z:=⟨_,rfl,by omega,by omega⟩
 refine gv (show IntKind.u8.wrap _=(z:Int) by first |exact jl h6 |(rw[hz];exact jl oz) |(rw[hz,hy];exact jl oz)) ?_;refine gs (tf (y:=z) (.const _) (.tmp rfl) T9 rfl (by kernel_rfl) (by first |rfl |omega) oz rfl) ?_;refine gv (i64_in (by have:=iP h6;omega)) ?_;refine ga (c9 (by have:=iP h6;omega)) ?_;refine ae ?_;simp only[i64];congr 2;have:=iP h6;omega
theorem Sn(x:Nat)(hx:x<4294967296):FP 397 [u32 x] (i64 (32-aX x:Nat)):=by
 have h1:aX x<=32:=by
  by_cases h:x=0
  ·subst h;decide
  ·exact(y8 h hx).1
 refine ah func397 ?_;refine gc (RL x hx) ?_;refine ga (i64_in (by simp only[fF];omega)) ?_;refine ae ?_;simp only[i64,fF];congr 2;omega
theorem Ch(a b:List Nat)(ha:Ws a)(hb:Ws b)(na:Nz a)(nb:Nz b)(hb0:b≠[])(la:a.length<aw)(lb:b.length<aw) :
  FP 374 [ws a,ws b] (.tup [ws (ofNat (val a/val b)),ws (ofNat (val a%val b))]):=by
 have la':=la;unfold aw at la lb;refine ah func374 ?_;refine gc (zY a b ha hb na nb) ?_;refine gC (fun t22=>?_) (fun t22=>?_)
 ·have h1:val a<val b:=by
   simp only[aa]at t22;split at t22
   ·assumption
   ·split at t22 <;> simp at t22
  refine gc (lP a ha oz) ?_;refine gR ?_;exact Qn (by rw[Nat.div_eq_of_lt h1];exact Sub.nil _ _ _) (by rw[Nat.mod_eq_of_lt h1];exact Sub.refl _)
 have h1:val b<=val a:=by
  simp only[aa]at t22;split at t22
  ·simp at t22
  ·omega
 refine gl ?_;refine gC (fun t27=>?_) (fun t27=>?_)
 ·have hl : b.length = 1 := by have := t27; simp [aa] at this; omega
  obtain⟨x,rfl⟩:∃x,b=[x]:=List.length_eq_one_iff.1 hl;have hx:x≠0:=nb x rfl;have hxB:x<4294967296:=hb x (by simp);have hv:val [x]=x:=by simp[val]
  have hm:=Nat.mod_lt (val a) (show 0<x by omega);refine gi (show _=some (u32 x)from rfl) ?_;refine gc (N4 a x ha oz oz hxB) ?_;refine gc (lP [val a%x] (rI oz) (by simp[aw])) ?_;refine ba ?_;rw[hv];simp[val]
 have hl:b.length≠1:=by have:=t27;simp[aa]at this;omega
 obtain⟨n,hn⟩:∃n,b.length=n+2:=⟨b.length-2,by have:=List.length_pos_iff.2 hb0;omega⟩
 obtain⟨sh,v,hsh,hsh2,hv,wv,lv,vv,hvt,htop,hlo⟩:=US hb nb hn
 have hab:b.length<=a.length:=by
  rcases lt_or_ge a.length b.length with h2 |h2
  ·have:=tB ha nb h2;omega
  ·exact h2
 obtain⟨lq,hlq⟩:∃lq,a.length+1=lq+(n+2):=⟨a.length+1-(n+2),by omega⟩
 have hbt:=bO hb (n+1);refine gl ?_;refine ga (show _=((n+1:Nat):Int) by rw[dD oz];omega) ?_;refine gi (gy (n:=n+1) oz (by first |omega |(simp;omega))) ?_;refine gc (show iH _ _ _ (i64 (sh:Nat)) by rw[hsh];exact Sn _ hbt) ?_;refine gt (ay (GX 900 rfl b sh hb (by unfold aw;omega) hsh2) (bm rfl rfl) az rfl rfl) ?_;refine gl ?_;refine gs (vK (.tmp rfl) (.none _) (.some _ (.tmp rfl) oz) T43 rfl T349 rfl oz oz rfl) ?_;refine gt (ay (GX 901 rfl a sh ha (by unfold aw;omega) hsh2) (bm rfl rfl) az rfl rfl) ?_;refine gD ?_ (8,0);refine gW ((Wk.freeze (k:=900) rfl).trans<|Wk.of (sl:=[(0,some (ws a)),(1,some (ws b)),(8,some (i64 sh)),(9,some (ws v)),(10,some (.ms 901 1 0 (a.length+1)))]) (hp:=[(901,some (.row 1 ((a7 (a.length+1) (2^sh*val a)).map u32)))]) (.k (.k (.k (.cons rfl (Sub.of (UE hn hv)) (.k .nil))))) (.k .nil)) ?_;refine gl ?_;refine ga (show _=(lq:Int) by rw[lv,dD oz];omega) ?_;refine gs (gS (.tmp rfl) T43 rfl T349 rfl rfl oz (by dsimp only;omega) rfl) ?_;refine gl ?_;refine ga (show _=((n+1:Nat):Int) by rw[lv,dD oz];omega) ?_;refine gi (gy (n:=n+1) oz (by first |omega |(simp;omega))) ?_;refine gv (u64_in (by have:=bO wv (n+1);omega)) ?_;refine gl ?_;refine ga (show _=(n:Int) by rw[lv,dD oz];omega) ?_;refine gi (gy (n:=n) oz (by first |omega |(simp;omega))) ?_;refine gv (u64_in (by have:=bO wv n;omega)) ?_;refine gD ?_;refine ga (dD oz) ?_;refine iR [8,9,12,13] [] (fun(q u:List Nat)(j:Nat)=>[(10,some (.ms 901 1 0 (a.length+1))),(11,some (.ms 61 1 0 lq)),(14,some (i64 ((j:Int)-1)))]) (fun q u _=>[(901,some (.row 1 (u.map u32))),(61,some (.row 1 (q.map u32)))]) (fun q u j=>q.length=lq/\u.length=a.length+1/\Ws q/\Ws u/\j<=lq/\val (u.drop j)<val v/\2^sh*val a=val v*(4294967296^j*val (q.drop j))+val u) (fun _ _ j=>j) (List.replicate lq 0) (a7 (a.length+1) (2^sh*val a)) lq ⟨by simp,fc _ _,lL _,jL _ _,le_refl _,by rw[vv];exact(EA ha hsh2 hlq hlo).2,by rw[(EA ha hsh2 hlq hlo).1];simp[val]⟩ ?_ (h2:=(.k (.cons rfl (BlkSub.of (by rw[map_replicate];rfl)) .nil)))
 rintro q u j ⟨hql,hul,wq,wu,hj,hlt,hU⟩ K1 J1;refine gC (fun t80=>?_) (fun t80=>?_) (st2:=(23,0))
 ·have hj0 : 1 <= j := by have := t80; simp [aa] at this; omega
  obtain⟨k,rfl⟩:∃k,j=k+1:=⟨j-1,by omega⟩
  obtain⟨W,hW⟩:∃W,W=val (bh u k (n+3)):=⟨_,rfl⟩
  have hVl:val v<4294967296^(n+2):=by have:=bW v wv;rwa [lv]at this
  obtain⟨e1,e2,e3⟩:=R3 (u:=u) (q:=q) (k:=k) (lv:=n+2) wu oz oz hVl hlt hU;simp only[show n+2+1=n+3 from rfl]at e1 e2 e3;have hdig:=OS wv (mW wu k (n+3)) lv (ow oz) hvt e1;rw[<- hW]at e1 e2 e3 hdig;have wp:=mW wu k (n+3);have b1:=bO wp n;have b2:=bO wp (n+1);have b3:=bO wp (n+2);have b4:=hdig.htop;have b5:=hdig.htopB;have b6:=hdig.hnext;obtain⟨top,htop'⟩:∃top,top=af v (n+1):=⟨_,rfl⟩
  obtain⟨nx,hnx⟩:∃nx,nx=af v n:=⟨_,rfl⟩
  obtain⟨hd,hhd⟩:∃hd,hd=af (bh u k (n+3)) (n+2)*4294967296+af (bh u k (n+3)) (n+1):=⟨_,rfl⟩
  obtain⟨th,hth⟩:∃th,th=af (bh u k (n+3)) n:=⟨_,rfl⟩
  rw[<- htop',<- hnx,<- hhd,<- hth]at hdig;rw[<- htop']at b4 b5 ⊢;rw[<- hnx]at b6 ⊢;rw[<- hth]at b1;have hdB:hd<18446744073709551616:=by omega
  refine gl ?_;refine ga (show _=((k+n+2:Nat):Int) by rw[lv,c9 oz];omega) ?_;refine ga (show _=((k+n+3:Nat):Int) by rw[c9 oz];omega) ?_;refine gs (vK (.tmp rfl) (.some _ (.tmp rfl) oz) (.some _ (.tmp rfl) oz) T43 rfl T349 rfl oz oz rfl) ?_ (14,0);refine gW (Wk.of (sl:=[(8,some (i64 sh)),(9,some (ws v)),(10,some (.ms 901 1 0 (a.length+1))),(11,some (.ms 61 1 0 lq)),(12,some (u64 top)),(13,some (u64 nx)),(14,some (i64 k)),(15,some (.ms 901 1 k (n+3)))]) (hp:=[(901,some (.row 1 (u.map u32))),(61,some (.row 1 (q.map u32)))]) (.k (.k (.k (.k (.k (.k (.cons rfl (Sub.int oz) (.cons rfl (Sub.of (by congr 1 <;> omega)) .nil)))))))) (.k (.k .nil))) ?_
  refine gl ?_;refine gs (mG (n:=n+2) (.tmp rfl) (.tmp rfl) T43 rfl T349 rfl oz oz rfl) ?_;refine gs (dX (.tmp rfl) rfl (xr (n:=n+3) (i:=n+2) oz oz) T349 rfl rfl rfl) ?_;refine gv (u64_in oz) ?_;refine gs (gI (.tmp rfl) (.const _) oz (qr (n:=32) oz oz) rfl) ?_;refine gl ?_;refine ga (show _=((n+1:Nat):Int) by rw[lv,dD oz];omega) ?_;refine gs (mG (n:=n+1) (.tmp rfl) (.tmp rfl) T43 rfl T349 rfl oz oz rfl) ?_;refine gs (dX (.tmp rfl) rfl (xr (n:=n+3) (i:=n+1) oz oz) T349 rfl rfl rfl) ?_;refine gv (u64_in oz) ?_;refine gs (jp (.tmp rfl) (.tmp rfl) rfl ((sP oz oz).trans (show _=(hd:Int) by rw[s6 oz,hhd])) rfl) ?_;refine gD ?_;refine gs (eJ (.tmp rfl) (.tmp rfl) oz (B2 hdB) rfl) ?_;refine gs (nH (.tmp rfl) (.tmp rfl) oz HM rfl) ?_;refine gD ?_;refine gx [8,9,12,13,14] [901,61] (fun(g r:Nat)=>[(10,some (.ms 901 1 0 (a.length+1))),(11,some (.ms 61 1 0 lq)),(15,some (.ms 901 1 k (n+3))),(17,some (u64 g)),(18,some (u64 r))]) (fun _ _=>[]) (fun g r=>W/val v<=g/\g*top+r=hd/\g<18446744073709551616/\r<8589934592) (fun g _=>g) (hd/top) (hd%top) ⟨hdig.first,by rw[Nat.mul_comm];exact Nat.div_add_mod _ _,by have:=Nat.div_le_self hd top;omega,by have:=Nat.mod_lt hd (show 0<top by omega);omega⟩ ?_
  rintro g r ⟨hg,hgr,hgB,hrB⟩ K2 J2;refine oP (fun⟨h,h2⟩=>(wD (by simp[aa]at h2;have:=v5 (x:=g) (y:=nx) oz b6;omega))) ?_;refine gs (q6 rfl rfl rfl (fun h h2=>gI (.opt rfl (o2 h h2)) (.const _) oz (qr (n:=32) oz (by simp[aa]at h;omega)) rfl)) ?_;refine ci ?_;refine oP (fun _=>(show _=(n:Int) by rw[lv,dD oz];omega)) ?_;refine gs (q6 rfl rfl rfl (fun h h2=>mG (n:=n) (.opt rfl (o2 h h2)) (.opt rfl (o2 h h2)) T43 rfl T349 rfl oz oz rfl)) ?_;refine gs (q6 rfl rfl rfl (fun h h2=>dX (.opt rfl (o2 h h2)) rfl (xr (n:=n+3) (i:=n) oz oz) T349 rfl rfl rfl)) ?_;refine MB (fun _=>(u64_in oz)) ?_;refine gs (q6 rfl rfl rfl (fun h h2=>jp (.opt rfl (o2 h h2)) (.opt rfl (o2 h h2)) rfl ((sP (by simp[aa]at h;omega) oz).trans (by rw[s6 oz])) rfl)) ?_;refine gC (fun t133=>?_) (fun t133=>?_)
  ·have hc:r<4294967296/\(4294967296<=g\/r*4294967296+th<g*nx):=by
    rw[hth];have h9:=Gq.1 t133
    rwa [show r*2^32=r*4294967296 from rfl]at h9
   have hg1:=hdig.step hg hgr hc.2;have hg0:1<=g:=Nat.succ_le_of_lt (lt_of_le_of_lt (zero_le _) hg1);refine ga (Dw oz oz) ?_;refine ga (iM oz) ?_;exact fY J2 (g-1) (r+top) ⟨Nat.le_sub_one_of_lt hg1,by rw[Nat.sub_mul];have:=mul_le_mul_right top (show 1<=g by omega);omega,by omega,by omega⟩
  have hc:¬(r<4294967296/\(4294967296<=g\/r*4294967296+th<g*nx)):=by
   rw[hth];intro hh;rw[show r*4294967296=r*2^32 from rfl]at hh;exact Bool.eq_false_iff.1 t133 (Gq.2 hh)
  obtain⟨hgB2,hgq⟩:=hdig.last hgr hc;have hVp:=hdig.vpos;have hWl:val (bh u k (n+3))<4294967296^(n+3):=by have:=bW _ wp;rwa [ow oz]at this
  obtain⟨p1,p2⟩:=VT hVp (show val v<=4294967296^(n+3) by have:=Nat.pow_le_pow_right (show 0<4294967296 by omega) (show n+2<=n+3 by omega);omega) (hW▸hWl) hg hgq;have hwul:k+(n+3)<=u.length:=by omega
  have hwr:(wr u k (a7 (n+3) (j9 g (val v) W (n+3)))).length=a.length+1:=by rw[l8 (by rw[fc];omega),hul]
  refine gt (ay (Con.rk 901 rfl rfl (SR u v k (n+3) g wu wv oz hwul hgB2 (by unfold aS;omega))) (aA rfl rfl rfl) az rfl rfl) ?_;refine gC (fun t142=>?_) (fun t142=>?_)
  ·have hlt2 : W < g * val v := by rw [hW]; simpa using t142
   obtain⟨q1,q2,q3⟩:=p1 hlt2;have hrl:j9 g (val v) W (n+3)<4294967296^(n+3):=by unfold j9;rw[if_neg oz];rw[<- hW]at hWl;omega
   refine ga (Dw oz oz) ?_;refine gt (ay (Con.rk 901 rfl rfl (P8 (wr u k (a7 (n+3) (j9 g (val v) (val (bh u k (n+3))) (n+3)))) v k (n+3) (pF wu (jL _ _)) wv oz (by rw[<- hW,hwr];omega) (by rw[<- hW,hwr];unfold aS;omega))) (bm rfl rfl) az rfl rfl) ?_;refine gv ((dI _).trans (by rw[Nat.mod_eq_of_lt oz])) ?_;refine gs (bR (n:=k) (.tmp rfl) (.tmp rfl) T43 rfl T349 rfl oz oz rfl) ?_;refine gs (dG (.tmp rfl) rfl (b7 (i:=k) oz) rfl (.tmp rfl) rfl rfl T349 rfl rfl) ?_;refine ga (dD oz) ?_;exact gP J1 (q.set k (W/val v)) (wr u k (a7 (n+3) (W%val v))) k ⟨by simp[hql],by rw[l8 (by rw[fc];omega),hul],fO wq hdig.q_lt,pF wu (jL _ _),by omega,e2,e3⟩ (hw:=Wk.of aV (.cons rfl (BlkSub.of (by rw[<- hW];first |(rw[q1];done) |(rw[F8 (r:=W%val v) hwul (fc _ _) (by rw[lM _ _ hrl];exact q1)];done))) (.cons rfl (BlkSub.of (by rw[map_set,q2];rfl)) .nil)))
  have hlt2:¬W<g*val v:=by rw[hW];simpa using t142
  obtain⟨q1,q2⟩:=p2 hlt2;refine gv ((dI _).trans (by rw[Nat.mod_eq_of_lt oz])) ?_;refine gs (bR (n:=k) (.tmp rfl) (.tmp rfl) T43 rfl T349 rfl oz oz rfl) ?_;refine gs (dG (.tmp rfl) rfl (b7 (i:=k) oz) rfl (.tmp rfl) rfl rfl T349 rfl rfl) ?_;refine ga (dD oz) ?_;exact gP J1 (q.set k (W/val v)) (wr u k (a7 (n+3) (W%val v))) k ⟨by simp[hql],by rw[l8 (by rw[fc];omega),hul],fO wq hdig.q_lt,pF wu (jL _ _),by omega,e2,e3⟩ (hw:=Wk.of aV (.cons rfl (BlkSub.of (by rw[<- hW];first |(rw[q1];done) |(rw[F8 (r:=W%val v) hwul (fc _ _) (by rw[lM _ _ hrl];exact q1)];done))) (.cons rfl (BlkSub.of (by rw[map_set,q2];rfl)) .nil)))
 have hj0:j=0:=by have:=t80;simp[aa]at this;omega
 subst hj0;have hU':2^sh*val a=2^sh*val b*val q+val u:=by rw[<- vv];simpa using hU
 obtain⟨hQ,hR⟩:=Tk hU' (by rw[<- vv];simpa using hlt);refine gW ((Wk.freeze (k:=61) rfl).trans<|(Wk.freeze (k:=901) rfl).trans<|Wk.of (sl:=[(8,some (i64 sh)),(10,some (ws u)),(11,some (ws q))]) (hp:=[]) (.k (.cons rfl (Sub.of (bN (by simp[hul]))) (.cons rfl (Sub.of (by rw[show AV.fz 61 1 (q.map u32) (.ms 61 1 0 lq)=ws q from bN (by simp[hql])];rfl)) .nil))) .nil) ?_;refine gc (lP q wq (by unfold aw;omega)) ?_;refine gc (MN u sh wu (by unfold aw;omega) hsh2) ?_;refine ba ?_;rw[<- hQ,<- hR]
theorem uP{b:Bool}{n:Nat}:(cond b (aa .gtr ((ofNat n).length:Int) 0) false)=true↔(b=true/\0<n):=by
 have h:aa .gtr ((ofNat n).length:Int) 0=true↔0<n:=by
  simp only[aa,decide_eq_true_eq];constructor
  ·intro h;rcases Nat.eq_zero_or_pos n with h1 |h1;(subst h1;simp[L2]at h);exact h1
  ·intro h;have:ofNat n ≠ []:=by intro h1; have:=bZ n; rw [h1] at this; simp [val] at this; omega
   have:=List.length_pos_iff.2 this;omega
 cases b with
 |false=>simp
 |true=>exact⟨fun h1=>⟨rfl,h.1 h1⟩,fun h1=>h.2 h1.2⟩
theorem AC(a:Wh)(ha:a.ok):FP 320 [a.av] (i64 a.z.sign):=by
 obtain⟨e1,e2,e3⟩:=DE ha;refine ah func320 ?_;refine gc (jQ a ha) ?_;refine gl ?_;refine gC (fun t3=>?_) (fun t3=>?_)
 ·have h0 : a.m.length = 0 := by simpa [aa] using t3
  refine ae ?_;rw[e1 h0];rfl
 have h0:a.m.length≠0:=by simpa[aa]using t3
 refine gC (fun t8=>?_) (fun t8=>?_)
 ·refine ae ?_;rw[e2 h0 t8];rfl
 refine ae ?_;rw[e3 h0 t8];rfl
theorem Px(a b:Wh)(ha:a.ok)(hb:b.ok):FP 317 [a.av,b.av] (i64 (f8 a.z b.z)):=by
 refine ah func317 ?_;refine gc (AC a ha) ?_;refine gc (AC b hb) ?_;refine gD ?_;refine gC (fun t14=>?_) (fun t14=>?_)
 ·have h0 : a.z.sign ≠ b.z.sign := by simpa [aa] using t14
  obtain⟨e1,e2⟩:=TY h0;refine gC (fun t17=>?_) (fun t17=>?_)
  ·have h1 : a.z.sign < b.z.sign := by simpa [aa] using t17
   refine ae ?_;rw[e1 h1];rfl
  have h1:¬a.z.sign<b.z.sign:=by simpa[aa]using t17
  refine ae ?_;rw[e2 h1];rfl
 have h0:a.z.sign=b.z.sign:=by simpa[aa]using t14
 have e1:=KI h0;refine gc (jQ a ha) ?_;refine gc (jQ b hb) ?_;refine gc (zY a.m b.m (Wh.ws ha) (Wh.ws hb) a.nz b.nz) ?_;refine gD ?_;refine gc (iQ a ha) ?_;refine gC (fun t24=>?_) (fun t24=>?_)
 ·rw[t24,if_pos rfl]at e1;refine gs (zF (.tmp rfl) rfl) ?_;refine ae ?_;rw[e1];split
  ·rfl
  ·split <;> rfl
 rw[t24,if_neg Bool.false_ne_true]at e1;refine ae ?_
 first |(rw[e1];done) |(rw[e1];rfl)
theorem Qh(a:Wh)(ha:a.ok)(la:a.mag.length<aw):FP 350 [a.av] (zA (-a.z)):=by
 refine ah func350 ?_;refine gc (iQ a ha) ?_;refine gc (jQ a ha) ?_;refine gc (jX _ a.m (Wh.ws ha) (Nat.le_of_lt (Wh.small ha la))) ?_;refine gD ?_;refine ae ?_;rw[Wh.z_eq,<- I2];rfl
theorem Mm(a b:Wh)(ha:a.ok)(hb:b.ok)(la:a.mag.length+b.mag.length<=aw):FP 332 [a.av,b.av] (zA (a.z*b.z)):=by
 have h1:=Wh.m_le (w:=a);have h2:=Wh.m_le (w:=b);have h3:(ofNat (val a.m*val b.m)).length<=a.m.length+b.m.length:=eY (by rw[pow_add];exact Nat.mul_lt_mul'' (bW _ (Wh.ws ha)) (bW _ (Wh.ws hb)));refine ah func332 ?_;refine gc (iQ a ha) ?_;refine gc (iQ b hb) ?_;refine gc (jQ a ha) ?_;refine gc (jQ b hb) ?_;refine gc (RZ a.m b.m (Wh.ws ha) (Wh.ws hb) oz) ?_;refine gc (jX _ _ (de _) oz) ?_;refine gD ?_;refine ae ?_;rw[bZ,CP];rfl
theorem Kw(a b:Wh)(ha:a.ok)(hb:b.ok)(la:a.mag.length<aw)(lb:b.mag.length<aw):FP 331 [a.av,b.av] (zA (a.z+b.z)):=by
 have h1:=Wh.m_le (w:=a);have h2:=Wh.m_le (w:=b);have hla:val a.m<4294967296^(max a.m.length b.m.length):=lt_of_lt_of_le (bW _ (Wh.ws ha)) (Nat.pow_le_pow_right oz oz);have hlb:val b.m<4294967296^(max a.m.length b.m.length):=lt_of_lt_of_le (bW _ (Wh.ws hb)) (Nat.pow_le_pow_right oz oz);have h3:(ofNat (val a.m+val b.m)).length<=max a.m.length b.m.length+1:=eY (by rw[Nat.pow_succ];omega);have h4:(ofNat (val a.m-val b.m)).length<=max a.m.length b.m.length:=eY oz;have h5:(ofNat (val b.m-val a.m)).length<=max a.m.length b.m.length:=eY oz;refine ah func331 ?_;refine gc (jQ a ha) ?_;refine gc (jQ b hb) ?_;refine gD ?_;refine gc (iQ a ha) ?_;refine gc (iQ b hb) ?_;refine gD ?_;refine gC (fun t11=>?_) (fun t11=>?_)
 ·have h0 : a.n = b.n := by simpa using t11
  refine gc (iQ a ha) ?_;refine gc (CI a.m b.m (Wh.ws ha) (Wh.ws hb) oz oz) ?_;refine gc (jX _ _ (de _) oz) ?_;refine ae ?_;rw[bZ,CA h0];rfl
 have h0:a.n≠b.n:=by simpa using t11
 refine gc (zY a.m b.m (Wh.ws ha) (Wh.ws hb) a.nz b.nz) ?_;refine gC (fun t23=>?_) (fun t23=>?_)
 ·have h6:val b.m<=val a.m:=by
   rcases lt_or_ge (val a.m) (val b.m)with h |h
   ·rw[if_pos h]at t23;cases t23
   ·exact h
  refine gc (iQ a ha) ?_;refine gc (Be a.m b.m (Wh.ws ha) (Wh.ws hb) oz (by rcases lt_or_ge a.m.length b.m.length with h |h;(have:=tB (Wh.ws ha) b.nz h;omega);exact h) h6) ?_;refine gc (jX _ _ (de _) oz) ?_;refine ae ?_;rw[bZ,yn h0 h6];rfl
 have h6:val a.m<val b.m:=by
  rcases lt_or_ge (val a.m) (val b.m)with h |h
  ·exact h
  ·rw[if_neg oz]at t23;split at t23 <;> cases t23
 refine gc (iQ b hb) ?_;refine gc (Be b.m a.m (Wh.ws hb) (Wh.ws ha) oz (by rcases lt_or_ge b.m.length a.m.length with h |h;(have:=tB (Wh.ws hb) a.nz h;omega);exact h) oz) ?_;refine gc (jX _ _ (de _) oz) ?_;refine ae ?_;rw[bZ,DC h0 oz];rfl
theorem GR(a b:Wh)(ha:a.ok)(hb:b.ok)(la:a.mag.length<aw)(lb:b.mag.length<aw):FP 318 [a.av,b.av] (zA (Int.gcd a.z b.z)):=by
 refine ah func318 ?_;refine gc (jQ a ha) ?_;refine gc (jQ b hb) ?_;refine gD ?_;refine gx [4] [4] (fun(x y:List Nat)=>[(5,some (ws x)),(6,some (ws y))]) (fun _ _=>[]) (fun x y=>Ws x/\Ws y/\Nz x/\Nz y/\x.length<aw/\y.length<aw/\Nat.gcd (val x) (val y)=Int.gcd a.z b.z) (fun _ y=>val y) a.m b.m ⟨Wh.ws ha,Wh.ws hb,a.nz,b.nz,Wh.small ha la,Wh.small hb lb,by rw[Int.gcd,Wh.abs,Wh.abs]⟩ ?_;rintro x y ⟨wx,wy,nx,ny,lx,ly,hg⟩ K1 J1;refine gl ?_;refine gC (fun t15=>?_) (fun t15=>?_)
 ·have hy : y ≠ [] := by intro h; subst h; simp [aa] at t15
  have hy0:=nK ny hy;have hm:=Nat.mod_lt (val x) hy0;refine gc (Ch x y wx wy nx ny hy lx ly) ?_;exact fY J1 y (ofNat (val x%val y)) ⟨wy,de _,ny,pq _,ly,lt_of_le_of_lt (eY (Nat.lt_trans hm (bW y wy))) ly,by rw[bZ,<- hg,Nat.gcd_comm (val x) (val y),Nat.gcd_comm (val y) (val x%val y)];exact(Nat.gcd_rec _ _).symm⟩ (by show val (ofNat _)<val y;rw[bZ];exact hm)
 have hy:y=[]:=by
  cases y with
  |nil=>rfl
  |cons c l=>simp[aa]at t15
 subst hy;have hg':val x=Int.gcd a.z b.z:=by rw[<- hg];simp[val]
 refine gc (jX false x wx (Nat.le_of_lt lx)) ?_;refine ae ?_;rw[hg'];rfl
theorem TC(a b:Wh)(ha:a.ok)(hb:b.ok)(la:a.mag.length+1<aw)(lb:b.mag.length<aw)(h0:b.z≠0):FP 351 [a.av,b.av] (.tup [zA (a.z/b.z),zA (a.z%b.z),.v .nilIface]):=by
 have hm1:=Wh.m_le (w:=a);have hm2:=Wh.m_le (w:=b);have hb1:val b.m≠0:=by have:=Wh.abs (w:=b);omega
 have hb2:b.m≠[]:=fun h=>hb1 (by rw[h];rfl)
 have hl1:(ofNat (val a.m/val b.m)).length<=a.m.length:=eY (lt_of_le_of_lt (Nat.div_le_self _ _) (bW _ (Wh.ws ha)));have hmod:=Nat.mod_lt (val a.m) (show 0<val b.m by omega);have hl2:(ofNat (val a.m%val b.m)).length<=b.m.length:=eY (Nat.lt_trans hmod (bW _ (Wh.ws hb)));have hl3:(ofNat (val a.m/val b.m+1)).length<=a.m.length+1:=eY (by have h7:=lt_of_le_of_lt (Nat.div_le_self (val a.m) (val b.m)) (bW _ (Wh.ws ha));rw[Nat.pow_succ];generalize val a.m/val b.m=m at *;omega);have hl4:(ofNat (val b.m-val a.m%val b.m)).length<=b.m.length:=eY (by have:=bW _ (Wh.ws hb);omega);have hv1:val [1]=1:=rfl;refine ah func351 ?_;refine gc (jQ b hb) ?_;refine gl ?_;refine gC (fun t14=>?_) (fun t14=>?_) (st1:=(3,0));exact absurd (List.length_eq_zero_iff.1 (by simpa[aa]using t14)) hb2;refine gc (jQ a ha) ?_;refine gc (Ch a.m b.m (Wh.ws ha) (Wh.ws hb) a.nz b.nz hb2 oz oz) ?_;refine gc (iQ a ha) ?_;refine ci ?_;refine gC (fun t31=>?_) (fun t31=>?_)
 ·have h1:a.n = true /\ 0 < val a.m % val b.m:=uP.1 t31;obtain ⟨e1,e2⟩:=IS hb1 h1.1 h1.2;refine gc (CI (ofNat (val a.m / val b.m)) [1] (de _) (rI oz) oz (by unfold aw; simp)) ?_;refine gc (Be b.m (ofNat (val a.m % val b.m)) (Wh.ws hb) (de _) oz hl2 (by rw [bZ]; omega)) ?_ (7,0);refine gW (Wk.of (sl:=[(2,some (.ptr 2 0)),(3,some (.ptr 3 0)),(4,some (.ptr 4 0)),(5,some (.ptr 5 0)),(8,some (ws (ofNat (val a.m / val b.m + 1)))),(9,some (ws (ofNat (val b.m - val a.m % val b.m))))]) (hp:=[(2,some (.box [bl a.neg,ws a.mag])),(3,some (.box [bl b.neg,ws b.mag])),(4,some (.box [.v (.bool false),nS])),(5,some (.box [.v (.bool false),nS]))]) (.k (.k (.k (.k (.cons rfl (Sub.of (by rw [bZ,hv1])) (.cons rfl (Sub.of (by rw [bZ])) .nil)))))) (.k (.k (.k (.k .nil))))) ?_
  refine gc (iQ a ha) ?_;refine gc (iQ b hb) ?_;refine gc (by apply jX _ _ (de _) oz) ?_;refine gc (by apply jX _ _ (de _) oz) ?_;refine gD ?_;refine gR ?_;exact s8 (by rw[bZ,bZ,e1,show sgn false _=_ from e2];rfl)
 have h1:¬(a.n=true/\0<val a.m%val b.m):=fun h=>Bool.eq_false_iff.1 t31 (uP.2 h)
 obtain⟨e1,e2⟩:=GO hb1 h1;refine gc (iQ a ha) ?_;refine gc (iQ b hb) ?_;refine gc (by apply jX _ _ (de _) oz) ?_;refine gc (by apply jX _ _ (de _) oz) ?_;refine gD ?_;refine gR ?_;exact s8 (by rw[bZ,bZ,e1,show sgn false _=_ from e2];rfl)
theorem uV{N:Nat}(h:N<18446744073709551616):val [N%4294967296,N/2^32]=N:=by
 simp only[val];omega
theorem xb{N:Nat}(h:N<18446744073709551616):Ws [N%4294967296,N/2^32]:=by
 intro x hx;simp only[mem_cons,not_mem_nil,or_false]at hx;rcases hx with rfl |rfl <;> omega
theorem G2(n:Int)(h:-9223372036854775808<=n/\n<=9223372036854775807):FP 247 [i64 n] (zA n):=by
 obtain⟨N,hN⟩:∃N,N=n.natAbs:=⟨_,rfl⟩
 have hNB:N<18446744073709551616:=by omega
 refine ah func247 ?_;refine gv (show IntKind.u64.wrap n=((n%18446744073709551616:Int)) by simp only[IntKind.wrap,IntKind.signed,IntKind.bits,Bool.false_and,if_false,Bool.false_eq_true];omega) ?_;refine gC (fun t7=>?_) (fun t7=>?_) (st2:=(77777,0))
 ·have hn : n < 0 := by simpa [aa] using t7
  refine gs (zF (.tmp rfl) rfl) ?_ (4,0);refine gW (Wk.of (sl:=[(0,some (i64 n)),(2,some (.ptr 2 0)),(3,some (u64 N))]) (hp:=[(2,some (.box [.v (.bool false),nS]))]) (.k (.k (.cons rfl (Sub.int (by simp only[IntKind.wrap,IntKind.signed,IntKind.bits,Bool.false_and,if_false,Bool.false_eq_true];omega)) .nil))) (.k .nil)) ?_;refine gv (dI _) ?_;refine gs (eK (.tmp rfl) (.const _) oz (gf _ 32 oz) rfl) ?_;refine gv ((dI _).trans (by rw[Nat.mod_eq_of_lt (show N/2^32<4294967296 by omega)])) ?_;refine gc (jX (aa .lss n 0) [N%4294967296,N/2^32] (xb hNB) (by unfold aw;simp)) ?_;refine ae ?_;rw[uV hNB,show sgn (aa .lss n 0) N=n by simp only[sgn,aa,decide_eq_true_eq];split <;> omega];rfl
 have hn:¬n<0:=by simpa[aa]using t7
 refine gW (Wk.of (sl:=[(0,some (i64 n)),(2,some (.ptr 2 0)),(3,some (u64 N))]) (hp:=[(2,some (.box [.v (.bool false),nS]))]) (.k (.k (.cons rfl (Sub.int oz) .nil))) (.k .nil)) ?_;refine gv (dI _) ?_;refine gs (eK (.tmp rfl) (.const _) oz (gf _ 32 oz) rfl) ?_;refine gv ((dI _).trans (by rw[Nat.mod_eq_of_lt (show N/2^32<4294967296 by omega)])) ?_;refine gc (jX (aa .lss n 0) [N%4294967296,N/2^32] (xb hNB) (by unfold aw;simp)) ?_;refine ae ?_;rw[uV hNB,show sgn (aa .lss n 0) N=n by simp only[sgn,aa,decide_eq_true_eq];split <;> omega];rfl
theorem yc:∀(j k v:Nat),j<=k->(a7 k v).take j=a7 j v
 |0,_,_,_=>by simp[a7]
 |j+1,0,_,h=>by omega
 |j+1,k+1,v,h=>by
  rw[a7,a7,List.take_succ_cons,yc j k _ oz]
theorem Iw{m:List Nat}(h:Ws m):(ofNat (val m)).length<=m.length:=eY (bW m h)
theorem Ib{m:List Nat}(h:Ws m):m.take (ofNat (val m)).length=ofNat (val m):=by
 have h1:=rX m h;have h2:=rX (ofNat (val m)) (de _);rw[bZ]at h2;have h3:=yc _ _ (val m) (Iw h);rw[<- h1,<- h2]at h3;exact h3
theorem HI{m:List Nat}{n:Nat}(h:Ws m)(hn:n<=m.length)(hv:val (m.take n)=val m)(h0:n=0\/af m (n-1)≠0):n=(ofNat (val m)).length:=by
 have h1:m.take n=ofNat (val m):=by
  refine Df (fQ h n) ?_ hv;intro x hx;rcases h0 with h0 |h0
  ·subst h0;simp at hx
  ·have hn0 : n ≠ 0 := by intro h3; subst h3; simp at hx
   rw[List.getLast?_eq_getElem?,length_take,Nat.min_eq_left hn,getElem?_take,if_pos oz,je oz]at hx;cases hx;exact h0
 rw[<- h1,length_take,Nat.min_eq_left hn]
theorem xM(l:List Nat)(i:Nat):val l=val (l.take i)+4294967296^i*val (l.drop i):=by
 rcases lt_or_ge i l.length with h |h
 ·exact xF oz
 ·rw[eO h,drop_eq_nil_of_le h];simp[val]
theorem uc(l:List Nat)(i:Nat):val (l.drop i)=af l i+4294967296*val (l.drop (i+1)):=by
 rcases lt_or_ge i l.length with h |h
 ·exact pa h
 ·rw[qK h,drop_eq_nil_of_le h,drop_eq_nil_of_le oz];rfl
theorem DZ{a b:List Nat}{i:Nat}(ha:Ws a)(he:val (a.drop (i+1))=val (b.drop (i+1)))(hx:af a i<af b i):val a<val b:=by
 rw[xM a (i+1),xM b (i+1),he];have:=FG ha hx;omega
theorem K8{xs ys:List AV}(hl:xs.length=ys.length)(h1:∀(j:Nat)(y:AV),ys[j]?=some y->y.one=true)(h:∀(j:Nat)(x y:AV),xs[j]?=some x->ys[j]?=some y->Sub x y):Sub (.agg xs) (.agg ys):=by
 intro g S m v hr;cases hr with
 |agg hn h2 hr =>
  refine .agg (hn.trans hl) h1 ?_;intro j u c hu hc
  have hj:j<xs.length:=by
   rw[hl];rcases lt_or_ge j ys.length with h |h
   ·exact h
   ·rw[getElem?_eq_none h]at hc;cases hc
  exact h j _ c (getElem?_eq_getElem hj) hc _ _ _ _ (hr j u _ hu (getElem?_eq_getElem hj))
theorem Sj:Sub (.agg [.v (.bool false),.v (.slice none 0 0)]) (zA 0):=by
 show Sub (.agg [.v (.bool false),.v (.slice none 0 0)]) (.agg [bl false,ws []]);refine K8 rfl ?_ ?_
 ·intro j y hy
  match j,hy with
  |0,hy=>cases hy;rfl
  |1,hy=>cases hy;rfl
 ·intro j x y hx hy
  match j,hx,hy with
  |0,hx,hy=>cases hx;cases hy;exact Sub.refl _
  |1,hx,hy=>cases hx;cases hy;exact Sub.nil _ _ _
theorem CG{out:List Nat}{i x:Nat}(h:out.length=i):val (out++[x])=val out+4294967296^i*x:=by
 rw[pR,h];simp[val]
theorem G9{o c P x y u w:Nat}(hu:u<4294967296)(hw:w<4294967296)(hc:c<=1)(h:o+y=x+c*P) :
  (o+P*((4294967296+u-w-c)%4294967296))+(y+P*w)=(x+P*u)+(1-(4294967296+u-w-c)/2^32)*(P*4294967296):=by
 have h0:(4294967296+u-w-c)%4294967296+w+c=u+(1-(4294967296+u-w-c)/2^32)*4294967296:=by omega
 generalize(1-(4294967296+u-w-c)/2^32)=q at *;generalize(4294967296+u-w-c)%4294967296=r at *;grind
theorem CT{a b out:List Nat}{c:Nat}(ha:Ws a)(hw:Ws out)(ho:out.length=a.length)(hle:val b<=val a)
  (h:val out+val (b.take a.length)=val (a.take a.length)+c*4294967296^a.length):val out=val a-val b:=by
 have hb:=xM b a.length;have h2:=bW a ha
 have h3:val (b.drop a.length)=0:=by
  rcases Nat.eq_zero_or_pos (val (b.drop a.length))with h4 |h4
  ·exact h4
  ·have:=mul_le_mul_left (4294967296^a.length) h4;omega
 rw[h3,Nat.mul_zero,Nat.add_zero]at hb;rw[<- hb,take_length]at h;have h1:=bW out hw;rw[ho]at h1;cases c with
 |zero=>omega
 |succ c=>rw[Nat.succ_mul]at h;omega
theorem Fi{z:Int}{k:Nat}(h:Lz k z)(hk:k<=aS):(ofInt z).ok:=⟨de _,le_trans h.len hk⟩
theorem H7{z:Int}{k:Nat}(h:Lz k z):(ofInt z).mag.length<=k:=h.len
theorem OH(x y:Int):(x-y).sign=f8 x y:=by
 unfold f8;have h:=xW (x-y)
 (repeat' split) <;> omega
theorem kO(m:List Nat)(i:Nat)(hm:Ws m):FP 365 [ws m,i64 i] (u64 (af m i)):=by
 refine ah func365 ?_;refine gl ?_;refine gC (fun t8=>?_) (fun t8=>?_)
 ·simp[aa]at t8;have:=bO hm i;refine gi (b7 (i:=i) t8) ?_;refine gv (u64_in oz) ?_;refine ae ?_;rfl
 simp[aa]at t8;refine ae ?_;simp[u64,qK t8]
theorem DF(w:Wh)(h:w.ok):FP 364 [w.av] (bl w.valid):=by
 have hl:w.mag.length<=aS:=h.2;refine ah func364 ?_;refine gl ?_;refine gC (fun t6=>?_) (fun t6=>?_)
 ·have h0 : w.mag = [] := by simpa [aa] using t6
  refine ae ?_;simp[bl,Wh.valid,h0]
 have h0:w.mag.length≠0:=by simpa[aa]using t6
 refine gl ?_;refine ga (jE oz oz) ?_;refine gi (b7 (i:=w.mag.length-1) oz) ?_;refine ae ?_;have h1:w.mag≠[]:=fun h=>h0 (by rw[h];rfl)
 simp only[bl,Wh.valid,if_neg h1,List.getLast?_eq_getElem?,je (show w.mag.length-1<w.mag.length by omega),aa];congr 2;generalize af w.mag _=x;rw[Bool.eq_iff_iff];simp
theorem ku(w:Wh)(h:w.ok):FP 292 [w.av] (ws w.m):=by
 refine ah func292 ?_;refine gc (DF w h) ?_;refine gC (fun t5=>?_) (fun t5=>?_)
 ·have h0 : w.valid = false := by simpa [aa] using t5
  refine gR ?_;exact jr (by rw[show w.m=[] by simp[Wh.m,h0]];exact Sub.nil _ _ _)
 have h0:w.valid=true:=by simpa[aa]using t5
 refine ae ?_;simp only[Wh.m,h0];rfl
theorem iK(w:Wh)(h:w.ok):FP 293 [w.av] (bl w.n):=by
 refine ah func293 ?_;refine gc (DF w h) ?_;refine ae ?_;simp only[Wh.n,bl];cases w.valid <;> rfl
theorem A9(d:Nat)(hd:Nat.blt d 1000=true)(m:List Nat)(hm:Ws m)(hb:m.length<=aw) :
  Con prog 362 [ws m] [] (.ms d 1 0 (ofNat (val m)).length) [(d,some (.row 1 (m.map u32)))]:=by
 have hb':=hb;unfold aw at hb;refine gF func362 (fun k z h=>by cases h) ?_;refine gs (jD T43 rfl T349 rfl rfl rfl) ?_;refine gs (cf (.tmp rfl) rfl rfl (.tmp rfl) T43 rfl T349 rfl rfl (by simp only[length_map];omega) rfl rfl) ?_;refine aI [] [6] (fun(n:Nat)=>[(3,some (.ms 6 1 0 n))]) (fun _=>[]) (fun n=>n<=m.length/\val (m.take n)=val m) (fun n=>n) m.length ⟨le_refl _,by rw[take_length]⟩ ?_ (h1:=(.cons rfl (Sub.of (by rw[length_map,Nat.zero_add])) .nil));rintro n ⟨hn,hv⟩ K1 J1;refine oP (fun h=>(jE (by simp[aa]at h;omega) (by unfold aS;omega))) ?_;refine gs (ee rfl rfl rfl (fun h=>bR (n:=n-1) (.opt rfl (o1 h)) (.opt rfl (o1 h)) T43 rfl T349 rfl oz (by simp[aa]at h;omega) rfl)) ?_;refine gs (ee rfl rfl rfl (fun h=>dX (.opt rfl (o1 h)) rfl (b7 (i:=n-1) (by simp[aa]at h;omega)) T349 rfl rfl rfl)) ?_;refine gC (fun t18=>?_) (fun t18=>?_)
 ·have t18 : 0 < n /\ af m (n - 1) = 0 := by simpa [aa] using t18
  refine ga (jE oz (by unfold aS;omega)) ?_;refine gs (vK (.tmp rfl) (.none _) (.some _ (.tmp rfl) oz) T43 rfl T349 rfl oz oz rfl) ?_;exact aE J1 (n-1) ⟨by omega,by have h:=@dk m (n-1);rw[show n-1+1=n by omega,t18.2]at h;simp at h;omega⟩ (hw:=Wk.of (.cons rfl (Sub.of (by congr 1)) .nil) (.k .nil))
 have t18:0<n->af m (n-1)≠0:=by simpa[aa]using t18
 have hn1:=HI hm hn hv (by rcases Nat.eq_zero_or_pos n with h |h;(exact .inl h);exact .inr (t18 h));subst hn1;refine gR ?_;exact aq.own1 rfl hd rfl
theorem pi(m:List Nat)(hm:Ws m)(hb:m.length<=aw):FP 362 [ws m] (ws (ofNat (val m))):=by
 have h:=Con.freeze (by rw[length_map,Nat.zero_add];exact Iw hm) (A9 0 rfl m hm hb)
 rwa [drop_zero,<- map_take,Ib hm]at h
theorem jR(b:Bool)(m:List Nat)(hm:Ws m)(hb:m.length<=aw):FP 282 [bl b,ws m] (zA (sgn b (val m))):=by
 refine ah func282 ?_;refine gc (pi m hm hb) ?_;refine gl ?_;refine gC (fun t9=>?_) (fun t9=>?_)
 ·have h0:val m=0:=by
   have:=bZ (val m);have h9:ofNat (val m)=[]:=List.length_eq_zero_iff.1 (by simpa[aa]using t9);rw[h9]at this;exact this.symm
  refine gR ?_;exact jr (by rw[h0,show sgn b 0=0 by cases b <;> rfl];exact Sj)
 have h0:val m≠0:=by
  intro h;rw[h]at t9;cases t9
 refine ae ?_
 rw[show zA (sgn b (val m))=.agg [bl b,ws (ofNat (val m))] by
  unfold zA ofInt Wh.av;rw[show(sgn b (val m)).natAbs=val m by unfold sgn;split <;> omega,show decide (sgn b (val m)<0)=b by cases b <;> simp[sgn] <;> omega]]
theorem zI(a b:List Nat)(ha:Ws a)(hb:Ws b):FP 295 [ws a,ws b] (i64 (if val a<val b then -1 else if val b<val a then 1 else 0)):=by
 refine ah func295 ?_ (0,0);refine s7 (t:=0) rfl (fun hla=>?_);refine s7 (t:=1) rfl (fun hlb=>?_);unfold aS at hla hlb;refine go ?_;refine gl ?_;refine gl ?_;refine gs (p4 (.tmp rfl) (.tmp rfl) rfl) ?_;refine ga (dD oz) ?_;refine aI [0,1] [] (fun(n:Nat)=>[(5,some (i64 ((n:Int)-1)))]) (fun _=>[]) (fun n=>n<=281474976710656/\val (a.drop n)=val (b.drop n)) (fun n=>n) (max a.length b.length) ⟨by omega,by rw[drop_eq_nil_of_le oz,drop_eq_nil_of_le oz]⟩ ?_ (h1:=(.cons rfl (Sub.int oz) .nil));rintro n ⟨hn,hd⟩ K1 J1;refine gC (fun t13=>?_) (fun t13=>?_)
 ·have hn0 : 1 <= n := by have := t13; simp [aa] at this; omega
  obtain⟨k,rfl⟩:∃k,n=k+1:=⟨n-1,by omega⟩
  have hk:((k+1:Nat):Int)-1=(k:Int):=by omega
  rw[hk];refine gc (kO a k ha) ?_;refine gc (kO b k hb) ?_;refine gC (fun t22=>?_) (fun t22=>?_)
  ·have h3 : af a k ≠ af b k := by simpa [aa, Int.ofNat_inj] using t22
   refine gc (kO a k ha) ?_;refine gc (kO b k hb) ?_;refine gC (fun t29=>?_) (fun t29=>?_)
   ·have h4 : af a k < af b k := by simpa [aa] using t29
    have h5:=DZ ha hd h4;refine ae ?_;simp[i64,h5]
   have h4:af b k<af a k:=by have:af b k<=af a k:=(by simpa[aa]using t29);omega
   have h5:=DZ hb hd.symm h4;refine ae ?_;simp[i64,h5,Nat.lt_asymm h5]
  have h3:af a k=af b k:=by simpa[aa,Int.ofNat_inj]using t22
  refine ga (dD oz) ?_;exact aE J1 k ⟨by omega,by rw[uc a,uc b,hd,h3]⟩
 have hn0:n=0:=by have:=t13;simp[aa]at this;omega
 subst hn0;refine ae ?_;simp at hd;simp[i64,hd]
theorem yW(a b:List Nat)(ha:Ws a)(hb:Ws b)(la:a.length<aw)(lb:b.length<aw):FP 294 [ws a,ws b] (ws (ofNat (val a+val b))):=by
 unfold aw at la lb;obtain⟨n,hn⟩:∃n,n=max a.length b.length+1:=⟨_,rfl⟩
 refine ah func294 ?_;refine gl ?_;refine gl ?_;refine gs (p4 (.tmp rfl) (.tmp rfl) rfl) ?_;refine ga (show _=(n:Int) by rw[c9 oz];omega) ?_;refine gW (Wk.virt 900 1 rfl) ?_;refine iR [0,1,14] [] (fun(out:List Nat)(c i:Nat)=>[(5,some (.ms 900 1 0 i)),(6,some (u64 c)),(15,some (i64 i))]) (fun out _ _=>[(900,some (.row 1 (out.map u32)))]) (fun out c i=>out.length=i/\i<=n/\Ws out/\c<=1/\val out+c*4294967296^i=val (a.take i)+val (b.take i)) (fun _ _ i=>n-i) ([]) 0 0 ⟨rfl,by omega,ou,by omega,by simp[val]⟩ ?_;rintro out c i ⟨ho,hi,hw,hc,hv⟩ K1 J1;refine gC (fun t16=>?_) (fun t16=>?_) (st2:=(9,0))
 ·have hin : i < n := by simpa [aa] using t16
  have h1:=bO ha i;have h2:=bO hb i;obtain⟨s,hs⟩:∃s,s=c+(af a i+af b i):=⟨_,rfl⟩
  have h3:=zW (u:=af a i) (w:=af b i) hv;rw[<- hs]at h3;refine gc (by apply kO <;> assumption) ?_;refine gc (by apply kO <;> assumption) ?_;refine ga (iM oz) ?_;refine ga ((iM oz).trans (show _=(s:Int) by congr 1;omega)) ?_;refine gv (dI _) ?_;refine gs (cf (.tmp rfl) rfl (by rw[length_map,ho]) (.tmp rfl) T43 rfl T349 rfl rfl (by simp;omega) rfl rfl) ?_;refine gs (eK (.tmp rfl) (.const _) oz (gf _ 32 oz) rfl) ?_ (8,0);refine gW (Wk.of (sl:=[(0,some (ws a)),(1,some (ws b)),(5,some (.ms 31 1 0 (i+1))),(6,some (u64 (s/2^32))),(14,some (i64 n)),(15,some (i64 i))]) (hp:=[(31,some (.row 1 ((out++[s%4294967296]).map u32)))]) aV (.cons rfl (BlkSub.of (by rw[map_append];rfl)) .nil)) ?_ (8,0);refine gW (Wk.rk (k:=31) (d:=900) rfl rfl) ?_;refine ga (c9 oz) ?_;exact gP J1 (out++[s%4294967296]) (s/2^32) (i+1) ⟨by simp[ho],by omega,v8 hw (rI oz),by omega,by rw[CG ho,dk,dk,Nat.pow_succ];exact h3⟩
 have hin:i=n:=by have:n<=i:=(by simpa[aa]using t16);omega
 refine gW ((Wk.freeze (k:=900) rfl).trans<|Wk.of (sl:=[(5,some (ws out))]) (hp:=[]) (.cons rfl (Sub.of (bN (by simp[ho]))) .nil) .nil) ?_;refine gc (pi out hw (by unfold aw;omega)) ?_;refine ae ?_;subst hin;rw[H3 ha hb hn ho (by rw[eO (l:=out) oz];exact hv)]
theorem AO(a b:List Nat)(ha:Ws a)(hb:Ws b)(la:a.length<aw)(hle:val b<=val a):FP 296 [ws a,ws b] (ws (ofNat (val a-val b))):=by
 unfold aw at la;obtain⟨n,hn⟩:∃n,n=a.length:=⟨_,rfl⟩
 refine ah func296 ?_;refine gl ?_;refine gW (Wk.virt 900 1 rfl) ?_;refine iR [0,1] [] (fun(out:List Nat)(c i:Nat)=>[(5,some (.ms 900 1 0 i)),(6,some (u64 c)),(10,some (i64 n)),(11,some (i64 i))]) (fun out _ _=>[(900,some (.row 1 (out.map u32)))]) (fun out c i=>out.length=i/\i<=n/\Ws out/\c<=1/\val out+val (b.take i)=val (a.take i)+c*4294967296^i) (fun _ _ i=>n-i) ([]) 0 0 ⟨rfl,by omega,ou,by omega,by simp[val]⟩ ?_ (h1:=(.k (.k (.cons rfl (Sub.int (by rw[hn])) (.k .nil)))))
 rintro out c i ⟨ho,hi,hw,hc,hv⟩ K1 J1;refine gC (fun t12=>?_) (fun t12=>?_) (st2:=(9,0))
 ·have hin : i < n := by simpa [aa] using t12
  have h1:=bO ha i;have h2:=bO hb i;obtain⟨s,hs⟩:∃s,s=4294967296+af a i-af b i-c:=⟨_,rfl⟩
  have h3:=G9 h1 h2 hc hv;rw[<- hs]at h3;refine gc (by apply kO <;> assumption) ?_;refine ga ((iM (x:=4294967296) oz)) ?_;refine gc (by apply kO <;> assumption) ?_;refine ga ((kl oz oz).trans (by rw[if_pos oz])) ?_;refine ga ((kl oz oz).trans (show _=(s:Int) by rw[if_pos oz];congr 1;omega)) ?_;refine gv (dI _) ?_;refine gs (cf (.tmp rfl) rfl (by rw[length_map,ho]) (.tmp rfl) T43 rfl T349 rfl rfl (by simp;omega) rfl rfl) ?_;refine gs (eK (.tmp rfl) (.const _) oz (gf _ 32 oz) rfl) ?_;refine ga ((kl (x:=1) oz oz).trans (by rw[if_pos oz])) ?_ (8,0);refine gW (Wk.of (sl:=[(0,some (ws a)),(1,some (ws b)),(5,some (.ms 28 1 0 (i+1))),(6,some (u64 (1-s/2^32:Nat))),(10,some (i64 n)),(11,some (i64 i))]) (hp:=[(28,some (.row 1 ((out++[s%4294967296]).map u32)))]) aV (.cons rfl (BlkSub.of (by rw[map_append];rfl)) .nil)) ?_ (8,0);refine gW (Wk.rk (k:=28) (d:=900) rfl rfl) ?_;refine ga (c9 oz) ?_;exact gP J1 (out++[s%4294967296]) (1-s/2^32) (i+1) ⟨by simp[ho],by omega,v8 hw (rI oz),by omega,by rw[CG ho,dk,dk,Nat.pow_succ];exact h3⟩
 have hin:i=n:=by have:n<=i:=(by simpa[aa]using t12);omega
 refine gW ((Wk.freeze (k:=900) rfl).trans<|Wk.of (sl:=[(5,some (ws out))]) (hp:=[]) (.cons rfl (Sub.of (bN (by simp[ho]))) .nil) .nil) ?_;refine gc (pi out hw (by unfold aw;omega)) ?_;refine ae ?_;subst hin;subst hn;rw[CT ha hw ho hle hv]
theorem Qj(a b:List Nat)(ha:Ws a)(hb:Ws b)(la:a.length+b.length<=aw):FP 297 [ws a,ws b] (ws (ofNat (val a*val b))):=by
 have la':=la;unfold aw at la;refine ah func297 ?_;refine gl ?_;refine gl ?_;refine ga (jm (by unfold aS;omega) (by unfold aS;omega)) ?_;refine gs (gS (.tmp rfl) T43 rfl T349 rfl rfl oz (by dsimp only;omega) rfl) ?_;refine gl ?_;refine gx [0,1,17] [] (fun(out:List Nat)(i:Nat)=>[(5,some (.ms 15 1 0 (a.length+b.length))),(18,some (i64 i))]) (fun out _=>[(15,some (.row 1 (out.map u32)))]) (fun out i=>out.length=a.length+b.length/\i<=a.length/\Ws out/\val (out.take (i+b.length))=val (a.take i)*val b) (fun _ i=>a.length-i) (List.replicate (a.length+b.length) 0) 0 ⟨by simp,by omega,lL _,by simp[val,vi]⟩ ?_ (h2:=(.cons rfl (BlkSub.of (by rw[map_replicate];rfl)) .nil))
 rintro out i ⟨ho,hi,hw,hv⟩ K1 J1;refine gC (fun t19=>?_) (fun t19=>?_) (st2:=(14,0))
 ·have hin : i < a.length := by simpa [aa] using t19
  have h1:=bO ha i;refine gl ?_;refine iR [0,1,17,18,6,22] [] (fun(o:List Nat)(c k:Nat)=>[(5,some (.ms 15 1 0 (a.length+b.length))),(7,some (u64 c)),(23,some (i64 k))]) (fun o _ _=>[(15,some (.row 1 (o.map u32)))]) (fun o c k=>o.length=a.length+b.length/\k<=b.length/\Ws o/\c<4294967296/\val (o.take (i+b.length))+c*4294967296^(i+k)=val (out.take (i+b.length))+4294967296^i*(af a i*val (b.take k))) (fun _ _ k=>b.length-k) out 0 0 ⟨ho,by omega,hw,by omega,by simp[val]⟩ ?_
  rintro o c k ⟨ho2,hk,hw2,hc,hv2⟩ K2 J2;refine gC (fun t24=>?_) (fun t24=>?_)
  ·have hkn : k < b.length := by simpa [aa] using t24
   have h2:=bO hb k;have h3:=bO hw2 (i+k);have h4:=v5 h1 h2;obtain⟨s,hs⟩:∃s,s=c+(af a i*af b k+af o (i+k)):=⟨_,rfl⟩
   have h5:=B8 (x:=s%4294967296) (show i+k<o.length by omega) (show i+k<i+b.length by omega);have h6:=DY h5 hs hv2;refine gi (gy (n:=i) oz (by first |omega |(simp;omega))) ?_;refine gv (u64_in oz) ?_;refine gi (gy (n:=k) oz (by first |omega |(simp;omega))) ?_;refine gv (u64_in oz) ?_;refine ga (wD oz) ?_;refine ga (jm (by unfold aS;omega) (by unfold aS;omega)) ?_;refine gs (bR (n:=i+k) (.tmp rfl) (.tmp rfl) T43 rfl T349 rfl oz (by first |omega |(simp;omega)) rfl) ?_;refine gs (dX (.tmp rfl) rfl (b7 (i:=i+k) oz) T349 rfl rfl rfl) ?_;refine gv (u64_in oz) ?_;refine ga (iM oz) ?_;refine ga ((iM oz).trans (show _=(s:Int) by congr 1;omega)) ?_;refine gD ?_;refine ga (jm (by unfold aS;omega) (by unfold aS;omega)) ?_;refine gv (dI _) ?_;refine gs (eK (.tmp rfl) (.const _) oz (gf _ 32 oz) rfl) ?_;refine gs (bR (n:=i+k) (.tmp rfl) (.tmp rfl) T43 rfl T349 rfl oz (by first |omega |(simp;omega)) rfl) ?_;refine gs (dG (.tmp rfl) rfl (b7 (i:=i+k) oz) rfl (.tmp rfl) rfl rfl T349 rfl rfl) ?_;refine ga (c9 oz) ?_;exact gP J2 (o.set (i+k) (s%4294967296)) (s/2^32) (k+1) ⟨by simp[ho2],by omega,fO hw2 oz,by omega,by rw[show i+(k+1)=(i+k)+1 from rfl,show s/2^32=s/4294967296 from rfl,Nat.pow_succ,h6,dk];simp only[pow_add];grind⟩ (hw:=Wk.of aV (.cons rfl (BlkSub.of (by rw[map_set];rfl)) .nil))
  have hkn:k=b.length:=by have:b.length<=k:=(by simpa[aa]using t24);omega
  subst hkn;have h5:=lA (x:=c) (show i+b.length<o.length by omega);rw[take_length]at hv2;refine gl ?_;refine ga (jm (by unfold aS;omega) (by unfold aS;omega)) ?_;refine gv ((dI c).trans (by rw[Nat.mod_eq_of_lt hc])) ?_;refine gs (bR (n:=i+b.length) (.tmp rfl) (.tmp rfl) T43 rfl T349 rfl oz (by first |omega |(simp;omega)) rfl) ?_;refine gs (dG (.tmp rfl) rfl (b7 (i:=i+b.length) oz) rfl (.tmp rfl) rfl rfl T349 rfl rfl) ?_;refine ga (c9 oz) ?_;exact fY J1 (o.set (i+b.length) c) (i+1) ⟨by simp[ho2],by omega,fO hw2 hc,by rw[show i+1+b.length=i+b.length+1 by omega,h5,dk];simp only[pow_add]at *;grind⟩ (hw:=Wk.of aV (.cons rfl (BlkSub.of (by rw[map_set];rfl)) .nil))
 have hin:i=a.length:=by have:a.length<=i:=(by simpa[aa]using t19);omega
 subst hin;rw[take_length,eO oz]at hv;refine gW ((Wk.freeze (k:=15) rfl).trans<|Wk.of (sl:=[(5,some (ws out))]) (hp:=[]) (.cons rfl (Sub.of (bN (by simp[ho]))) .nil) .nil) ?_;refine gc (pi out hw oz) ?_;refine ae ?_;rw[hv]
theorem zG(a:Wh)(ha:a.ok):FP 195 [a.av] (i64 a.z.sign):=by
 obtain⟨e1,e2,e3⟩:=DE ha;refine ah func195 ?_;refine gc (ku a ha) ?_;refine gl ?_;refine gC (fun t6=>?_) (fun t6=>?_)
 ·have h0 : a.m.length = 0 := by simpa [aa] using t6
  refine ae ?_;rw[e1 h0];rfl
 have h0:a.m.length≠0:=by simpa[aa]using t6
 have hval:a.valid=true:=by
  unfold Wh.m at h0;split at h0
  ·assumption
  ·exact absurd rfl h0
 refine gc (iK a ha) ?_;refine gC (fun t8=>?_) (fun t8=>?_)
 ·have h1 : a.neg = true := by unfold Wh.n at t8; rw [hval] at t8; simpa using t8
  refine ae ?_;rw[e2 h0 h1];rfl
 have h1:a.neg=false:=by unfold Wh.n at t8;rw[hval]at t8;simpa using t8
 refine ae ?_;rw[e3 h0 h1];rfl
theorem DM(a:Wh)(ha:a.ok)(la:a.mag.length<aw):FP 279 [a.av] (zA (-a.z)):=by
 refine ah func279 ?_;refine gc (iK a ha) ?_;refine gc (ku a ha) ?_;refine gc (jR _ a.m (Wh.ws ha) (Nat.le_of_lt (Wh.small ha la))) ?_;refine gD ?_;refine ae ?_;rw[Wh.z_eq,<- I2];rfl
theorem OL(a b:Wh)(ha:a.ok)(hb:b.ok)(la:a.mag.length+b.mag.length<=aw):FP 197 [a.av,b.av] (zA (a.z*b.z)):=by
 have h1:=Wh.m_le (w:=a);have h2:=Wh.m_le (w:=b);have h3:(ofNat (val a.m*val b.m)).length<=a.m.length+b.m.length:=eY (by rw[pow_add];exact Nat.mul_lt_mul'' (bW _ (Wh.ws ha)) (bW _ (Wh.ws hb)));refine ah func197 ?_;refine gc (iK a ha) ?_;refine gc (iK b hb) ?_;refine gc (ku a ha) ?_;refine gc (ku b hb) ?_;refine gc (Qj a.m b.m (Wh.ws ha) (Wh.ws hb) oz) ?_;refine gc (jR _ _ (de _) oz) ?_;refine gD ?_;refine ae ?_;rw[bZ,CP];rfl
theorem B5(a b:Wh)(ha:a.ok)(hb:b.ok)(la:a.mag.length<aw)(lb:b.mag.length<aw):FP 196 [a.av,b.av] (zA (a.z+b.z)):=by
 have h1:=Wh.m_le (w:=a);have h2:=Wh.m_le (w:=b);have hla:val a.m<4294967296^(max a.m.length b.m.length):=lt_of_lt_of_le (bW _ (Wh.ws ha)) (Nat.pow_le_pow_right oz oz);have hlb:val b.m<4294967296^(max a.m.length b.m.length):=lt_of_lt_of_le (bW _ (Wh.ws hb)) (Nat.pow_le_pow_right oz oz);have h3:(ofNat (val a.m+val b.m)).length<=max a.m.length b.m.length+1:=eY (by rw[Nat.pow_succ];omega);have h4:(ofNat (val a.m-val b.m)).length<=max a.m.length b.m.length:=eY oz;have h5:(ofNat (val b.m-val a.m)).length<=max a.m.length b.m.length:=eY oz;refine ah func196 ?_;refine gc (ku a ha) ?_;refine gc (ku b hb) ?_;refine gD ?_;refine gc (iK a ha) ?_;refine gc (iK b hb) ?_;refine gD ?_;refine gC (fun t15=>?_) (fun t15=>?_)
 ·have h0 : a.n = b.n := by simpa using t15
  refine gc (iK a ha) ?_;refine gc (yW a.m b.m (Wh.ws ha) (Wh.ws hb) oz oz) ?_;refine gc (jR _ _ (de _) oz) ?_;refine ae ?_;rw[bZ,CA h0];rfl
 have h0:a.n≠b.n:=by simpa using t15
 refine gc (zI a.m b.m (Wh.ws ha) (Wh.ws hb)) ?_;refine gC (fun t25=>?_) (fun t25=>?_)
 ·have h6:val b.m<=val a.m:=by
   rcases lt_or_ge (val a.m) (val b.m)with h |h
   ·rw[if_pos h]at t25;cases t25
   ·exact h
  refine gc (iK a ha) ?_;refine gc (AO a.m b.m (Wh.ws ha) (Wh.ws hb) oz oz) ?_;refine gc (jR _ _ (de _) oz) ?_;refine ae ?_;rw[bZ,yn h0 h6];rfl
 have h6:val a.m<val b.m:=by
  rcases lt_or_ge (val a.m) (val b.m)with h |h
  ·exact h
  ·rw[if_neg oz]at t25;split at t25 <;> cases t25
 refine gc (iK b hb) ?_;refine gc (AO b.m a.m (Wh.ws hb) (Wh.ws ha) oz oz) ?_;refine gc (jR _ _ (de _) oz) ?_;refine ae ?_;rw[bZ,DC h0 oz];rfl
theorem F2(n:Int)(h:-9223372036854775808<=n/\n<=9223372036854775807):FP 175 [i64 n] (zA n):=by
 obtain⟨N,hN⟩:∃N,N=n.natAbs:=⟨_,rfl⟩
 have hNB:N<18446744073709551616:=by omega
 refine ah func175 ?_;refine gv (show IntKind.u64.wrap n=((n%18446744073709551616:Int)) by simp only[IntKind.wrap,IntKind.signed,IntKind.bits,Bool.false_and,if_false,Bool.false_eq_true];omega) ?_;refine gC (fun t7=>?_) (fun t7=>?_) (st2:=(77777,0))
 ·have hn : n < 0 := by simpa [aa] using t7
  refine gs (zF (.tmp rfl) rfl) ?_ (4,0);refine gW (Wk.of (sl:=[(0,some (i64 n)),(2,some (.ptr 2 0)),(3,some (u64 N))]) (hp:=[(2,some (.box [.v (.bool false),nS]))]) (.k (.k (.cons rfl (Sub.int (by simp only[IntKind.wrap,IntKind.signed,IntKind.bits,Bool.false_and,if_false,Bool.false_eq_true];omega)) .nil))) (.k .nil)) ?_;refine gv (dI _) ?_;refine gs (eK (.tmp rfl) (.const _) oz (gf _ 32 oz) rfl) ?_;refine gv ((dI _).trans (by rw[Nat.mod_eq_of_lt (show N/2^32<4294967296 by omega)])) ?_;refine gc (jR (aa .lss n 0) [N%4294967296,N/2^32] (xb hNB) (by unfold aw;simp)) ?_;refine ae ?_;rw[uV hNB,show sgn (aa .lss n 0) N=n by simp only[sgn,aa,decide_eq_true_eq];split <;> omega];rfl
 have hn:¬n<0:=by simpa[aa]using t7
 refine gW (Wk.of (sl:=[(0,some (i64 n)),(2,some (.ptr 2 0)),(3,some (u64 N))]) (hp:=[(2,some (.box [.v (.bool false),nS]))]) (.k (.k (.cons rfl (Sub.int oz) .nil))) (.k .nil)) ?_;refine gv (dI _) ?_;refine gs (eK (.tmp rfl) (.const _) oz (gf _ 32 oz) rfl) ?_;refine gv ((dI _).trans (by rw[Nat.mod_eq_of_lt (show N/2^32<4294967296 by omega)])) ?_;refine gc (jR (aa .lss n 0) [N%4294967296,N/2^32] (xb hNB) (by unfold aw;simp)) ?_;refine ae ?_;rw[uV hNB,show sgn (aa .lss n 0) N=n by simp only[sgn,aa,decide_eq_true_eq];split <;> omega];rfl
theorem O8(a b:Wh)(ha:a.ok)(hb:b.ok)(la:a.mag.length<aw)(lb:b.mag.length<aw):FP 363 [a.av,b.av] (zA (a.z-b.z)):=by
 have h1:=(Wh.lz hb).neg;have h2:=H7 h1;refine ah func363 ?_;refine gc (DM b hb lb) ?_;refine gc (B5 a (ofInt (-b.z)) ha (Fi h1 hb.2) la oz) ?_;refine gD ?_;refine ae ?_;rw[dL,<- Int.sub_eq_add_neg];rfl
theorem ND(a b:Wh)(ha:a.ok)(hb:b.ok)(la:a.mag.length<aw)(lb:b.mag.length<aw):FP 291 [a.av,b.av] (i64 (f8 a.z b.z)):=by
 have h1:=(Wh.lz ha).sub (Wh.lz hb);have h2:=H7 h1;refine ah func291 ?_;refine gc (O8 a b ha hb la lb) ?_;refine gc (zG (ofInt (a.z-b.z)) (Fi h1 (by unfold aS;unfold aw at la lb;omega))) ?_;refine ae ?_;rw[dL,OH]
theorem qo{A:List Nat}{n:Nat}:AV.lst 1 (((A.map u32).drop 0).take n)=ws (A.take n):=by
 rw[drop_zero,<- map_take];rfl
theorem I4(A:List Nat):(Blk.row 1 (A.map u32)).sc=true:=by
 simp only[Blk.sc,List.all_map];rw[all_eq_true];intro x _;rfl
theorem nU{A:List Nat}{n i:Nat}(h:i<n):af (A.take n) i=af A i:=by
 simp[af,h]
theorem D8{A:List Nat}{n i:Nat}(h:n<=i):af (A.take n) i=0:=qK (by simp;omega)
theorem MU{x:Nat}(h:0<x):aX x=aX (x/2)+1:=by
 rcases lt_or_ge x 2 with h1 |h1
 ·have : x = 1 := by omega
  subst this;decide
 ·have:=si (x:=x) (k:=1) oz;rw[show x/2^1=x/2 from rfl]at this;omega
theorem Tl{a:List Nat}{n:Nat}(ha:Ws a)(na:Nz a)(hl:a.length=n+1):aX (val a)=32*n+aX (af a n):=by
 have ht:af a n≠0:=by
  refine na _ ?_;rw[List.getLast?_eq_getElem?,hl];exact je oz
 have hv:val a=val (a.take n)+4294967296^n*af a n:=by rw[<- dk,eO oz]
 have hlt:=oO ha n;have hp:(4294967296:Nat)^n=2^(32*n):=by rw[Nat.pow_mul]
 rw[hp]at hv hlt
 have h1:val a/2^(32*n)=af a n:=by
  rw[hv,Nat.add_mul_div_left _ _ (Nat.pow_pos oz),Nat.div_eq_of_lt hlt,Nat.zero_add]
 have h2:2^(32*n)<=val a:=by
  have:=mul_le_mul_left (2^(32*n)) (show 1<=af a n by omega);omega
 rw[si h2,h1]
theorem CF{o A:List Nat}{n v:Nat}(ho:Ws o)(hl:o.length=A.length)(hn:n<=A.length)(hd:o.drop n=A.drop n)(hv:val (o.take n)=v):o=wr A 0 (a7 n v):=by
 have h1:bh o 0 n=a7 n v:=vN (mW ho _ _) (ow oz) (by rw[bh,drop_zero,hv]);rw[<- h1];exact yo (by simp) (by rw[Nat.zero_add];exact hd) oz
theorem zK(k:Nat)(A:List Nat)(n i:Nat)(hA:Ws A)(hn:n<=A.length) :
  Con prog 365 [.ms k 1 0 n,i64 i] [(k,some (.row 1 (A.map u32)))] (u64 (af (A.take n) i)) [(k,some (.row 1 (A.map u32)))]:=by
 refine Con.borrow (args:=[ws (A.take n),i64 i]) k 1 (A.map u32) rfl rfl rfl ?_ rfl (fun k' x h=>by cases h) (kO (A.take n) i (fQ hA n));intro j x' hj
 match j,hj with
 |0,hj=>cases hj;exact .inr ⟨0,n,rfl,by simpa using hn,by rw[qo];rfl⟩
 |1,hj=>cases hj;exact .inl rfl
theorem OP(k1 k2:Nat)(hk:k1≠k2)(A D:List Nat)(n p:Nat)(hA:Ws A)(hD:Ws D)(hn:n<=A.length)(hp:p<=D.length) :
  Con prog 295 [.ms k1 1 0 n,.ms k2 1 0 p] [(k1,some (.row 1 (A.map u32))),(k2,some (.row 1 (D.map u32)))]
   (i64 (if val (A.take n)<val (D.take p)then -1 else if val (D.take p)<val (A.take n)then 1 else 0)) [(k1,some (.row 1 (A.map u32))),(k2,some (.row 1 (D.map u32)))]:=by
 have h1:Con prog 295 [ws (A.take n),.ms k2 1 0 p] [(k2,some (.row 1 (D.map u32)))]
   (i64 (if val (A.take n)<val (D.take p)then -1 else if val (D.take p)<val (A.take n)then 1 else 0)) [(k2,some (.row 1 (D.map u32)))]:=by
  refine Con.borrow (args:=[ws (A.take n),ws (D.take p)]) k2 1 (D.map u32) rfl rfl rfl ?_ rfl (fun k' x h=>by cases h) (zI (A.take n) (D.take p) (fQ hA n) (fQ hD p));intro j x' hj
  match j,hj with
  |0,hj=>cases hj;exact .inl rfl
  |1,hj=>cases hj;exact .inr ⟨0,p,rfl,by simpa using hp,by rw[qo];rfl⟩
 refine Con.borrow (args:=[ws (A.take n),.ms k2 1 0 p]) k1 1 (A.map u32) ?_ ?_ rfl ?_ rfl ?_ h1
 ·rw[aJ,if_neg hk];rfl
 ·rw[aJ,if_neg hk];rfl
 ·intro j x' hj
  match j,hj with
  |0,hj=>cases hj;exact .inr ⟨0,n,rfl,by simpa using hn,by rw[qo];rfl⟩
  |1,hj=>cases hj;exact .inl rfl
 ·intro k' x h;obtain⟨_,h⟩:=fx h;cases h;exact I4 D
theorem UG(k:Nat)(A b:List Nat)(n:Nat)(hA:Ws A)(hb:Ws b)(hn:n<=A.length) :
  Con prog 295 [.ms k 1 0 n,ws b] [(k,some (.row 1 (A.map u32)))]
   (i64 (if val (A.take n)<val b then -1 else if val b<val (A.take n)then 1 else 0)) [(k,some (.row 1 (A.map u32)))]:=by
 refine Con.borrow (args:=[ws (A.take n),ws b]) k 1 (A.map u32) rfl rfl rfl ?_ rfl (fun k' x h=>by cases h) (zI (A.take n) b (fQ hA n) hb);intro j x' hj
 match j,hj with
 |0,hj=>cases hj;exact .inr ⟨0,n,rfl,by simpa using hn,by rw[qo];rfl⟩
 |1,hj=>cases hj;exact .inl rfl
theorem Pm(a:List Nat)(ha:Ws a)(na:Nz a)(la:a.length<=aw):FP 393 [ws a] (i64 (aX (val a))):=by
 unfold aw at la;refine ah func393 ?_;refine gl ?_;refine gC (fun t7=>?_) (fun t7=>?_)
 ·have h0 : a=[] := List.length_eq_zero_iff.1 (by simpa[aa]using t7);refine ae ?_;subst h0;rfl
 have h0:a.length≠0:=by simpa[aa]using t7
 obtain⟨n,hn⟩:∃n,a.length=n+1:=⟨a.length-1,by omega⟩
 have hB:=Tl ha na hn;have ht:=bO ha n;refine gl ?_;refine ga (show _=(n:Int) by rw[dD oz];omega) ?_;refine ga (show _=((32*n:Nat):Int) by rw[xy oz];omega) ?_;refine gl ?_;refine ga (show _=(n:Int) by rw[dD oz];omega) ?_;refine gi (gy (n:=n) oz (by first |omega |(simp;omega))) ?_;refine gx [] [] (fun(x c:Nat)=>[(3,some (i64 c)),(4,some (u32 x))]) (fun _ _=>[]) (fun x c=>x<4294967296/\c<=281474976710656/\c+aX x=aX (val a)) (fun x _=>x) (af a n) (32*n) ⟨ht,by omega,hB.symm⟩ ?_;rintro x c ⟨hx,hc,hv⟩ K1 J1;refine gC (fun t19=>?_) (fun t19=>?_)
 ·have hx0 : 0 < x := by simpa [aa] using t19
  have h2:=MU hx0
  have h3:aX (val a)<=32*n+32:=by
   have:=(y8 (x:=af a n)  (by
    refine na _ ?_;rw[List.getLast?_eq_getElem?,hn];exact je oz) ht).1
   omega
  refine ga (show _=((c+1:Nat):Int) by rw[c9 oz];omega) ?_;refine gs (eK (.tmp rfl) (.const _) oz (pH x 1 oz) rfl) ?_;exact fY J1 (x/2^1) (c+1) ⟨by omega,by omega,by rw[show x/2^1=x/2 from rfl];omega⟩
 have hx0:x=0:=by have:x<=0:=(by simpa[aa]using t19);omega
 subst hx0;refine ae ?_;rw[<- hv];rfl
theorem Bl(A:List Nat)(n:Nat)(hA:Ws A)(hn:n<=A.length)(la:A.length<=aw) :
  Con prog 392 [.ms 1000 1 0 n] [(1000,some (.row 1 (A.map u32)))] (.ms 1000 1 0 (ofNat (val (A.take n))).length) [(1000,some (.row 1 (A.map u32)))]:=by
 unfold aw at la;refine gF func392 (fun k z h=>br h) ?_;refine aI [] [1000] (fun(j:Nat)=>[(0,some (.ms 1000 1 0 j))]) (fun _=>[]) (fun j=>j<=n/\val (A.take j)=val (A.take n)) (fun j=>j) n ⟨le_refl _,rfl⟩ ?_;rintro j ⟨hj,hv⟩ K1 J1;refine oP (fun h=>(jE (by simp[aa]at h;omega) (by unfold aS;omega))) ?_;refine gs (ee rfl rfl rfl (fun h=>bR (n:=j-1) (.opt rfl (o1 h)) (.opt rfl (o1 h)) T43 rfl T349 rfl oz (by simp[aa]at h;omega) rfl)) ?_;refine gs (ee rfl rfl rfl (fun h=>dX (.opt rfl (o1 h)) rfl (b7 (i:=j-1) (by simp[aa]at h;omega)) T349 rfl rfl rfl)) ?_;refine gC (fun t14=>?_) (fun t14=>?_)
 ·have t14 : 0 < j /\ af A (j - 1) = 0 := by simpa [aa] using t14
  refine ga (jE oz (by unfold aS;omega)) ?_;refine gs (vK (.tmp rfl) (.none _) (.some _ (.tmp rfl) oz) T43 rfl T349 rfl oz oz rfl) ?_;exact aE J1 (j-1) ⟨by omega,by have h:=@dk A (j-1);rw[show j-1+1=j by omega,t14.2]at h;simp at h;omega⟩ (hw:=Wk.of (.cons rfl (Sub.of (by congr 1)) .nil) (.k .nil))
 have t14:0<j->af A (j-1)≠0:=by simpa[aa]using t14
 have hn1 := HI (m := A.take n) (n := j) (fQ hA n) (by simp; omega) (by rw [List.take_take, Nat.min_eq_left hj]; exact hv) (by
  rcases Nat.eq_zero_or_pos j with h |h
  ·exact .inl h
  ·exact .inr (by rw[nU oz];exact t14 h))
 subst hn1;refine gR ?_;exact aq.own2 rfl rfl rfl
theorem uf(A:List Nat)(n:Nat)(hA:Ws A)(hn:n<=A.length)(la:A.length<=aw) :
  Con prog 390 [.ms 1000 1 0 n] [(1000,some (.row 1 (A.map u32)))] (.ms 1000 1 0 (ofNat (val (A.take n)/2)).length) [(1000,some (.row 1 ((wr A 0 (a7 n (val (A.take n)/2))).map u32)))]:=by
 have la':=la;unfold aw at la;refine gF func390 (fun k z h=>br h) ?_;refine gx [5] [] (fun(o:List Nat)(i:Nat)=>[(0,some (.ms 1000 1 0 n)),(6,some (i64 i))]) (fun o _=>[(1000,some (.row 1 (o.map u32)))]) (fun o i=>o.length=A.length/\i<=n/\Ws o/\o.drop i=A.drop i/\val (o.take i)=val (A.take n)/2^1%4294967296^i) (fun _ i=>n-i) A 0 ⟨rfl,by omega,hA,rfl,by simp[val,Nat.mod_one]⟩ ?_;rintro o i ⟨ho,hi,hw,hd,hv⟩ K1 J1;refine gC (fun t7=>?_) (fun t7=>?_)
 ·have hin : i < n := by simpa [aa] using t7
  have e1:af (o.take n) i=af (A.take n) i:=by rw[nU hin,nU hin];exact pO hd
  have hd2:o.drop (i+1)=A.drop (i+1):=by
   have h1:(o.drop i).drop 1=(A.drop i).drop 1:=by rw[hd]
   rwa [drop_drop,drop_drop]at h1
  have e2:af (o.take n) (i+1)=af (A.take n) (i+1):=by
   rcases lt_or_ge (i+1) n with h |h
   ·rw[nU h,nU h];exact pO hd2
   ·rw[D8 h,D8 h]
  have b1:=bO (fQ hA n) i;have b2:=bO (fQ hA n) (i+1);have h3:=Hg (n:=1) (fQ hA n) (show i<(A.take n).length by simp;omega) (show i<o.length by omega) oz hv;refine gt (ay (zK 1000 o n i hw oz) (bm rfl rfl) az rfl rfl) ?_;refine gs (eK (.tmp rfl) (.const _) oz ((gf _ 1 oz).trans (by rw[e1])) rfl) ?_;refine ga (jm (y:=1) (by unfold aS;omega) (by unfold aS;omega)) ?_;refine gt (ay (zK 1000 o n (i+1) hw oz) (bm rfl rfl) az rfl rfl) ?_;refine gs (gI (.tmp rfl) (.const _) oz ((qr (n:=31) oz oz).trans (by rw[e2])) rfl) ?_;refine gs (jp (.tmp rfl) (.tmp rfl) rfl ((sP oz oz).trans (by rw[BQ oz])) rfl) ?_;refine gv ((dI _).trans (show _=(((af (A.take n) i+af (A.take n) (i+1)*2^32)/2^1%4294967296:Nat):Int) by congr 1;omega)) ?_;refine gs (bR (n:=i) (.tmp rfl) (.tmp rfl) T43 rfl T349 rfl oz (by first |omega |(simp;omega)) rfl) ?_;refine gs (dG (.tmp rfl) rfl (b7 (i:=i) oz) rfl (.tmp rfl) rfl rfl T349 rfl rfl) ?_;refine ga (c9 oz) ?_;exact fY J1 (o.set i ((af (A.take n) i+af (A.take n) (i+1)*2^32)/2^1%4294967296)) (i+1) ⟨by simp[ho],by omega,fO hw oz,r4 hd,h3⟩ (hw:=Wk.of aV (.cons rfl (BlkSub.of (by rw[map_set];rfl)) .nil))
 have hin:i=n:=by have:n<=i:=(by simpa[aa]using t7);omega
 subst hin;have hlt:=oO hA i;have hv':val (o.take i)=val (A.take i)/2:=by rw[hv,Nat.mod_eq_of_lt oz]
 have h9:=CF hw ho hn hd hv';refine gt (ay (Bl o i hw oz oz) (cR rfl) az rfl rfl) ?_;refine gR ?_;exact aq.own2 rfl (by rw[<- h9]) (by rw[hv'];rfl)
theorem Gh(A b:List Nat)(n:Nat)(hA:Ws A)(hb:Ws b)(hn:n<=A.length)(la:A.length<=aw)(hle:val b<=val (A.take n)) :
  Con prog 391 [.ms 1000 1 0 n,ws b] [(1000,some (.row 1 (A.map u32)))] (.tup []) [(1000,some (.row 1 ((wr A 0 (a7 n (val (A.take n)-val b))).map u32)))]:=by
 unfold aw at la;refine gF func391 (fun k z h=>br h) ?_;refine iR [1,8] [] (fun(o:List Nat)(c i:Nat)=>[(0,some (.ms 1000 1 0 n)),(4,some (u64 c)),(9,some (i64 i))]) (fun o _ _=>[(1000,some (.row 1 (o.map u32)))]) (fun o c i=>o.length=A.length/\i<=n/\Ws o/\c<=1/\o.drop i=A.drop i/\val (o.take i)+val (b.take i)=val (A.take i)+c*4294967296^i) (fun _ _ i=>n-i) A 0 0 ⟨rfl,by omega,hA,by omega,rfl,by simp[val]⟩ ?_;rintro o c i ⟨ho,hi,hw,hc,hd,hv⟩ K1 J1;refine gC (fun t10=>?_) (fun t10=>?_)
 ·have hin : i < n := by simpa [aa] using t10
  have e1:af (o.take n) i=af A i:=by rw[nU hin];exact pO hd
  have h1:=bO hA i;have h2:=bO hb i;obtain⟨s,hs⟩:∃s,s=4294967296+af A i-af b i-c:=⟨_,rfl⟩
  have h3:=G9 h1 h2 hc hv;rw[<- hs]at h3;refine gt (ay (zK 1000 o n i hw oz) (bm rfl rfl) az rfl rfl) ?_;refine ga ((iM (x:=4294967296) oz).trans (by rw[e1])) ?_;refine gc (kO b i hb) ?_;refine ga ((kl oz oz).trans (by rw[if_pos oz])) ?_;refine ga ((kl oz oz).trans (show _=(s:Int) by rw[if_pos oz];congr 1;omega)) ?_;refine gv (dI _) ?_;refine gs (eK (.tmp rfl) (.const _) oz (gf _ 32 oz) rfl) ?_;refine ga ((kl (x:=1) oz oz).trans (by rw[if_pos oz])) ?_;refine gs (bR (n:=i) (.tmp rfl) (.tmp rfl) T43 rfl T349 rfl oz (by first |omega |(simp;omega)) rfl) ?_;refine gs (dG (.tmp rfl) rfl (b7 (i:=i) oz) rfl (.tmp rfl) rfl rfl T349 rfl rfl) ?_;refine ga (c9 oz) ?_;exact gP J1 (o.set i (s%4294967296)) (1-s/2^32) (i+1) ⟨by simp[ho],by omega,fO hw oz,by omega,r4 hd,by rw[lA oz,dk,dk,Nat.pow_succ];exact h3⟩ (hw:=Wk.of aV (.cons rfl (BlkSub.of (by rw[map_set];rfl)) .nil))
 have hin:i=n:=by have:n<=i:=(by simpa[aa]using t10);omega
 subst hin;have hl:(A.take i).length=i:=by simp;omega
 have h4:=CT (a:=A.take i) (b:=b) (out:=o.take i) (fQ hA i) (fQ hw i) (by simp;omega) hle (by rw[hl,take_of_length_le (show(A.take i).length<=i by omega)];exact hv);have h9:=CF hw ho hn hd h4;refine gR ?_;exact aq.own2 rfl (by rw[<- h9]) rfl
theorem DG{x:Nat}(h:x<=9223372036854775807):IntKind.i64.wrap ((x:Int).tdiv 32)=((x/32:Nat):Int):=by
 rw[show(32:Int)=((32:Nat):Int)from rfl,<- Int.ofNat_tdiv];exact i64_in oz
theorem Eg{x:Nat}:(x:Int).tmod 32=((x%32:Nat):Int):=(Int.ofNat_tmod _ _).symm
theorem tW(i:Nat):(4294967296:Nat)^i=2^(32*i):=by rw[Nat.pow_mul]
theorem V5{a:List Nat}(ha:Ws a){k:Nat}(hk:k/32<a.length):af a (k/32)/2^(k%32)%2=val a/2^k%2:=by
 have h1:val a/2^k=(val a/4294967296^(k/32))/2^(k%32):=by
  rw[tW,Nat.div_div_eq_div_mul,<- pow_add];congr 2;omega
 rw[h1,uk ha _ oz,uc];generalize val (a.drop (k/32+1))=R
 have h2:4294967296*R=2^(k%32)*(2*(2^(31-k%32)*R)):=by
  have:(4294967296:Nat)=2^(k%32)*(2*2^(31-k%32)):=by
   rw[<- Nat.pow_succ',<- pow_add,show k%32+(31-k%32).succ=32 by omega]
  conv=>lhs;rw[this]
  grind
 rw[h2,Nat.add_mul_div_left _ _ (Nat.pow_pos oz),Nat.add_mul_mod_self_left]
theorem OR{w c:Nat}(hc:c<=1):w*2^1%4294967296 ||| c=w*2^1%4294967296+c:=by
 have h:w*2^1%4294967296=(w%2147483648)*2^1:=by omega
 rw[h];exact s6 oz
theorem U8{o c P rt w bit:Nat}(hw:w<4294967296)(h:o+c*P=2*rt+bit) :
  (o+P*(w*2^1%4294967296+c))+(w/2^31)*(P*4294967296)=2*(rt+P*w)+bit:=by
 have h0:w*2^1%4294967296+(w/2^31)*4294967296=2*w:=by omega
 generalize w*2^1%4294967296=r at *;generalize w/2^31=q at *;grind
theorem RH{q:List Nat}(hq:Ws q){k Y:Nat}(hk:k/32<q.length)(h:val q=2^(k+1)*Y) :
  af q (k/32) ||| 2^(k%32)=af q (k/32)+2^(k%32)/\af q (k/32)+2^(k%32)<4294967296:=by
 have h1:=uk hq (k/32) oz;rw[uc,h,tW,show k+1=32*(k/32)+(k%32+1) by omega,pow_add,Nat.mul_assoc,Nat.mul_div_cancel_left _ (Nat.pow_pos oz)]at h1;have hw:=bO hq (k/32);generalize af q (k/32)=w at *;generalize val (q.drop (k/32+1))=R at *
 have hB:(4294967296:Nat)=2^(k%32+1)*2^(31-k%32):=by
  rw[<- pow_add,show k%32+1+(31-k%32)=32 by omega]
 have h2:w%2^(k%32+1)=0:=by
  have h3:(w+4294967296*R)%2^(k%32+1)=0:=by rw[<- h1];exact Nat.mul_mod_right _ _
  rw[hB,Nat.mul_assoc,Nat.add_mul_mod_self_left]at h3;exact h3
 have h4:w=2^(k%32+1)*(w/2^(k%32+1)):=by
  have:=Nat.div_add_mod w (2^(k%32+1));omega
 have h5:2^(k%32)<2^(k%32+1):=by rw[Nat.pow_succ];have:=Nat.pow_pos (n:=k%32) (show 0<2 by omega);omega
 constructor
 ·rw[h4];exact(Nat.two_pow_add_eq_or_of_lt h5 _).symm
 ·have h6:w/2^(k%32+1)<2^(31-k%32):=by
   rw[Nat.div_lt_iff_lt_mul (Nat.pow_pos oz),Nat.mul_comm,<- hB];exact hw
  have h7:=mul_le_mul_left (2^(k%32+1)) (show w/2^(k%32+1)+1<=2^(31-k%32)from h6);rw[<- hB,Nat.mul_add,<- h4]at h7;omega
theorem Kh{q:List Nat}(hq:Ws q){k Y:Nat}(hk:k/32<q.length)(h:val q=2^(k+1)*Y) :
  val (q.set (k/32) (af q (k/32)+2^(k%32)))=2^k*(2*Y+1):=by
 have h1:=Az (x:=af q (k/32)+2^(k%32)) hk;rw[Nat.mul_add]at h1;have h2:4294967296^(k/32)*2^(k%32)=2^k:=by rw[tW,<- pow_add];congr 1;omega
 rw[h2,h,Nat.pow_succ]at h1;grind
theorem Mi{V Bv k:Nat}(hB:0<Bv) :
  (Bv<=2*(V/2^(k+1)%Bv)+V/2^k%2->V/2^k%Bv=2*(V/2^(k+1)%Bv)+V/2^k%2-Bv/\V/2^k/Bv=2*(V/2^(k+1)/Bv)+1) /\
  (2*(V/2^(k+1)%Bv)+V/2^k%2<Bv->V/2^k%Bv=2*(V/2^(k+1)%Bv)+V/2^k%2/\V/2^k/Bv=2*(V/2^(k+1)/Bv)):=by
 have h1:V/2^(k+1)=V/2^k/2:=by rw[Nat.pow_succ,Nat.div_div_eq_div_mul]
 rw[h1];generalize V/2^k=X;have h2:=Nat.div_add_mod X 2;have h3:=Nat.div_add_mod (X/2) Bv;have h4:=Nat.mod_lt (X/2) hB;have h5:=Nat.mod_lt X (show 0<2 by omega);generalize X/2%Bv=r at *;generalize X/2/Bv=q at *;generalize X%2=b at *;generalize X/2=Y at *;constructor
 ·intro h;have:=wi (a:=X) (w:=Bv) (q:=2*q+1) (r:=2*r+b-Bv) (by rw[Nat.mul_add,Nat.mul_one,show Bv*(2*q)=2*(Bv*q) by grind];omega) oz;exact⟨this.2,this.1⟩
 ·intro h;have:=wi (a:=X) (w:=Bv) (q:=2*q) (r:=2*r+b) (by rw[show Bv*(2*q)=2*(Bv*q) by grind];omega) oz;exact⟨this.2,this.1⟩
theorem Kj{A l:List Nat}(h:l.length=A.length):wr A 0 l=l:=by
 unfold wr;rw[drop_eq_nil_of_le oz];simp
theorem Cw{V:Nat}:V/2^aX V=0:=Nat.div_eq_of_lt vJ
theorem DK{a:List Nat}(ha:Ws a){k:Nat}(h:k<aX (val a)):k/32<a.length:=by
 rcases lt_or_ge (k/32) a.length with h1 |h1
 ·exact h1
 ·exfalso;have h2:=bW a ha;rw [tW] at h2;have h3:val a ≠ 0:=by intro h0; rw [h0] at h; simp [aX] at h
  have h4:=uF h3;have h5:2^(32*a.length)<=2^(aX (val a)-1):=oy oz;omega
theorem Td(a b:List Nat)(ha:Ws a)(hb:Ws b)(na:Nz a)(hb0:val b≠0)(la:a.length<aw)(lb:b.length<aw) :
  FP 361 [ws a,ws b] (.tup [ws (ofNat (val a/val b)),ws (ofNat (val a%val b))]):=by
 have la':=la;have lb':=lb;unfold aw at la lb;obtain⟨V,hV⟩:∃V,V=val a:=⟨_,rfl⟩
 obtain⟨Bv,hBv⟩:∃Bv,Bv=val b:=⟨_,rfl⟩
 have hBp:0<Bv:=by omega
 have hBl:2*Bv<=4294967296^(b.length+1):=by have:=bW b hb;rw[Nat.pow_succ];omega
 have hbl:aX V<=32*a.length:=by
  rcases Nat.eq_zero_or_pos (aX V)with h |h
  ·omega
  ·have := DK ha (k := aX V-1) (by rw[<- hV];omega);omega
 rw[<- hV,<- hBv];refine ah func361 ?_;refine gl ?_;refine gs (gS (.tmp rfl) T43 rfl T349 rfl rfl oz (by dsimp only;omega) rfl) ?_;refine gl ?_;refine ga (jm (y:=1) (by unfold aS;omega) (by unfold aS;omega)) ?_;refine gs (gS (.tmp rfl) T43 rfl T349 rfl rfl oz (by dsimp only;omega) rfl) ?_;refine gc (hV▸Pm a ha na oz) ?_;refine ga (dD oz) ?_;refine iR [0,1] [] (fun(q r:List Nat)(i:Nat)=>[(6,some (.ms 13 1 0 a.length)),(7,some (.ms 17 1 0 (b.length+1))),(8,some (i64 ((i:Int)-1)))]) (fun q r _=>[(13,some (.row 1 (q.map u32))),(17,some (.row 1 (r.map u32)))]) (fun q r i=>q.length=a.length/\r.length=b.length+1/\Ws q/\Ws r/\i<=aX V/\val r=V/2^i%Bv/\val q=2^i*(V/2^i/Bv)) (fun _ _ i=>i) (List.replicate a.length 0) (List.replicate (b.length+1) 0) (aX V) ⟨by simp,by simp,lL _,lL _,le_refl _,by rw[vi,Cw,Nat.zero_mod],by rw[vi,Cw,Nat.zero_div,Nat.mul_zero]⟩ ?_ (h2:=(.cons rfl (BlkSub.of (by rw[map_replicate];rfl)) (.cons rfl (BlkSub.of (by rw[map_replicate];rfl)) .nil)))
 rintro q r i ⟨hql,hrl,wq,wr',hi,hr,hq⟩ K1 J1;refine gC (fun t22=>?_) (fun t22=>?_) (st2:=(15,0))
 ·have hi0 : 1 <= i := by have := t22; simp [aa] at this; omega
  obtain⟨k,rfl⟩:∃k,i=k+1:=⟨i-1,by omega⟩
  rw[show((k+1:Nat):Int)-1=(k:Int) by omega];have hka:=DK ha (k:=k) (by rw[<- hV];omega);have hbit:=V5 ha hka;have hwB:=bO ha (k/32);rw[<- hV]at hbit;obtain⟨bit,hbt⟩:∃bit,bit=V/2^k%2:=⟨_,rfl⟩
  have hb1:bit<=1:=by omega
  have hrlt:=Nat.mod_lt (V/2^(k+1)) hBp;have hdw:af a (k/32)/2^(k%32)<=af a (k/32):=Nat.div_le_self _ _;refine gs (eJ (.tmp rfl) (.const _) oz (DG oz) rfl) ?_;refine gi (gy (n:=k/32) oz (by first |omega |(simp;omega))) ?_;refine gs (nH (.tmp rfl) (.const _) oz Eg rfl) ?_;refine gs (eK (.tmp rfl) (.tmp rfl) oz (pH _ (k%32) oz) rfl) ?_;refine gs (jp (.tmp rfl) (.const _) rfl ((BY (y:=1) oz oz).trans (show _=(bit:Int) by rw[Nat.and_one_is_mod,hbit,hbt])) rfl) ?_;refine iR [0,1,8,35] [13] (fun(o:List Nat)(c j:Nat)=>[(6,some (.ms 13 1 0 a.length)),(7,some (.ms 17 1 0 (b.length+1))),(9,some (u32 c)),(36,some (i64 j))]) (fun o _ _=>[(17,some (.row 1 (o.map u32)))]) (fun o c j=>o.length=b.length+1/\Ws o/\j<=b.length+1/\c<=1/\o.drop j=r.drop j/\val (o.take j)+c*4294967296^j=2*val (r.take j)+bit) (fun _ _ j=>b.length+1-j) r bit 0 ⟨hrl,wr',by omega,hb1,rfl,by simp[val]⟩ ?_
  rintro o c j ⟨hol,wo,hj,hc,hd,hv⟩ K2 J2;refine gC (fun t37=>?_) (fun t37=>?_)
  ·have hjn : j < b.length + 1 := by have := t37; simp [aa] at this; omega
   have e1:af o j=af r j:=pO hd;have h1:=bO wr' j;have h3:=U8 (w:=af r j) h1 hv;refine gs (bR (n:=j) (.tmp rfl) (.tmp rfl) T43 rfl T349 rfl oz (by first |omega |(simp;omega)) rfl) ?_;refine gs (dX (.tmp rfl) rfl (by rw[b7 (show j<o.length by omega),e1]) T349 rfl rfl rfl) ?_;refine gs (gI (.tmp rfl) (.const _) oz (IR (n:=1) oz) rfl) ?_;refine gs (jp (.tmp rfl) (.tmp rfl) rfl ((Bc oz oz).trans (by rw[OR hc])) rfl) ?_;refine gs (bR (n:=j) (.tmp rfl) (.tmp rfl) T43 rfl T349 rfl oz (by first |omega |(simp;omega)) rfl) ?_;refine gs (dX (.tmp rfl) rfl (by rw[b7 (show j<o.length by omega),e1]) T349 rfl rfl rfl) ?_;refine gs (eK (.tmp rfl) (.const _) oz (pH _ 31 oz) rfl) ?_;refine gs (bR (n:=j) (.tmp rfl) (.tmp rfl) T43 rfl T349 rfl oz (by first |omega |(simp;omega)) rfl) ?_;refine gs (dG (.tmp rfl) rfl (b7 (i:=j) oz) rfl (.tmp rfl) rfl rfl T349 rfl rfl) ?_;refine gD ?_;refine ga (c9 oz) ?_;exact gP J2 (o.set j (af r j*2^1%4294967296+c)) (af r j/2^31) (j+1) ⟨by simp[hol],fO wo oz,by omega,by omega,r4 hd,by rw[lA oz,dk];rw[show 4294967296^(j+1)=4294967296^j*4294967296 from Nat.pow_succ _ _];exact h3⟩ (hw:=Wk.of aV (.cons rfl (BlkSub.of (by rw[map_set];rfl)) (.k .nil)))
  have hjn:j=b.length+1:=by have:b.length+1<=j:=(by have:=t37;simp[aa]at this;omega);omega
  subst hjn;rw[eO (l:=r) oz,eO (l:=o) oz,hr]at hv
  have hc0:c=0:=by
   cases c with
   |zero=>rfl
   |succ c=>rw[Nat.succ_mul]at hv;omega
  subst hc0;rw[Nat.zero_mul,Nat.add_zero]at hv;have hot:o.take (b.length+1)=o:=take_of_length_le oz;obtain⟨d1,d2⟩:=Mi (V:=V) (k:=k) hBp;rw[<- hbt]at d1 d2;have hcmp:=UG 17 o b (b.length+1) wo hb oz;rw[hot,<- hBv,hv]at hcmp;have hqk:k/32<q.length:=by omega
  obtain⟨w1,w2⟩:=RH wq hqk hq;have w3:=Kh wq hqk hq;refine gt (ay hcmp (bm rfl rfl) az rfl rfl) ?_;refine gC (fun t58=>?_) (fun t58=>?_)
  ·have hge:Bv<=2*(V/2^(k+1)%Bv)+bit:=by
    rcases lt_or_ge (2*(V/2^(k+1)%Bv)+bit) Bv with h |h
    ·rw[if_pos h]at t58;cases t58
    ·exact h
   obtain⟨d3,d4⟩:=d1 hge;have htk:=Gh o b (b.length+1) wo hb oz (by unfold aw;omega) (by rw[hot,<- hBv,hv];exact hge);rw[hot,<- hBv,hv,<- d3,Kj (by rw[fc,hol])]at htk;have hx2:V/2^k%Bv<4294967296^(b.length+1):=by have:=Nat.mod_lt (V/2^k) hBp;omega
   refine gt (ay (Con.rk 17 rfl rfl htk) (bm rfl rfl) az rfl rfl) ?_;refine gs (eJ (.tmp rfl) (.const _) oz (DG oz) rfl) ?_;refine gs (bR (n:=k/32) (.tmp rfl) (.tmp rfl) T43 rfl T349 rfl oz oz rfl) ?_;refine gs (dX (.tmp rfl) rfl (b7 (i:=k/32) hqk) T349 rfl rfl rfl) ?_;refine gs (nH (.tmp rfl) (.const _) oz Eg rfl) ?_;refine gs (gI (.const _) (.tmp rfl) oz ((IR (x:=1) (n:=k%32) oz).trans (show _=((2^(k%32):Nat):Int) by rw[Nat.one_mul,Nat.mod_eq_of_lt (lt_of_le_of_lt (Nat.le_add_left _ _) w2)])) rfl) ?_;refine gs (jp (.tmp rfl) (.tmp rfl) rfl ((Bc (bO wq _) (lt_of_le_of_lt (Nat.le_add_left _ _) w2)).trans (by rw[w1])) rfl) ?_;refine gs (bR (n:=k/32) (.tmp rfl) (.tmp rfl) T43 rfl T349 rfl oz oz rfl) ?_;refine gs (dG (.tmp rfl) rfl (b7 (i:=k/32) hqk) rfl (.tmp rfl) rfl rfl T349 rfl rfl) ?_;refine gD ?_;refine ga (dD oz) ?_;exact gP J1 (q.set (k/32) (af q (k/32)+2^(k%32))) (a7 (b.length+1) (V/2^k%Bv)) k ⟨by simp[hql],fc _ _,fO wq w2,jL _ _,by omega,lM _ _ hx2,by rw[w3,d4]⟩ (hw:=Wk.of aV (.cons rfl (BlkSub.of (by first |rfl |(rw[map_set];rfl))) (.k .nil)))
  have hge:2*(V/2^(k+1)%Bv)+bit<Bv:=by
   rcases lt_or_ge (2*(V/2^(k+1)%Bv)+bit) Bv with h |h
   ·exact h
   ·rw[if_neg oz]at t58;split at t58 <;> cases t58
  obtain⟨d3,d4⟩:=d2 hge;refine ga (dD oz) ?_;exact gP J1 q o k ⟨hql,hol,wq,wo,by omega,by rw[hv,d3],by rw[hq,d4,Nat.pow_succ,Nat.mul_assoc]⟩ (hw:=Wk.of aV (.cons rfl (BlkSub.of (by first |rfl |(rw[map_set];rfl))) (.k .nil)))
 have hi0:i=0:=by have:=t22;simp[aa]at this;omega
 subst hi0;refine gW ((Wk.freeze (k:=13) rfl).trans<|(Wk.freeze (k:=17) rfl).trans<|Wk.of (sl:=[(6,some (ws q)),(7,some (ws r))]) (hp:=[]) (.cons rfl (Sub.of (by rw[show AV.fz 13 1 (q.map u32) (.ms 13 1 0 a.length)=ws q from bN (by simp[hql])];rfl)) (.cons rfl (Sub.of (bN (by simp[hrl]))) .nil)) .nil) ?_;refine gc (pi q wq oz) ?_;refine gc (pi r wr' (by unfold aw;omega)) ?_;refine ba ?_;rw[hr,hq];simp[]
def iy(L:Nat)(A:List Nat)(n:Nat):Prop:=Ws A/\n<=A.length/\A.length<=L/\n=(ofNat (val (A.take n))).length
theorem On(v:Nat):ofNat v=a7 (ofNat v).length v:=by
 have h:=rX (ofNat v) (de _)
 rwa [bZ]at h
theorem jJ{L:Nat}{A:List Nat}{n v:Nat}(h:iy L A n)(hv:v<=val (A.take n)) :
  iy L (wr A 0 (a7 n v)) (ofNat v).length/\val ((wr A 0 (a7 n v)).take (ofNat v).length)=v/\val ((wr A 0 (a7 n v)).take n)=v:=by
 obtain⟨hw,hn,hl,hN⟩:=h;have hlt:=oO hw n;have hvl:v<4294967296^n:=by omega
 have hle:(ofNat v).length<=n:=eY hvl
 have ht:(wr A 0 (a7 n v)).take n=a7 n v:=by
  unfold wr;rw[List.take_zero,nil_append,List.take_append_of_le_length (by rw[fc];omega),take_of_length_le (by rw[fc];omega)]
 have ht2:(wr A 0 (a7 n v)).take (ofNat v).length=ofNat v:=by
  have h1:((wr A 0 (a7 n v)).take n).take (ofNat v).length=(wr A 0 (a7 n v)).take (ofNat v).length:=by rw[List.take_take,Nat.min_eq_left hle]
  rw[<- h1,ht,yc _ _ _ hle,<- On]
 have hlen:(wr A 0 (a7 n v)).length=A.length:=l8 (by rw[fc];omega);refine⟨⟨pF hw (jL _ _),by omega,by omega,by rw[ht2,bZ]⟩,by rw[ht2,bZ],by rw[ht,lM _ _ hvl]⟩
theorem gK{L:Nat}{A:List Nat}{n:Nat}(h:iy L A n)(hx:0<val (A.take n)):0<n/\val (A.take n)%2=af A 0%2:=by
 have hn:0<n:=by
  rcases Nat.eq_zero_or_pos n with h0 |h0
  ·subst h0;simp[val]at hx
  ·exact h0
 refine⟨hn,?_⟩;have:=uc (A.take n) 0;rw[drop_zero,nU hn]at this;omega
theorem J6{L:Nat}{A:List Nat}{n:Nat}(h:iy L A n):A.take n=ofNat (val (A.take n)):=by
 obtain⟨hw,hn,hl,hN⟩:=h;have h1:=Ib (fQ hw n);rw[<- hN,List.take_take,Nat.min_self]at h1;exact h1
theorem E8{L:Nat}{A:List Nat}{n:Nat}(h:iy L A n):n=0↔val (A.take n)=0:=by
 constructor
 ·intro h0;subst h0;rfl
 ·intro h0;have h1:=h.2.2.2;rw[h0]at h1;exact h1
theorem VM{x y:Nat}(hx:x%2=0)(hy:y%2=0):Nat.gcd x y=2*Nat.gcd (x/2) (y/2):=by
 rw[<- Nat.gcd_mul_left,Nat.mul_div_cancel' (Nat.dvd_of_mod_eq_zero hx),Nat.mul_div_cancel' (Nat.dvd_of_mod_eq_zero hy)]
theorem H0{x y:Nat}(hx:x%2=0)(hy:y%2=1):Nat.gcd (x/2) y=Nat.gcd x y:=by
 have h1:x=2*(x/2):=by omega
 have h2:Nat.Coprime 2 y:=by
  rw[Nat.Coprime,Nat.gcd_rec,hy];rfl
 conv=>rhs;rw[h1]
 exact(Nat.Coprime.gcd_mul_left_cancel _ h2).symm
theorem D5{x y:Nat}(h:y<=x):Nat.gcd (x-y) y=Nat.gcd x y:=Nat.gcd_sub_self_left h
theorem E5{t L g V:Nat}(hg:0<g)(h:2^t*g<=V)(hV:V<4294967296^L):t<32*L:=by
 rw[tW]at hV;have h1:=mul_le_mul_left (2^t) (show 1<=g from hg);rcases lt_or_ge t (32*L)with h2 |h2
 ·exact h2
 ·have:=oy h2;omega
theorem C0(A D:List Nat)(n p:Nat)(hA:Ws A)(hD:Ws D)(hn:n<=A.length)(hp:p<=D.length)(la:A.length<=aw)(hle:val (D.take p)<=val (A.take n)) :
  Con prog 391 [.ms 901 1 0 n,.ms 902 1 0 p] [(902,some (.row 1 (D.map u32))),(901,some (.row 1 (A.map u32)))] (.tup [])
   [(902,some (.row 1 (D.map u32))),(901,some (.row 1 ((wr A 0 (a7 n (val (A.take n)-val (D.take p)))).map u32)))]:=by
 have h1:=Con.rk 901 rfl rfl (Gh A (D.take p) n hA (fQ hD p) hn la hle);refine Con.borrow (args:=[.ms 901 1 0 n,ws (D.take p)]) 902 1 (D.map u32) rfl rfl rfl ?_ rfl ?_ h1
 ·intro j x' hj
  match j,hj with
  |0,hj=>cases hj;exact .inl rfl
  |1,hj=>cases hj;exact .inr ⟨0,p,rfl,by simpa using hp,by rw[qo];rfl⟩
 ·intro k' x h;obtain⟨_,h⟩:=fx h;cases h;exact I4 _
theorem vX{A:List Nat}(hA:Ws A){i:Nat}:nF .and .u32 (af A i:Int) 1=((af A i%2:Nat):Int) :=
 (BY (y:=1) (bO hA i) oz).trans (by rw[Nat.and_one_is_mod])
theorem Kb(a b:List Nat)(ha:Ws a)(hb:Ws b)(na:Nz a)(nb:Nz b)(la:a.length+b.length<aw):FP 360 [ws a,ws b] (ws (ofNat (Nat.gcd (val a) (val b)))):=by
 have la':=la;unfold aw at la;have ea:=pI ha na;have eb:=pI hb nb;obtain⟨L,hL⟩:∃L,L=a.length+b.length:=⟨_,rfl⟩
 obtain⟨G,hG⟩:∃G,G=Nat.gcd (val a) (val b):=⟨_,rfl⟩
 rw[<- hG];refine ah func360 ?_;refine gt (ay (A9 901 rfl a ha (by unfold aw;omega)) (cR rfl) az rfl rfl) ?_;refine gt (ay (A9 902 rfl b hb (by unfold aw;omega)) (cR rfl) az rfl rfl) ?_ (2,0);refine gW (Wk.of (sl:=[(0,some (.ms 901 1 0 a.length)),(1,some (.ms 902 1 0 b.length))]) (hp:=[(901,some (.row 1 (a.map u32))),(902,some (.row 1 (b.map u32)))]) (.cons rfl (Sub.of (by rw[ea])) (.cons rfl (Sub.of (by rw[eb])) .nil)) (.k (.k .nil))) ?_;refine gC (fun t12=>?_) (fun t12=>?_) (st1:=(3,0))
 ·have h0 : a=[] := List.length_eq_zero_iff.1 (by simpa[aa]using t12);refine gW ((Wk.freeze (k:=902) rfl).trans<|Wk.of (sl:=[(1,some (ws b))]) (hp:=[]) (.cons rfl (Sub.of (bN (by simp))) .nil) .nil) ?_;refine ae ?_;rw[hG,h0];simp[val,eb]
 have h0:a≠[]:=fun h=>by rw[h]at t12;simp[aa]at t12
 refine gC (fun t16=>?_) (fun t16=>?_) (st1:=(5,0))
 ·have h1 : b=[] := List.length_eq_zero_iff.1 (by simpa[aa]using t16);refine gW ((Wk.freeze (k:=901) rfl).trans<|Wk.of (sl:=[(0,some (ws a))]) (hp:=[]) (.cons rfl (Sub.of (bN (by simp))) .nil) .nil) ?_;refine ae ?_;rw[hG,h1];simp[val,ea]
 have h1:b≠[]:=fun h=>by rw[h]at t16;simp[aa]at t16
 have va:=nK na h0;have vb:=nK nb h1;have hGp:0<G:=by rw[hG];exact Nat.gcd_pos_of_pos_left _ va
 have hGa:G<=val a:=by rw[hG];exact Nat.gcd_le_left _ va
 have vla:=bW a ha;refine HA [] [] (fun(A D:List Nat)(n p t:Nat)=>[(0,some (.ms 901 1 0 n)),(1,some (.ms 902 1 0 p)),(5,some (i64 t))]) (fun A D _ _ _=>[(901,some (.row 1 (A.map u32))),(902,some (.row 1 (D.map u32)))]) (fun A D n p t=>iy L A n/\iy L D p/\0<val (A.take n)/\0<val (D.take p)/\G=2^t*Nat.gcd (val (A.take n)) (val (D.take p))) (fun A _ n _ _=>val (A.take n)) a b a.length b.length 0 ⟨⟨ha,le_refl _,by omega,by rw[take_length,ea]⟩,⟨hb,le_refl _,by omega,by rw[take_length,eb]⟩,by rw[take_length];exact va,by rw[take_length];exact vb,by rw[take_length,take_length,hG];simp⟩ ?_
 rintro A D n p t ⟨gA,gD,pA,pD,hg⟩ K1 J1;refine gs (bR (n:=0) (.tmp rfl) (.const _) T43 rfl T349 rfl oz (by have:=(gK gA pA).1;omega) rfl) ?_;refine gs (dX (.tmp rfl) rfl (b7 (i:=0) (by have:=(gK gA pA).1;have:=gA.2.1;omega)) T349 rfl rfl rfl) ?_;refine gs (jp (.tmp rfl) (.const _) rfl (vX gA.1) rfl) ?_;refine gs (ee rfl rfl rfl (fun h=>bR (n:=0) (.opt rfl (o1 h)) (.const _) T43 rfl T349 rfl oz (by have:=(gK gD pD).1;omega) rfl)) ?_;refine gs (ee rfl rfl rfl (fun h=>dX (.opt rfl (o1 h)) rfl (b7 (i:=0) (by have:=(gK gD pD).1;have:=gD.2.1;omega)) T349 rfl rfl rfl)) ?_;refine gs (ee rfl rfl rfl (fun h=>jp (.opt rfl (o1 h)) (.const _) rfl (vX gD.1) rfl)) ?_;refine gC (fun t29=>?_) (fun t29=>?_)
 ·have hev:af A 0%2=0/\af D 0%2=0:=by
   have:=t29;simp[aa]at this;omega
  have xA:val (A.take n)%2=0:=by rw[(gK gA pA).2];exact hev.1
  have xD:val (D.take p)%2=0:=by rw[(gK gD pD).2];exact hev.2
  obtain⟨k1,k2,k3⟩:=jJ gA (v:=val (A.take n)/2) oz;obtain⟨m1,m2,m3⟩:=jJ gD (v:=val (D.take p)/2) oz;have ht:t<32*a.length:=E5 (Nat.gcd_pos_of_pos_left _ pA) (by rw[<- hg];exact hGa) vla;refine gt (ay (Con.rekeyR 901 rfl (uf A n gA.1 gA.2.1 (by have:=gA.2.2.1;unfold aw;omega))) (cR rfl) az rfl rfl) ?_;refine gt (ay (Con.rekeyR 902 rfl (uf D p gD.1 gD.2.1 (by have:=gD.2.2.1;unfold aw;omega))) (cR rfl) az rfl rfl) ?_;refine ga (show _=((t+1:Nat):Int) by rw[c9 oz];omega) ?_;exact IL J1 (wr A 0 (a7 n (val (A.take n)/2))) (wr D 0 (a7 p (val (D.take p)/2))) ((ofNat (val (A.take n)/2)).length) ((ofNat (val (D.take p)/2)).length) (t+1) ⟨k1,m1,by rw[k2];omega,by rw[m2];omega,by rw[k2,m2,hg,VM xA xD,Nat.pow_succ];grind⟩ (by rw[k2];omega)
 have hod:val (A.take n)%2=1\/val (D.take p)%2=1:=by
  rw[(gK gA pA).2,(gK gD pD).2];have:=t29;simp[aa]at this;omega
 refine Ru [5] [] (fun(A1 D1:List Nat)(n1 p1:Nat)=>[(0,some (.ms 901 1 0 n1)),(1,some (.ms 902 1 0 p1))]) (fun A1 D1 _ _=>[(901,some (.row 1 (A1.map u32))),(902,some (.row 1 (D1.map u32)))]) (fun A1 D1 n1 p1=>iy L A1 n1/\iy L D1 p1/\0<val (D1.take p1)/\(val (A1.take n1)%2=1\/val (D1.take p1)%2=1)/\G=2^t*Nat.gcd (val (A1.take n1)) (val (D1.take p1))) (fun A1 D1 n1 p1=>val (A1.take n1)+val (D1.take p1)) A D n p ⟨gA,gD,pD,hod,hg⟩ ?_
 rintro A1 D1 n1 p1 ⟨gA1,gD1,pD1,hod1,hg1⟩ K2 J2;refine gC (fun t38=>?_) (fun t38=>?_) (st2:=(19,0))
 ·have pA1:0<val (A1.take n1):=by
   have h3:n1≠0:=by have:=t38;simp[aa]at this;omega
   exact Nat.pos_of_ne_zero (fun h=>h3 ((E8 gA1).2 h))
  refine gx [5] [902] (fun(A2:List Nat)(n2:Nat)=>[(0,some (.ms 901 1 0 n2)),(1,some (.ms 902 1 0 p1))]) (fun A2 _=>[(901,some (.row 1 (A2.map u32)))]) (fun A2 n2=>iy L A2 n2/\0<val (A2.take n2)/\val (A2.take n2)<=val (A1.take n1)/\(val (A2.take n2)%2=1\/val (D1.take p1)%2=1)/\Nat.gcd (val (A2.take n2)) (val (D1.take p1))=Nat.gcd (val (A1.take n1)) (val (D1.take p1))) (fun A2 n2=>val (A2.take n2)) A1 n1 ⟨gA1,pA1,le_refl _,hod1,rfl⟩ ?_
  rintro A2 n2 ⟨gA2,pA2,lA2,hod2,hg2⟩ K3 J3;refine gs (bR (n:=0) (.tmp rfl) (.const _) T43 rfl T349 rfl oz (by have:=(gK gA2 pA2).1;omega) rfl) ?_;refine gs (dX (.tmp rfl) rfl (b7 (i:=0) (by have:=(gK gA2 pA2).1;have:=gA2.2.1;omega)) T349 rfl rfl rfl) ?_;refine gs (jp (.tmp rfl) (.const _) rfl (vX gA2.1) rfl) ?_;refine gC (fun t43=>?_) (fun t43=>?_)
  ·have xA2:val (A2.take n2)%2=0:=by
    rw[(gK gA2 pA2).2];have:=t43;simp[aa]at this;omega
   obtain⟨k1,k2,k3⟩:=jJ gA2 (v:=val (A2.take n2)/2) oz;refine gt (ay (Con.rekeyR 901 rfl (uf A2 n2 gA2.1 gA2.2.1 (by have:=gA2.2.2.1;unfold aw;omega))) (cR rfl) az rfl rfl) ?_;exact fY J3 (wr A2 0 (a7 n2 (val (A2.take n2)/2))) ((ofNat (val (A2.take n2)/2)).length) ⟨k1,by rw[k2];omega,by rw[k2];omega,.inr oz,by rw[k2,H0 xA2 oz,hg2]⟩ (by rw[k2];omega)
  have xA2:val (A2.take n2)%2=1:=by
   rw[(gK gA2 pA2).2];have:=t43;simp[aa]at this;omega
  refine gx [5] [901] (fun(D2:List Nat)(p2:Nat)=>[(0,some (.ms 901 1 0 n2)),(1,some (.ms 902 1 0 p2))]) (fun D2 _=>[(902,some (.row 1 (D2.map u32)))]) (fun D2 p2=>iy L D2 p2/\0<val (D2.take p2)/\val (D2.take p2)<=val (D1.take p1)/\Nat.gcd (val (A2.take n2)) (val (D2.take p2))=Nat.gcd (val (A2.take n2)) (val (D1.take p1))) (fun D2 p2=>val (D2.take p2)) D1 p1 ⟨gD1,pD1,le_refl _,rfl⟩ ?_;rintro D2 p2 ⟨gD2,pD2,lD2,hg3⟩ K4 J4;refine gs (bR (n:=0) (.tmp rfl) (.const _) T43 rfl T349 rfl oz (by have:=(gK gD2 pD2).1;omega) rfl) ?_;refine gs (dX (.tmp rfl) rfl (b7 (i:=0) (by have:=(gK gD2 pD2).1;have:=gD2.2.1;omega)) T349 rfl rfl rfl) ?_;refine gs (jp (.tmp rfl) (.const _) rfl (vX gD2.1) rfl) ?_;refine gC (fun t50=>?_) (fun t50=>?_)
  ·have xD2:val (D2.take p2)%2=0:=by
    rw[(gK gD2 pD2).2];have:=t50;simp[aa]at this;omega
   obtain⟨k1,k2,k3⟩:=jJ gD2 (v:=val (D2.take p2)/2) oz;refine gt (ay (Con.rekeyR 902 rfl (uf D2 p2 gD2.1 gD2.2.1 (by have:=gD2.2.2.1;unfold aw;omega))) (cR rfl) az rfl rfl) ?_;exact fY J4 (wr D2 0 (a7 p2 (val (D2.take p2)/2))) ((ofNat (val (D2.take p2)/2)).length) ⟨k1,by rw[k2];omega,by rw[k2];omega,by rw[k2,Nat.gcd_comm,H0 xD2 xA2,Nat.gcd_comm,hg3]⟩ (by rw[k2];omega)
  have xD2:val (D2.take p2)%2=1:=by
   rw[(gK gD2 pD2).2];have:=t50;simp[aa]at this;omega
  refine gt (ay (OP 901 902 oz A2 D2 n2 p2 gA2.1 gD2.1 gA2.2.1 gD2.2.1) (bm rfl rfl) az rfl rfl) ?_;refine gC (fun t56=>?_) (fun t56=>?_) (st1:=(17,0)) (st2:=(77777,0))
  ·have hlt:val (A2.take n2)<val (D2.take p2):=by
    rcases lt_or_ge (val (A2.take n2)) (val (D2.take p2))with h |h
    ·exact h
    ·rw[if_neg oz]at t56;split at t56 <;> cases t56
   refine gW (Wk.o (sl:=[(0,some (.ms 902 1 0 p2)),(1,some (.ms 901 1 0 n2)),(5,some (i64 t))]) (hp:=[(901,some (.row 1 (A2.map u32))),(902,some (.row 1 (D2.map u32)))])) ?_ (17,0);refine gW (Wk.rk (k:=901) (d:=903) rfl rfl) ?_ (17,0);refine gW (Wk.rk (k:=902) (d:=901) rfl rfl) ?_ (17,0);refine gW (Wk.rk (k:=903) (d:=902) rfl rfl) ?_ (17,0);refine gW (Wk.of (sl:=[(0,some (.ms 901 1 0 p2)),(1,some (.ms 902 1 0 n2)),(5,some (i64 t))]) (hp:=[(901,some (.row 1 (D2.map u32))),(902,some (.row 1 (A2.map u32)))]) (.cons rfl (Sub.refl _) (.cons rfl (Sub.refl _) (.cons rfl (Sub.refl _) .nil))) (.k (.k .nil))) ?_ (17,0);obtain⟨A3,D3,n3,p3,gA3,gD3,xA3,xD3,hle3,hg4,hs3,e1,e2,e3,e4⟩:∃A3 D3 n3 p3,iy L A3 n3/\iy L D3 p3/\val (A3.take n3)%2=1/\val (D3.take p3)%2=1/\val (D3.take p3)<=val (A3.take n3)/\Nat.gcd (val (A3.take n3)) (val (D3.take p3))=Nat.gcd (val (A2.take n2)) (val (D2.take p2))/\val (A3.take n3)+val (D3.take p3)=val (A2.take n2)+val (D2.take p2)/\A3=D2/\n3=p2/\D3=A2/\p3=n2:=⟨D2,A2,p2,n2,gD2,gA2,xD2,xA2,by omega,Nat.gcd_comm _ _,Nat.add_comm _ _,rfl,rfl,rfl,rfl⟩
   rw[<- e1,<- e2,<- e3,<- e4];refine go ?_;refine gt (ay (C0 A3 D3 n3 p3 gA3.1 gD3.1 gA3.2.1 gD3.2.1 (by have:=gA3.2.2.1;unfold aw;omega) hle3) (bm rfl rfl) az rfl rfl) ?_;refine gt (ay (Con.rekeyR 901 rfl (Bl (wr A3 0 (a7 n3 (val (A3.take n3)-val (D3.take p3)))) n3 (pF gA3.1 (jL _ _)) (by rw[l8 (by rw[fc];have:=gA3.2.1;omega)];exact gA3.2.1) (by rw[l8 (by rw[fc];have:=gA3.2.1;omega)];have:=gA3.2.2.1;unfold aw;omega))) (cR rfl) az rfl rfl) ?_;exact Hb J2 (wr A3 0 (a7 n3 (val (A3.take n3)-val (D3.take p3)))) D3 ((ofNat (val (A3.take n3)-val (D3.take p3))).length) p3 ⟨(jJ gA3 oz).1,gD3,by omega,.inr xD3,by rw[(jJ gA3 (v:=val (A3.take n3)-val (D3.take p3)) oz).2.1,D5 hle3,hg4,hg3,hg2,hg1]⟩ (by rw[(jJ gA3 (v:=val (A3.take n3)-val (D3.take p3)) oz).2.1];omega) (hw:=Wk.of (.cons rfl (Sub.of (by rw[(jJ gA3 (v:=val (A3.take n3)-val (D3.take p3)) oz).2.2])) (.k (.k .nil))) (.k (.k .nil)))
  have hlt:val (D2.take p2)<=val (A2.take n2):=by
   rcases lt_or_ge (val (A2.take n2)) (val (D2.take p2))with h |h
   ·rw[if_pos h]at t56;cases t56
   ·exact h
  refine gW (Wk.o (sl:=[(0,some (.ms 901 1 0 n2)),(1,some (.ms 902 1 0 p2)),(5,some (i64 t))]) (hp:=[(901,some (.row 1 (A2.map u32))),(902,some (.row 1 (D2.map u32)))])) ?_ (77777,0);obtain⟨A3,D3,n3,p3,gA3,gD3,xA3,xD3,hle3,hg4,hs3,e1,e2,e3,e4⟩:∃A3 D3 n3 p3,iy L A3 n3/\iy L D3 p3/\val (A3.take n3)%2=1/\val (D3.take p3)%2=1/\val (D3.take p3)<=val (A3.take n3)/\Nat.gcd (val (A3.take n3)) (val (D3.take p3))=Nat.gcd (val (A2.take n2)) (val (D2.take p2))/\val (A3.take n3)+val (D3.take p3)=val (A2.take n2)+val (D2.take p2)/\A3=A2/\n3=n2/\D3=D2/\p3=p2:=⟨A2,D2,n2,p2,gA2,gD2,xA2,xD2,hlt,rfl,rfl,rfl,rfl,rfl,rfl⟩
  rw[<- e1,<- e2,<- e3,<- e4];obtain⟨k1,k2,k3⟩:=jJ gA3 (v:=val (A3.take n3)-val (D3.take p3)) oz;refine go ?_;refine gt (ay (C0 A3 D3 n3 p3 gA3.1 gD3.1 gA3.2.1 gD3.2.1 (by have:=gA3.2.2.1;unfold aw;omega) hle3) (bm rfl rfl) az rfl rfl) ?_;refine gt (ay (Con.rekeyR 901 rfl (Bl (wr A3 0 (a7 n3 (val (A3.take n3)-val (D3.take p3)))) n3 (pF gA3.1 (jL _ _)) (by rw[l8 (by rw[fc];have:=gA3.2.1;omega)];exact gA3.2.1) (by rw[l8 (by rw[fc];have:=gA3.2.1;omega)];have:=gA3.2.2.1;unfold aw;omega))) (cR rfl) az rfl rfl) ?_;exact Hb J2 (wr A3 0 (a7 n3 (val (A3.take n3)-val (D3.take p3)))) D3 ((ofNat (val (A3.take n3)-val (D3.take p3))).length) p3 ⟨(jJ gA3 oz).1,gD3,by omega,.inr xD3,by rw[(jJ gA3 (v:=val (A3.take n3)-val (D3.take p3)) oz).2.1,D5 hle3,hg4,hg3,hg2,hg1]⟩ (by rw[(jJ gA3 (v:=val (A3.take n3)-val (D3.take p3)) oz).2.1];omega) (hw:=Wk.of (.cons rfl (Sub.of (by rw[(jJ gA3 (v:=val (A3.take n3)-val (D3.take p3)) oz).2.2])) (.k (.k .nil))) (.k (.k .nil)))
 have zA1:val (A1.take n1)=0:=by
  have h3:n1=0:=by have:=t38;simp[aa]at this;omega
  exact(E8 gA1).1 h3
 rw[zA1,Nat.gcd_zero_left]at hg1;refine gW ((Wk.freeze (k:=902) rfl).trans<|Wk.of (sl:=[(1,some (ws (ofNat (val (D1.take p1))))),(5,some (i64 t))]) (hp:=[]) (.cons rfl (Sub.of (by rw[vk (by rw[length_map];have:=gD1.2.1;omega),qo,<- J6 gD1])) (.k .nil)) .nil) ?_;refine aI [64] [] (fun(i:Nat)=>[(1,some (ws (ofNat (2^i*val (D1.take p1))))),(65,some (i64 i))]) (fun _=>[]) (fun i=>i<=t) (fun i=>t-i) 0 (zero_le _) ?_ (h1:=(.cons rfl (Sub.of (by rw[Nat.pow_zero,Nat.one_mul])) (.k .nil)));rintro i hit K5 J5;refine gC (fun t66=>?_) (fun t66=>?_)
 ·have hin : i < t := by simpa [aa] using t66
  have h3:2^i*val (D1.take p1)<=G:=by rw[hg1];exact mul_le_mul_right _ (oy oz)
  have h4:(ofNat (2^i*val (D1.take p1))).length<=a.length:=eY oz;have ht:t<32*a.length:=E5 pD1 (by rw[<- hg1];exact hGa) vla;refine gc (yW _ _ (de _) (de _) (by unfold aw;omega) (by unfold aw;omega)) ?_;refine ga (c9 oz) ?_;exact aE J5 (i+1) hin (hw:=Wk.of (.cons rfl (Sub.of (by rw[bZ,Nat.pow_succ];congr 2;grind)) (.k (.k .nil))) .nil)
 have hin:i=t:=by have:t<=i:=(by simpa[aa]using t66);omega
 subst hin;refine ae ?_;rw[hg1]
theorem EN(a b:Wh)(ha:a.ok)(hb:b.ok)(la:a.mag.length+b.mag.length<aw):FP 280 [a.av,b.av] (zA (Int.gcd a.z b.z)):=by
 have h1:=Wh.m_le (w:=a);have h2:=Wh.m_le (w:=b);have h3:Int.gcd a.z b.z=Nat.gcd (val a.m) (val b.m):=by rw[Int.gcd,Wh.abs,Wh.abs]
 have h4:(ofNat (Nat.gcd (val a.m) (val b.m))).length<=a.m.length+b.m.length:=by
  rcases Nat.eq_zero_or_pos (val a.m)with h |h
  ·rw[h,Nat.gcd_zero_left,Wh.ofNat_m hb];omega
  ·exact le_trans (eY (lt_of_le_of_lt (Nat.gcd_le_left _ h) (bW _ (Wh.ws ha)))) oz
 refine ah func280 ?_;refine gc (ku a ha) ?_;refine gc (ku b hb) ?_;refine gc (Kb a.m b.m (Wh.ws ha) (Wh.ws hb) a.nz b.nz oz) ?_;refine gc (jR false _ (de _) oz) ?_;refine gD ?_;refine ae ?_;rw[bZ,h3];rfl
theorem RJ(a b:Wh)(ha:a.ok)(hb:b.ok)(la:a.mag.length+1<aw)(lb:b.mag.length<aw)(h0:b.z≠0):FP 281 [a.av,b.av] (.tup [zA (a.z/b.z),zA (a.z%b.z),i64 0]):=by
 have hm1:=Wh.m_le (w:=a);have hm2:=Wh.m_le (w:=b);have hb1:val b.m≠0:=by have:=Wh.abs (w:=b);omega
 have hl1:(ofNat (val a.m/val b.m)).length<=a.m.length:=eY (lt_of_le_of_lt (Nat.div_le_self _ _) (bW _ (Wh.ws ha)));have hmod:=Nat.mod_lt (val a.m) (show 0<val b.m by omega);have hl2:(ofNat (val a.m%val b.m)).length<=b.m.length:=eY (Nat.lt_trans hmod (bW _ (Wh.ws hb)));have hl3:(ofNat (val a.m/val b.m+1)).length<=a.m.length+1:=eY (by have h7:=lt_of_le_of_lt (Nat.div_le_self (val a.m) (val b.m)) (bW _ (Wh.ws ha));rw[Nat.pow_succ];generalize val a.m/val b.m=m at *;omega);have hl4:(ofNat (val b.m-val a.m%val b.m)).length<=b.m.length:=eY (by have:=bW _ (Wh.ws hb);omega);have hv1:val [1]=1:=rfl;refine ah func281 ?_;refine gc (zG b hb) ?_;refine gC (fun t11=>?_) (fun t11=>?_) (st1:=(2,0));exact absurd (Int.sign_eq_zero_iff_zero.1 (by simpa[aa]using t11)) h0;refine gc (ku a ha) ?_;refine gc (ku b hb) ?_;refine gc (Td a.m b.m (Wh.ws ha) (Wh.ws hb) a.nz hb1 oz oz) ?_;refine gD ?_;refine gc (iK a ha) ?_;refine ci ?_;refine gC (fun t28=>?_) (fun t28=>?_)
 ·have h1:a.n = true /\ 0 < val a.m % val b.m:=uP.1 t28;obtain ⟨e1,e2⟩:=IS hb1 h1.1 h1.2;refine gc (yW (ofNat (val a.m / val b.m)) [1] (de _) (rI oz) oz (by unfold aw; simp)) ?_;refine gc (ku b hb) ?_;refine gc (AO b.m (ofNat (val a.m % val b.m)) (Wh.ws hb) (de _) oz (by rw [bZ]; omega)) ?_;refine gD ?_ (6,0);refine gW (Wk.of (sl:=[(2,some (.ptr 2 0)),(3,some (.ptr 3 0)),(4,some (.ptr 4 0)),(5,some (.ptr 5 0)),(7,some (ws (ofNat (val a.m / val b.m + 1)))),(8,some (ws (ofNat (val b.m - val a.m % val b.m))))]) (hp:=[(2,some (.box [bl a.neg,ws a.mag])),(3,some (.box [bl b.neg,ws b.mag])),(4,some (.box [.v (.bool false),nS])),(5,some (.box [.v (.bool false),nS]))]) (.k (.k (.k (.k (.cons rfl (Sub.of (by rw [bZ,hv1])) (.cons rfl (Sub.of (by rw [bZ])) .nil)))))) (.k (.k (.k (.k .nil))))) ?_
  refine gc (iK a ha) ?_;refine gc (iK b hb) ?_;refine gc (by apply jR _ _ (de _) oz) ?_;refine gc (by apply jR _ _ (de _) oz) ?_;refine gD ?_;refine gR ?_;exact s8 (by rw[bZ,bZ,e1,show sgn false _=_ from e2];rfl)
 have h1:¬(a.n=true/\0<val a.m%val b.m):=fun h=>Bool.eq_false_iff.1 t28 (uP.2 h)
 obtain⟨e1,e2⟩:=GO hb1 h1;refine gc (iK a ha) ?_;refine gc (iK b hb) ?_;refine gc (by apply jR _ _ (de _) oz) ?_;refine gc (by apply jR _ _ (de _) oz) ?_;refine gD ?_;refine gR ?_;exact s8 (by rw[bZ,bZ,e1,show sgn false _=_ from e2];rfl)
theorem rx{x:Int}(hx:Zs x):FP 320 [zA x] (i64 x.sign):=by
 have h:=AC (ofInt x) hx.ok;rw[dL]at h;exact h
theorem xk{x:Int}(hx:Zs x):FP 350 [zA x] (zA (-x)):=by
 have h:=Qh (ofInt x) hx.ok (by have:=hx.len;unfold aw;omega);rw[dL]at h;exact h
theorem Dn{x y:Int}(hx:Zs x)(hy:Zs y):FP 317 [zA x,zA y] (i64 (f8 x y)):=by
 have h:=Px (ofInt x) (ofInt y) hx.ok hy.ok;rw[dL,dL]at h;exact h
theorem VH{x y:Int}(hx:Zs x)(hy:Zs y):FP 331 [zA x,zA y] (zA (x+y)):=by
 have h:=Kw (ofInt x) (ofInt y) hx.ok hy.ok (by have:=hx.len;unfold aw;omega) (by have:=hy.len;unfold aw;omega);rw[dL,dL]at h;exact h
theorem lV{x y:Int}(hx:Zs x)(hy:Zs y):FP 332 [zA x,zA y] (zA (x*y)):=by
 have h:=Mm (ofInt x) (ofInt y) hx.ok hy.ok (by have:=hx.len;have:=hy.len;unfold aw;omega);rw[dL,dL]at h;exact h
theorem UD{x y:Int}(hx:Zs x)(hy:Zs y):FP 318 [zA x,zA y] (zA (Int.gcd x y)):=by
 have h:=GR (ofInt x) (ofInt y) hx.ok hy.ok (by have:=hx.len;unfold aw;omega) (by have:=hy.len;unfold aw;omega);rw[dL,dL]at h;exact h
theorem Hq{x y:Int}(hx:Zs x)(hy:Zs y)(h0:y≠0):FP 351 [zA x,zA y] (.tup [zA (x/y),zA (x%y),.v .nilIface]):=by
 have h:=TC (ofInt x) (ofInt y) hx.ok hy.ok (by have:=hx.len;unfold aw;omega) (by have:=hy.len;unfold aw;omega) (by rw[dL];exact h0);rw[dL,dL]at h;exact h
theorem At{x:Int}(hx:Zs x):FP 195 [zA x] (i64 x.sign):=by
 have h:=zG (ofInt x) hx.ok;rw[dL]at h;exact h
theorem yK{x:Int}(hx:Zs x):FP 279 [zA x] (zA (-x)):=by
 have h:=DM (ofInt x) hx.ok (by have:=hx.len;unfold aw;omega);rw[dL]at h;exact h
theorem M7{x y:Int}(hx:Zs x)(hy:Zs y):FP 291 [zA x,zA y] (i64 (f8 x y)):=by
 have h:=ND (ofInt x) (ofInt y) hx.ok hy.ok (by have:=hx.len;unfold aw;omega) (by have:=hy.len;unfold aw;omega);rw[dL,dL]at h;exact h
theorem Uw{x y:Int}(hx:Zs x)(hy:Zs y):FP 196 [zA x,zA y] (zA (x+y)):=by
 have h:=B5 (ofInt x) (ofInt y) hx.ok hy.ok (by have:=hx.len;unfold aw;omega) (by have:=hy.len;unfold aw;omega);rw[dL,dL]at h;exact h
theorem sC{x y:Int}(hx:Zs x)(hy:Zs y):FP 197 [zA x,zA y] (zA (x*y)):=by
 have h:=OL (ofInt x) (ofInt y) hx.ok hy.ok (by have:=hx.len;have:=hy.len;unfold aw;omega);rw[dL,dL]at h;exact h
theorem Uu{x y:Int}(hx:Zs x)(hy:Zs y):FP 280 [zA x,zA y] (zA (Int.gcd x y)):=by
 have h:=EN (ofInt x) (ofInt y) hx.ok hy.ok (by have:=hx.len;have:=hy.len;unfold aw;omega);rw[dL,dL]at h;exact h
theorem He{x y:Int}(hx:Zs x)(hy:Zs y)(h0:y≠0):FP 281 [zA x,zA y] (.tup [zA (x/y),zA (x%y),i64 0]):=by
 have h:=RJ (ofInt x) (ofInt y) hx.ok hy.ok (by have:=hx.len;unfold aw;omega) (by have:=hy.len;unfold aw;omega) (by rw[dL];exact h0);rw[dL,dL]at h;exact h
def fH(e:Nat):Value:=match e with |0=>.nilIface |e+1=>.iface 60 (.int .i64 ((e+1:Nat):Int))
def bj(e:Nat):AV:=.v (fH e)
theorem QC(e:Nat):fH e=.nilIface\/∃T u,fH e=.iface T u:=by cases e;exact .inl rfl;exact .inr ⟨_,_,rfl⟩
theorem wE(e:Nat):dl (fH e)=decide (e=0):=by cases e <;> simp[fH,dl]
theorem Tv{e:Nat}(h:dl (fH e)=true):e=0:=by rw[wE]at h;exact of_decide_eq_true h
theorem x7{e:Nat}(h:dl (fH e)=false):e≠0:=by rw[wE]at h;exact of_decide_eq_false h
theorem cU{e:Nat}(h:(!dl (fH e))=true):e≠0:=x7 (by cases h':dl (fH e) <;> simp_all)
theorem cP{e:Nat}(h:(!dl (fH e))=false):e=0:=Tv (by cases h':dl (fH e) <;> simp_all)
theorem xL:FP 248 [] (zA 1):=by
 refine ah func248 ?_;refine gc (G2 1 oz) ?_;refine ae ?_
 first |rfl |(simp;done)
theorem oQ(r:Rt)(h:r.ok):FP 215 [r.av] (bl r.valid):=by
 have hn:=h.n0;have hd:=h.d0;refine ah func215 ?_;refine gl ?_;refine ci ?_;refine gC (fun t14=>?_) (fun t14=>?_)
 ·have h0 : r.num = [] /\ r.den = [] := by simpa [aa] using t14
  refine ae ?_;unfold Rt.valid;rw[if_pos h0];rfl
 have h0:¬(r.num=[]/\r.den=[]):=by
  have:=t14;simp[aa]at this;exact fun h=>this h.1 h.2
 refine gD ?_;refine gl ?_;refine ci ?_;refine bJ (fun _=>(xg r.n0 hn)) ?_;refine bJ (fun _=>(xg r.d0 hd)) ?_;refine gC (fun t43=>?_) (fun t43=>?_)
 ·have h1:r.valid=false:=yT h0 t43;refine ae ?_;rw[h1];rfl
 have h1:=Hy h0 t43;refine gc (GR r.n0 r.d0 hn hd h.n0l h.d0l) ?_;refine gc (by apply xL) ?_;refine gc (Dn (Rt.gcd_zs h) wL) ?_;refine ae ?_;rw[h1];rfl
theorem lH(r:Rt)(h:r.ok):FP 319 [r.av] (.tup [zA r.q.num,zA r.q.den]):=by
 have hl1:r.num.length<=137438953472:=h.2.2.1;have hl2:r.den.length<=137438953472:=h.2.2.2;refine ah func319 ?_;refine gc (oQ r h) ?_;refine ci ?_;refine gC (fun t12=>?_) (fun t12=>?_)
 ·have h0:¬(r.valid=true/\r.num≠[]):=by
   have:=t12;intro h';simp[aa,h'.1,h'.2]at this
  refine gc xL ?_;refine gR ?_;exact eH (by rw[Rt.zero h0];exact Sub.tup (.cons Gx (.cons (.refl _) .nil)))
 have h0:r.valid=true/\r.num≠[]:=by
  have:=t12;cases hv:r.valid
  ·rw[hv]at this;cases this
  ·rw[hv]at this;exact⟨rfl,by simpa[aa]using this⟩
 obtain⟨e1,e2,e3,e4,e5,e6⟩:=Rt.parts h h0.1 h0.2;refine gs (jD T43 rfl T349 rfl rfl rfl) ?_;refine gs (cf (.tmp rfl) rfl rfl (.tmp rfl) T43 rfl T349 rfl rfl (by simp only[length_map];omega) rfl rfl) ?_;refine gD ?_ (4,0);refine gW ((Wk.freeze (k:=20) rfl).trans<|Wk.of (sl:=[(1,some (.ptr 1 0)),(2,some (.ptr 2 0)),(3,some (.ptr 3 0))]) (hp:=[(1,some (.box [bl r.neg,ws r.num,ws r.den])),(2,some (.box [bl r.neg,ws r.num])),(3,some (.box [bl false,nS]))]) aV (.k (.cons rfl (BlkSub.bL (.cons (.refl _) (.cons (.of (bN (by simp))) .nil)) rfl) (.k .nil)))) ?_;refine gs (jD T43 rfl T349 rfl rfl rfl) ?_;refine gs (cf (.tmp rfl) rfl rfl (.tmp rfl) T43 rfl T349 rfl rfl (by simp only[length_map];omega) rfl rfl) ?_;refine gD ?_ (77777,0);refine gW ((Wk.freeze (k:=26) rfl).trans<|Wk.of (sl:=[(2,some (.ptr 2 0)),(3,some (.ptr 3 0))]) (hp:=[(2,some (.box [bl r.neg,ws r.num])),(3,some (.box [bl false,ws r.den]))]) aV (.k (.cons rfl (BlkSub.bL (.cons (.refl _) (.cons (.of (bN (by simp))) .nil)) rfl) .nil))) ?_;refine ba ?_;rw[e1,e2];exact CN e3 e4 e5
theorem tj{n d:Int}(hn:Zs n)(hd:Zs d)(h0:d≠0):FP 246 [zA n,zA d] (qA (Rat.divInt n d)):=by
 refine ah func246 ?_;refine gc (rx hn) ?_;refine gC (fun t9=>?_) (fun t9=>?_)
 ·have e0 : n=0 := Int.sign_eq_zero_iff_zero.1 (by simpa[aa]using t9);refine gR ?_;exact jr (by rw[e0,Rat.zero_divInt];exact jy)
 have e0:n≠0:=fun h=>by rw[h]at t9;cases t9
 refine gc (rx hd) ?_;refine zE [2,3,4] [4] (fun(n1 d1:Int)=>[]) (fun n1 d1=>[(2,some (.box (zA n1).cells)),(3,some (.box (zA d1).cells))]) (fun n1 d1=>0<d1/\n1≠0/\Zs n1/\Zs d1/\Rat.divInt n1 d1=Rat.divInt n d) ?_ ?_
 ·intro K1 J1;refine gC (fun t13=>?_) (fun t13=>?_)
  ·have e1 : d<0 := Int.sign_eq_neg_one_iff_neg.1 (by have := Int.sign_trichotomy d;have h9 : d.sign<0 := (by simpa[aa]using t13);omega);refine gc (xk hn) ?_;refine gc (xk hd) ?_;refine gD ?_;exact qH J1 (-n) (-d) ⟨by omega,by omega,hn.neg,hd.neg,Fp n d⟩
  have e1:0<d:=by
   have h9:0<=d.sign:=by simpa[aa]using t13
   have:=Int.sign_nonneg_iff.1 h9;omega
  exact qH J1 n d ⟨e1,e0,hn,hd,rfl⟩
 rintro n1 d1 ⟨f1,f2,f3,f4,f5⟩;refine gc (UD f3 f4) ?_;refine gc (rx f3) ?_;refine BI [2,3,4,5] [3,4,5] (fun(n2:Int)=>[(6,some (bl (decide (n1<0))))]) (fun n2=>[(2,some (.box (zA n2).cells))]) (fun n2=>n2=(n1.natAbs:Int)) ?_ ?_
 ·intro K2 J2;refine gC (fun t24=>?_) (fun t24=>?_)
  ·have e2 : n1<0 := Int.sign_eq_neg_one_iff_neg.1 (by have := Int.sign_trichotomy n1;have h9 : n1.sign<0 := (by simpa[aa]using t24);omega);refine gc (xk f3) ?_;exact qV J2 (-n1) oz (hw:=Wk.of (.cons rfl (Sub.of (by rw[show aa .lss n1.sign 0=true from t24,decide_eq_true e2];rfl)) (.k (.k (.k (.k .nil))))) (.k (.k (.k (.k .nil)))))
  have e2:0<n1:=by
   have h9:0<=n1.sign:=by simpa[aa]using t24
   have:=Int.sign_nonneg_iff.1 h9;omega
  exact qV J2 n1 oz (hw:=Wk.of (.cons rfl (Sub.of (by rw[show aa .lss n1.sign 0=false from t24,decide_eq_false oz];rfl)) (.k (.k (.k (.k .nil))))) (.k (.k (.k (.k .nil)))))
 rintro n2 g1;have g2:Zs (Int.gcd n1 d1:Int):=f3.of_le (by rw[natAbs_natCast];exact Nat.le_of_dvd oz (Int.gcd_dvd_natAbs_left _ _));have g3:(Int.gcd n1 d1:Int)≠0:=by have:=Int.gcd_pos_of_ne_zero_left d1 f2;omega
 have g4:Zs n2:=f3.of_le oz;refine gc (Hq g4 g2 g3) ?_;refine gc (Hq f4 g2 g3) ?_;refine ae ?_;rw[<- f5,<- Qo f1 f2,<- g1];rfl
theorem MP{n d:Int}(hn:Zs n)(hd:Zs d):FP 409 [zA n,zA d] (.tup [qA (Rat.divInt n d),bj (if d=0 then 8 else 0)]):=by
 refine ah func409 ?_;refine gc (rx hd) ?_;refine gC (fun t8=>?_) (fun t8=>?_)
 ·have h0 : d=0 := Int.sign_eq_zero_iff_zero.1 (by simpa[aa]using t8);refine gR ?_;exact eH (by rw[if_pos h0,h0,Rat.divInt_zero];exact Sub.tup (.cons jy (.cons (.refl _) .nil)))
 have h0:d≠0:=fun h=>by rw[h]at t8;cases t8
 refine gc (tj hn hd h0) ?_;refine ba ?_;rw[if_neg h0];rfl
theorem lh(n:Int)(h:-9223372036854775808<=n/\n<=9223372036854775807):FP 142 [i64 n] (qA n):=by
 have hz:Zs n:=⟨2,by omega,by unfold Lz;simp only[Nat.reducePow];omega⟩
 refine ah func142 ?_;refine gc (G2 n h) ?_;refine gc xL ?_;refine gc (tj hz wL oz) ?_;refine ae ?_;exact congrArg qA (Rat.num_divInt_den (n:Rat))
theorem GE(a:Rt)(ha:a.ok):FP 348 [a.av] (qA (-a.q)):=by
 have za:=ha.qs;refine ah func348 ?_;refine gc (lH a ha) ?_;refine gc (xk za.num) ?_;refine gc (tj za.num.neg za.den (by have:=a.q.den_nz;omega)) ?_;refine gD ?_;refine ae ?_;rw[B7];rfl
theorem u9(a:Rt)(ha:a.ok):FP 216 [a.av] (i64 (bD a.q)):=by
 refine ah func216 ?_;refine gc (lH a ha) ?_;refine gc (rx ha.qs.num) ?_;refine ae ?_;rw[It]
theorem FD(a b:Rt)(ha:a.ok)(hb:b.ok):FP 370 [a.av,b.av] (i64 (bD (a.q-b.q))):=by
 have za:=ha.qs;have zb:=hb.qs;have m1:=za.mul zb;have m2:=zb.mul za;refine ah func370 ?_;refine gc (lH a ha) ?_;refine gc (lH b hb) ?_;refine gc (lV za.num zb.den) ?_;refine gc (lV zb.num za.den) ?_;refine gc (Dn m1.1 m2.1) ?_;refine gD ?_;refine ae ?_;rw[Qc]
theorem oG(a b:Rt)(ha:a.ok)(hb:b.ok):FP 233 [a.av,b.av] (qA (a.q+b.q)):=by
 have za:=ha.qs;have zb:=hb.qs;have m1:=za.mul zb;have m2:=zb.mul za;refine ah func233 ?_;refine gc (lH a ha) ?_;refine gc (lH b hb) ?_;refine gc (lV za.num zb.den) ?_;refine gc (lV zb.num za.den) ?_;refine gc (VH m1.1 m2.1) ?_;refine gc (lV za.den zb.den) ?_;refine gc (tj (za.cross zb) m1.2.2.1 (Int.mul_ne_zero (by have:=a.q.den_nz;omega) (by have:=b.q.den_nz;omega))) ?_;refine gD ?_;refine ae ?_;rw[Bi];rfl
theorem Ji(a b:Rt)(ha:a.ok)(hb:b.ok):FP 252 [a.av,b.av] (qA (a.q-b.q)):=by
 refine ah func252 ?_;refine gc (GE b hb) ?_;refine gc (oG a (rt (-b.q)) ha hb.qs.neg.ok) ?_;refine gD ?_;refine ae ?_;rw[bP,<- Rat.sub_eq_add_neg];rfl
theorem IW(a b:Rt)(ha:a.ok)(hb:b.ok):FP 274 [a.av,b.av] (qA (a.q*b.q)):=by
 have za:=ha.qs;have zb:=hb.qs;have m1:=za.mul zb;refine ah func274 ?_;refine gc (lH a ha) ?_;refine gc (lH b hb) ?_;refine gc (lV za.num zb.num) ?_;refine gc (lV za.den zb.den) ?_;refine gc (tj m1.2.1 m1.2.2.1 (Int.mul_ne_zero (by have:=a.q.den_nz;omega) (by have:=b.q.den_nz;omega))) ?_;refine gD ?_;refine ae ?_;rw[zf];rfl
theorem C9(a b:Rt)(ha:a.ok)(hb:b.ok):FP 388 [a.av,b.av] (.tup [qA (a.q/b.q),bj (if b.q=0 then 8 else 0)]):=by
 have za:=ha.qs;have zb:=hb.qs;have m1:=za.mul zb;refine ah func388 ?_;refine gc (lH a ha) ?_;refine gc (lH b hb) ?_;refine gc (lV za.num zb.den) ?_;refine gc (lV za.den zb.num) ?_;refine gc (MP m1.1 m1.2.2.2) ?_;refine gD ?_;refine ba ?_
 have e1:((a.q.den:Int)*b.q.num=0)=(b.q=0):=by
  apply propext;rw[<- Rat.num_eq_zero,Int.mul_eq_zero];exact⟨fun h=>h.resolve_left (by have:=a.q.den_nz;omega),.inr⟩
 simp only[CC,e1];rfl
theorem GM{p:Pse}:cond (cond (!(dl (fH p.turn.err))) true (!p.at_.x.valid)) true (!p.at_.y.valid)=!p.ok:=by
 unfold Pse.ok;rw[wE];cases decide (p.turn.err=0) <;> cases p.at_.x.valid <;> cases p.at_.y.valid <;> rfl
theorem Rn{p:Pse}(h:cond (cond (!(dl (fH p.turn.err))) true (!p.at_.x.valid)) true (!p.at_.y.valid)=true):p.ok=false:=by
 rw[GM]at h;exact cS h
theorem Vy{p:Pse}(h:cond (cond (!(dl (fH p.turn.err))) true (!p.at_.x.valid)) true (!p.at_.y.valid)=false):p.ok=true:=by
 rw[GM]at h;exact cT h
theorem UJ{p:Pse}(h:p.ok=true):p.turn.err=0/\p.at_.x.valid=true/\p.at_.y.valid=true:=by
 unfold Pse.ok at h;simp only[and_eq_true,decide_eq_true_eq]at h;exact⟨h.1.1,h.1.2,h.2⟩
structure Pq where
  c:List Rat
  s:List Rat
  x:List Rat
  y:List Rat
def Pq.av(p:Pq):AV:=.agg [nA p.c,nA p.s,nA p.x,nA p.y]
structure Pq.ok(n e:Nat)(p:Pq):Prop where
  c:Nm n e p.c
  s:Nm n e p.s
  x:Nm n e p.x
  y:Nm n e p.y
def fU(p:Pse):Pq:=⟨sh 0 (du p.turn.half p.turn.t.q:Rat),sh 0 (dp p.turn.half p.turn.t.q:Rat),sh 0 (p.at_.x.q:Rat),sh 0 (p.at_.y.q:Rat)⟩
def io(ps:List Pse):Nat:=if ps.all Pse.ok=true then 0 else 2
def ofL(ps:List Pse):List Pq:=if ps.all Pse.ok=true then ps.map fU else[]
def uh(bs:List Pq):AV:=.agg [.lst 1 [],.lst 4 (bs.map Pq.av),.lst 1 []]
theorem Ew{ps:List Pse}(h:io ps=0):ps.all Pse.ok=true:=by
 unfold io at h;split at h
 ·assumption
 ·cases h
theorem FA{ps:List Pse}(h:ps.all Pse.ok=true):io ps=0:=by unfold io;rw[if_pos h]
theorem Iy{ps:List Pse}(h:ps.all Pse.ok=true):ofL ps=ps.map fU:=by unfold ofL;rw[if_pos h]
theorem Jq{ps:List Pse}(h:ps.all Pse.ok=false):io ps=2:=by unfold io;rw[if_neg (by rw[h];simp)]
theorem QA{ps:List Pse}(h:ps.all Pse.ok=false):ofL ps=[]:=by unfold ofL;rw[if_neg (by rw[h];simp)]
theorem Uj:Sub (.agg [.v (.slice none 0 0),.v (.slice none 0 0),.v (.slice none 0 0)]) (uh []):=.agg (.cons (.nil _ _ _) (.cons (.nil _ _ _) (.cons (.nil _ _ _) .nil))) rfl
theorem SS{bs:List Pq}:Sub (.agg [.v (.slice none 0 0),.lst 4 (bs.map Pq.av),.v (.slice none 0 0)]) (uh bs):=.agg (.cons (.nil _ _ _) (.cons (.refl _) (.cons (.nil _ _ _) .nil))) rfl
theorem oY{half:Bool}{t:Rat}{e:Nat}(h:Qb e t):Qb (4*e+6) (du half t):=by
 unfold du;split
 ·exact Qb.one.neg.mono oz
 ·exact((Qb.one.sub (h.mul h)).div (Qb.one.add (h.mul h))).mono oz
theorem pb{half:Bool}{t:Rat}{e:Nat}(h:Qb e t):Qb (4*e+6) (dp half t):=by
 unfold dp;split
 ·exact Qb.zero.mono oz
 ·exact((h.add h).div (Qb.one.add (h.mul h))).mono oz
theorem qN{n e:Nat}{q:Rat}(hn:n<=5)(h:Qb e q):Nm n (e+e) (sh 0 (q:Rat)):=by
 have h1:Nl n (sh 0 (q:Rat)):=by
  have:Nl 0 (sh 0 (q:Rat)):=eg 0 _;rcases this with h |⟨j,hj,h⟩
  ·exact .inl h
  ·exact .inr ⟨j,by omega,h⟩
 refine⟨hn,h1,?_⟩
 have hm:∀p∈sh 0 (q:Rat),Qb e p:=by
  intro p hp
  have:p=q:=by
   unfold sh at hp;split at hp
   ·cases hp
   ·exact List.mem_singleton.1 hp
  rw[this];exact h
 obtain⟨D,N,h3,h4,h5⟩:=vT hm
 have h6:(sh 0 (q:Rat)).length<=1:=by
  rcases(eg 0 (q:Rat))with h |⟨j,hj,h⟩
  ·rw[h];simp
  ·have : j = 0 := by omega
   subst this;rw[h];simp
 have h7:e*(sh 0 (q:Rat)).length<=e*1:=mul_le_mul_left _ h6;exact⟨D,N,h3,le_trans h4 (bK oz),le_trans h5 (bK oz)⟩
theorem P3{n:Nat}{p:Pse}(hn:n<=5)(h:p.lok):(fU p).ok n 1000 :=
 ⟨(qN hn (oY h.t)).mono oz,(qN hn (pb h.t)).mono oz,(qN hn h.x).mono oz,(qN hn h.y).mono oz⟩
def o0(ts:LL)(b:Pl)(w:Pq):Bool :=
  fK ts (ad ts.length (lq b.c)) (ad ts.length w.c)&&fK ts (ad ts.length (lq b.s)) (ad ts.length w.s)&&fK ts (ad ts.length (lq b.x)) (ad ts.length w.x)&&fK ts (ad ts.length (lq b.y)) (ad ts.length w.y)
def mE(a:As)(ps:List Pse):Nat :=
  if bb a.rs≠0 then bb a.rs else if io ps≠0 then io ps else if a.bs.length≠ps.length then 10 else ez (a.bs.map (fun b=>bn a.rs b.l))
def mB(a:As)(ps:List Pse):Bool:=decide (mE a ps=0)&&(a.bs.zip ps).all (fun z=>o0 (llq a.rs) z.1 (fU z.2))
theorem Bp{α:Type}{l:List α}{f:α->Nat}{i:Nat}{x:α}(hx:l[i]?=some x)(hb:∀y∈l.take i,f y=0)(hn:f x≠0):ez (l.map f)=f x:=by
 have e:l=l.take i++l.drop i:=(List.take_append_drop i l).symm;have hi:=(List.getElem?_eq_some_iff.1 hx).1
 have e2:l.drop i=x::l.drop (i+1):=by
  rw[List.drop_eq_getElem_cons hi,(List.getElem?_eq_some_iff.1 hx).2]
 rw[e,map_append,sI _ _ (mf (fun v hv=>by
  obtain⟨y,hy,rfl⟩:=List.mem_map.1 hv;exact hb y hy)),e2]
 show(if f x≠0 then f x else _)=_;rw[if_pos hn]
theorem BZ{a:As}{ps:List Pse}(h:bb a.rs≠0):mE a ps=bb a.rs:=by unfold mE;rw[if_pos h]
theorem H5{a:As}{ps:List Pse}(h:bb a.rs=0)(h1:io ps≠0):mE a ps=io ps:=by unfold mE;rw[if_neg (by rw[h];simp),if_pos h1]
theorem CB{a:As}{ps:List Pse}(h:bb a.rs=0)(h1:io ps=0)(h2:a.bs.length≠ps.length):mE a ps=10:=by
 unfold mE;rw[if_neg (by rw[h];simp),if_neg (by rw[h1];simp),if_pos h2]
theorem D7{a:As}{ps:List Pse}(h:bb a.rs=0)(h1:io ps=0)(h2:a.bs.length=ps.length):mE a ps=ez (a.bs.map (fun b=>bn a.rs b.l)):=by
 unfold mE;rw[if_neg (by rw[h];simp),if_neg (by rw[h1];simp),if_neg (by rw[h2];simp)]
theorem wW{a:As}{ps:List Pse}(h:mE a ps≠0):mB a ps=false:=by unfold mB;rw[decide_eq_false h];rfl
theorem M3{a:As}{ps:List Pse}(h:mE a ps=0):mB a ps=(a.bs.zip ps).all (fun z=>o0 (llq a.rs) z.1 (fU z.2)):=by unfold mB;rw[decide_eq_true h];rfl
theorem Jd{rs:List (List Rt)}{b:Pl}{E:Nat}(h:bn rs b.l=0)(hb:∀x∈b.l,NR x E)(h5:rs.length<=5) :
  b.av=Pq.av ⟨lq b.c,lq b.s,lq b.x,lq b.y⟩/\Pq.ok rs.length E ⟨lq b.c,lq b.s,lq b.x,lq b.y⟩:=by
 have h1:=(mI h).2
 have g:∀x∈b.l,nR x=nA (lq x)/\Nm rs.length E (lq x):=fun x hx=>by
  obtain⟨e1,e2⟩:=(hb x hx).num (h1 x hx);exact⟨e1,h5,e2,(hb x hx).cb⟩
 have c:=g b.c (by simp[Pl.l]);have s:=g b.s (by simp[Pl.l]);have x:=g b.x (by simp[Pl.l]);have y:=g b.y (by simp[Pl.l]);exact⟨by unfold Pl.av Pq.av;rw[c.1,s.1,x.1,y.1],c.2,s.2,x.2,y.2⟩
def pz(b:Pl)(w:Pq):List (List Rat×List Rat):=[(lq b.c,w.c),(lq b.s,w.s),(lq b.x,w.x),(lq b.y,w.y)]
theorem Jx{b:Pl}{w:Pq}{k:Nat}(hk:k<4) :
  ∃z,(pz b w)[k]?=some z/\(([nA (lq b.c),nA w.c,nA (lq b.s),nA w.s,nA (lq b.x),nA w.x,nA (lq b.y),nA w.y]:List AV).drop (k*2)).take 2=[nA z.1,nA z.2]:=by
 match k,hk with
 |0,_=>exact⟨_,rfl,rfl⟩
 |1,_=>exact⟨_,rfl,rfl⟩
 |2,_=>exact⟨_,rfl,rfl⟩
 |3,_=>exact⟨_,rfl,rfl⟩
def rC(ts:LL)(z:List Rat×List Rat):Bool:=fK ts (ad ts.length z.1) (ad ts.length z.2)
theorem E9{ts:LL}{b:Pl}{w:Pq}:(pz b w).all (rC ts)=o0 ts b w:=by
 unfold pz o0 rC;simp only[all_cons,List.all_nil,Bool.and_true,Bool.and_assoc]
theorem UI{n:Nat}{b:Pl}{w:Pq}(hb:Pq.ok n 4000 ⟨lq b.c,lq b.s,lq b.x,lq b.y⟩)(hw:w.ok n 1000):∀z∈pz b w,Nm n 4000 z.1/\Nm n 1000 z.2:=by
 intro z hz;simp only[pz,mem_cons,not_mem_nil,or_false]at hz;rcases hz with rfl |rfl |rfl |rfl
 ·exact⟨hb.c,hw.c⟩
 ·exact⟨hb.s,hw.s⟩
 ·exact⟨hb.x,hw.x⟩
 ·exact⟨hb.y,hw.y⟩
theorem QP{α β:Type}{l:List α}{l':List β}{i:Nat}{x:α}{y:β}(hx:l[i]?=some x)(hy:l'[i]?=some y):(l.zip l')[i]?=some (x,y):=by
 rw[List.zip,List.getElem?_zipWith,hx,hy]
instance:Inhabited Tn:=⟨⟨⟨false,[],[]⟩,false⟩⟩
def cq(n:Nat)(ok:Nat->Bool):Option Nat:=(List.range n).find? (fun i=>!ok i)
theorem f9{n i:Nat}{ok:Nat->Bool}(hi:i<n)(h:∀j,j<i->ok j=true)(he:ok i=false):cq n ok=some i:=by
 unfold cq;rw[List.find?_range_eq_some];exact⟨by rw[he];rfl,by simpa using hi,fun j hj=>by rw[h j hj];rfl⟩
theorem fC{n:Nat}{ok:Nat->Bool}(h:∀j,j<n->ok j=true):cq n ok=none:=by
 unfold cq;rw[List.find?_range_eq_none];exact fun j hj=>by rw[h j hj];rfl
theorem JN{n:Nat}{ok:Nat->Bool}(h:cq n ok=none):∀j,j<n->ok j=true:=by
 unfold cq at h;rw[List.find?_range_eq_none]at h;intro j hj;have:=h j hj;simpa using this
def jB:Option Nat->Int
  |none=>-1
  |some i=>i
theorem Aw{o:Option Nat}(h:aa .geq (jB o) 0=true):∃i,o=some i:=by
 cases o with
 |none=>cases h
 |some i=>exact⟨i,rfl⟩
theorem xV{o:Option Nat}(h:aa .geq (jB o) 0=false):o=none:=by
 cases o with
 |none=>rfl
 |some i =>
  have h1:¬((i:Int)>=0):=of_decide_eq_false h;omega
abbrev iY(ts:LL)(x:List Rt):T ts.length:=ad ts.length (lq x)
def nO(ts:LL)(b:Pl)(m:Mk):T ts.length×T ts.length:=(uX ts (iY ts b.c) (iY ts b.s) (iY ts b.x) m.x.q m.y.q,wV ts (iY ts b.c) (iY ts b.s) (iY ts b.y) m.x.q m.y.q)
def tM(l:Li)(a:As)(body pt:Int):T (llq a.rs).length×T (llq a.rs).length:=nO (llq a.rs) (a.bs.getD body.toNat default) ((cI l body).getD pt.toNat default)
def I3(p:Nat×Nat):AV:=.agg [i64 p.1,i64 p.2]
theorem cO{l:Li}(h:aB l=0):ik l=0/\eT l=0/\gh l=0/\l.bo.length<=8/\l.bo.length≠0:=by
 unfold aB at h;split at h
 ·cases h
 ·split at h
  ·cases h
  ·split at h
   ·cases h
   ·split at h
    ·rename_i h1;exact absurd h h1
    ·rename_i g1 _ h1;split at h
     ·rename_i h2;exact absurd h h2
     ·rename_i h2;exact⟨Decidable.not_not.1 h1,Decidable.not_not.1 h2,h,by omega,by omega⟩
theorem Ea{l:Li}(h:aB l=0){i:Nat}{j:Jt}(hj:l.jo[i]?=some j):ep l j=0:=by
 have h1:=(cO h).2.1;unfold eT at h1;split at h1
 ·cases h1
 ·have h2:=sD h1 i (List.getElem?_eq_some_iff.1 hj).1;unfold fM at h2;rw[aC hj]at h2;split at h2
  ·cases h2
  ·split at h2
   ·cases h2
   ·exact h2
theorem d7{l:Li}(h:aB l=0){i:Nat}{j:Jt}(hj:l.jo[i]?=some j) :
  bq j.a l.bo.length=true/\bq j.b l.bo.length=true/\bq j.point (cI l j.a).length=true/\bq j.on (cI l j.b).length=true/\(j.kind≠0->bq j.to (cI l j.b).length=true):=by
 have h1:=Ea h hj;unfold ep at h1;split at h1
 ·cases h1
 ·split at h1
  ·cases h1
  ·rename_i h2;split at h1
   ·cases h1
   ·split at h1
    ·cases h1
    ·rename_i h3;have a1:bq j.a l.bo.length = true:=by cases h:bq j.a l.bo.length <;> simp_all
     have a2:bq j.b l.bo.length=true:=by cases h:bq j.b l.bo.length <;> simp_all
     have a3:bq j.point (cI l j.a).length=true:=by cases h:bq j.point (cI l j.a).length <;> simp_all
     have a4:bq j.on (cI l j.b).length=true:=by cases h:bq j.on (cI l j.b).length <;> simp_all
     refine⟨a1,a2,a3,a4,fun hk=>?_⟩;rw[if_neg hk]at h1;split at h1
     ·cases h1
     ·rename_i h4;cases h:bq j.to (cI l j.b).length <;> simp_all
theorem lr{l:Li}(h:aB l=0){i:Nat}{d:Dr}(hd:l.dv[i]?=some d):bq d.body l.bo.length=true:=by
 have h1:=(cO h).2.2.1;unfold gh at h1;split at h1
 ·cases h1
 ·have h2:=sD h1 i (List.getElem?_eq_some_iff.1 hd).1;unfold dR at h2;rw[aC hd]at h2;split at h2
  ·cases h2
  ·split at h2
   ·cases h2
   ·split at h2
    ·cases h2
    ·rename_i h3;cases h:bq d.body l.bo.length <;> simp_all
theorem Gs{l:Li}(h:aB l=0){n k:Nat}{b:Bd}{m:Mk}(hb:l.bo[n]?=some b)(hm:b.pts[k]?=some m):m.x.valid=true/\m.y.valid=true:=by
 have h2:=sD (cO h).1 n (List.getElem?_eq_some_iff.1 hb).1;unfold ek at h2;rw[aC hb]at h2;split at h2
 ·cases h2
 ·split at h2
  ·cases h2
  ·split at h2
   ·cases h2
   ·have h3:=sD h2 k (List.getElem?_eq_some_iff.1 hm).1;unfold d6 at h3;rw[aC hm]at h3;split at h3
    ·cases h3
    ·split at h3
     ·cases h3
     ·split at h3
      ·assumption
      ·cases h3
theorem yC{ts:LL}{r e f:Nat}(tw:Tw ts r){b:Pl}{m:Mk}(hb:Pq.ok ts.length e ⟨lq b.c,lq b.s,lq b.x,lq b.y⟩)(hx:Qb f m.x.q)(hy:Qb f m.y.q) :
  Nm ts.length (3*e+2*f+2*kB r ts.length+10) (sh ts.length (nO ts b m).1)/\Nm ts.length (3*e+2*f+2*kB r ts.length+10) (sh ts.length (nO ts b m).2):=by
 have nx:=Nm.ofQ tw.five (Cb.one hx);have ny:=Nm.ofQ tw.five (Cb.one hy);have h1:=(xc tw hb.c hb.s nx ny).add hb.x;rw[yX]at h1;have h2:=(uK tw hb.c hb.s nx ny).add hb.y;rw[Bx]at h2;exact⟨h1.mono oz,h2.mono oz⟩
def jK(l:Li)(xs:List Tn):Nat:=if aB l≠0 then aB l else if xs.length≠l.dv.length then 10 else ez (xs.map Tn.err)
theorem Gp{l:Li}{xs:List Tn}(h:aB l=0)(h1:xs.length≠l.dv.length):jK l xs=10:=by unfold jK;rw[if_neg (by rw[h];simp),if_pos h1]
theorem Ck{l:Li}{xs:List Tn}(h:aB l=0)(h1:xs.length=l.dv.length){i:Nat}{x:Tn}(hx:xs[i]?=some x)(hb:∀y∈xs.take i,y.err=0)(hn:x.err≠0):jK l xs=x.err:=by
 unfold jK;rw[if_neg (by rw[h];simp),if_neg (by rw[h1];simp),Bp hx hb hn]
theorem BS{l:Li}{xs:List Tn}(h:aB l=0)(h1:xs.length=l.dv.length)(hb:∀y∈xs,y.err=0):jK l xs=0:=by
 unfold jK;rw[if_neg (by rw[h];simp),if_neg (by rw[h1];simp)]
 exact mf (fun e he=>by obtain⟨x,hx,rfl⟩:=List.mem_map.1 he;exact hb x hx)
theorem O1{e n m:Nat}(h:cond (!(dl (fH e))) true (aa .neq (n:Int) (m:Int))=true):e≠0\/n≠m:=by
 cases h1:dl (fH e)
 ·exact .inl (x7 h1)
 ·rw[h1]at h;have:=mo h;exact .inr oz
structure Gr where
  kind:Int
  bo:List Int
  jo:List Int
  driver:Int
instance:Inhabited Gr:=⟨⟨0,[],[],0⟩⟩
def Gr.av(g:Gr):AV:=.agg [i64 g.kind,.lst 1 (g.bo.map i64),.lst 1 (g.jo.map i64),i64 g.driver]
def kn(k:List Bool)(i:Int):Bool:=k.getD i.toNat false
def cz(n:Nat)(b:Int):List Bool:=(List.replicate n false).set b.toNat true
def mZ(l:Li)(b:Int):Bool:=l.dv.any (fun d=>decide (d.body=b))
def en(l:Li)(kw:List Bool)(b:Int):Bool:=!kn kw b&&!mZ l b
def lB(kind body:Int)(oth:List Bool)(j:Jt):Bool:=decide (j.kind=kind)&&(decide (j.a=body)&&kn oth j.b||decide (j.b=body)&&kn oth j.a)
def bS(l:Li)(kind body:Int)(oth:List Bool):Int:=jB (cq l.jo.length (fun i=>!lB kind body oth (l.jo.getD i default)))
def fL(l:Li)(kw:List Bool)(i:Nat):Bool:=!kn kw (l.dv.getD i default).body&&decide (0<=bS l 0 (l.dv.getD i default).body kw)
def dm(l:Li)(kw:List Bool):Option Gr :=
  (cq l.dv.length (fun i=>!fL l kw i)).map fun i=>⟨0,[(l.dv.getD i default).body],[bS l 0 (l.dv.getD i default).body kw],i⟩
def dB(l:Li)(kw:List Bool)(i k:Nat):Bool :=
  (en l kw i&&en l kw k)&&(decide (0<=bS l 0 i kw)&&decide (0<=bS l 0 k kw)&&decide (0<=bS l 0 i (cz l.bo.length k)))
def f6(l:Li)(kw:List Bool)(i:Nat):Option Nat:=(cq (l.bo.length-(i+1)) (fun k=>!dB l kw i (i+1+k))).map (·+(i+1))
def gz(l:Li)(kw:List Bool)(i k:Nat):Gr:=⟨1,[i,k],[bS l 0 i kw,bS l 0 k kw,bS l 0 i (cz l.bo.length k)],0⟩
def cM(l:Li)(kw:List Bool):Option Gr :=
  (cq l.bo.length (fun i=>(f6 l kw i).isNone)).map fun i=>match f6 l kw i with
    |some k=>gz l kw i k
    |none=>default
def fw(l:Li)(kw:List Bool)(i:Nat):Bool:=en l kw i&&(decide (0<=bS l 0 i kw)&&decide (0<=bS l 1 i kw))
def hO(l:Li)(kw:List Bool)(i:Nat):Gr :=
  ⟨if(l.jo.getD (bS l 1 i kw).toNat default).a=i then 2 else 3,[i],[bS l 0 i kw,bS l 1 i kw],0⟩
def dY(l:Li)(kw:List Bool):Option Gr:=(cq l.bo.length (fun i=>!fw l kw i)).map (hO l kw)
def bY(l:Li)(kw:List Bool):Option Gr:=(dm l kw).or ((cM l kw).or (dY l kw))
def bi(kw:List Bool)(bs:List Int):List Bool:=bs.foldl (fun k b=>k.set b.toNat true) kw
def cm(l:Li):Nat->List Bool->List Gr->List Bool×List Gr
  |0,kw,out=>(kw,out)
  |n+1,kw,out=>match bY l kw with
    |none=>(kw,out)
    |some g=>cm l n (bi kw g.bo) (out++[g])
def cr(l:Li):List Gr:=(cm l l.bo.length (cz l.bo.length 0) []).2
def bI(l:Li):List Bool:=(cr l).foldl (fun k g=>bi k g.bo) (cz l.bo.length 0)
def d5(l:Li):List Bool:=(cr l).foldl (fun k g=>bi k g.jo) (List.replicate l.jo.length false)
def eF(k:List Bool):List Int:=((List.range k.length).filter (fun i=>!k.getD i false)).map (fun i:Nat=>((i:Nat):Int))
def cH(l:Li):Nat:=if(eF (bI l)).length+(eF (d5 l)).length=0 then 0 else 7
def aN(l:Li):List Gr:=if cH l=0 then cr l else[]
theorem Fn{kind body:Int}{oth:List Bool}{j:Jt}{va vb:Bool}(ea:kn oth j.a=va)(eb:kn oth j.b=vb) :
  cond (aa .eql j.kind kind) (cond (cond (aa .eql j.a body) vb false) true (cond (aa .eql j.b body) va false)) false=lB kind body oth j:=by
 unfold lB;rw[pY,pY,pY,ea,eb,iO,iO,iO,iV]
theorem gM(n:Nat)(b:Int):(cz n b).length=n:=by unfold cz;simp
theorem jc:∀(bs:List Int)(k:List Bool),(bi k bs).length=k.length
 |[],k=>rfl
 |b::bs,k=>by
  show(bi (k.set b.toNat true) bs).length=_;rw[jc bs];simp
theorem fa{n i:Nat}{ok:Nat->Bool}(h:cq n ok=some i):i<n/\ok i=false:=by
 unfold cq at h;rw[List.find?_range_eq_some]at h;exact⟨by simpa using h.2.1,by simpa using h.1⟩
theorem m9{l:Li}{kind body:Int}{oth:List Bool}:-1<=bS l kind body oth/\bS l kind body oth<l.jo.length:=by
 unfold bS;cases h:cq l.jo.length (fun i=>!lB kind body oth (l.jo.getD i default))with
 |none=>exact⟨by decide,by show(-1:Int)<_;omega⟩
 |some i=>have:=(fa h).1;exact⟨by show(-1:Int)<=(i:Int);omega,by show(i:Int)<_;omega⟩
structure GrOk(l:Li)(g:Gr):Prop where
  b:∀x∈g.bo,0<=x/\x<l.bo.length
  j:∀x∈g.jo,0<=x/\x<l.jo.length
  lb:g.bo.length<=2
  lj:g.jo.length<=3
theorem UH{l:Li}(hl:aB l=0){kw:List Bool}{g:Gr}(h:dm l kw=some g):GrOk l g:=by
 unfold dm at h;rw[map_eq_some_iff]at h;obtain⟨i,hi,rfl⟩:=h;obtain⟨h1,h2⟩:=fa hi;obtain⟨d,hd⟩:=au h1;have h3:=dq (lr hl hd);unfold fL at h2;simp only[Bool.not_eq_false',and_eq_true,decide_eq_true_eq]at h2;rw[aC hd]at h2 ⊢;have h4:=m9 (l:=l) (kind:=0) (body:=d.body) (oth:=kw);refine⟨fun x hx=>?_,fun x hx=>?_,by simp,by simp⟩
 ·rw[List.mem_singleton.1 hx];exact h3
 ·rw[List.mem_singleton.1 hx];exact⟨h2.2,h4.2⟩
theorem LS{l:Li}{kw:List Bool}{g:Gr}(h:cM l kw=some g):GrOk l g:=by
 unfold cM at h;rw[map_eq_some_iff]at h;obtain⟨i,hi,h⟩:=h;obtain⟨h1,h2⟩:=fa hi;split at h
 ·rename_i k hk;subst h;unfold f6 at hk;rw [map_eq_some_iff] at hk;obtain ⟨k',hk',rfl⟩:=hk;obtain ⟨h3,h4⟩:=fa hk';rw [show i + 1 + k' = k' + (i + 1) by omega] at h4;unfold dB at h4;simp only [Bool.not_eq_false',and_eq_true,decide_eq_true_eq] at h4;obtain ⟨_,⟨j1,j2⟩,j3⟩:=h4;refine ⟨fun x hx=>?_,fun x hx=>?_,by simp [gz],by simp [gz]⟩
  ·simp only[gz,mem_cons,not_mem_nil,or_false]at hx;rcases hx with rfl |rfl <;> constructor <;> omega
  ·simp only[gz,mem_cons,not_mem_nil,or_false]at hx;rcases hx with rfl |rfl |rfl
   ·exact⟨j1,m9.2⟩
   ·exact⟨j2,m9.2⟩
   ·exact⟨j3,m9.2⟩
 ·rename_i hk;rw[hk]at h2;cases h2
theorem Nc{l:Li}{kw:List Bool}{g:Gr}(h:dY l kw=some g):GrOk l g:=by
 unfold dY at h;rw[map_eq_some_iff]at h;obtain⟨i,hi,rfl⟩:=h;obtain⟨h1,h2⟩:=fa hi;unfold fw at h2;simp only[Bool.not_eq_false',and_eq_true,decide_eq_true_eq]at h2;obtain⟨_,j1,j2⟩:=h2;refine⟨fun x hx=>?_,fun x hx=>?_,by simp[hO],by simp[hO]⟩
 ·simp only[hO,mem_cons,not_mem_nil,or_false]at hx;subst hx;constructor <;> omega
 ·simp only[hO,mem_cons,not_mem_nil,or_false]at hx;rcases hx with rfl |rfl
  ·exact⟨j1,m9.2⟩
  ·exact⟨j2,m9.2⟩
theorem ur{l:Li}(hl:aB l=0){kw:List Bool}{g:Gr}(h:bY l kw=some g):GrOk l g:=by
 unfold bY at h;cases h1:dm l kw with
 |some g'=>rw[h1]at h;cases h;exact UH hl h1
 |none =>
  rw[h1]at h;cases h2:cM l kw with
  |some g'=>rw[h2]at h;cases h;exact LS h2
  |none=>rw[h2]at h;exact Nc h
theorem Gc{l:Li}(hl:aB l=0):∀(n:Nat)(kw:List Bool)(out:List Gr),(∀g∈out,GrOk l g)->(∀g∈(cm l n kw out).2,GrOk l g)/\(cm l n kw out).2.length<=out.length+n
 |0,kw,out,h=>⟨h,by simp[cm]⟩
 |n+1,kw,out,h=>by
  unfold cm;cases hg:bY l kw with
  |none=>exact⟨h,by simp⟩
  |some g =>
   have h1:=Gc hl n (bi kw g.bo) (out++[g]) (fun x hx=>by
    rcases List.mem_append.1 hx with hx |hx
    ·exact h x hx
    ·rw[List.mem_singleton.1 hx];exact ur hl hg)
   refine⟨h1.1,?_⟩;have:=h1.2;rw[length_append]at this;show(cm l n (bi kw g.bo) (out++[g])).2.length<=_;simp only[length_cons,length_nil]at this;omega
theorem sj{l:Li}(hl:aB l=0):(∀g∈cr l,GrOk l g)/\(cr l).length<=8:=by
 have h:=Gc hl l.bo.length (cz l.bo.length 0) [] (fun g hg=>by cases hg);have h8:=(cO hl).2.2.2.1;exact⟨h.1,by have:=h.2;simp only[length_nil]at this;unfold cr;omega⟩
def j4(j:Jt)(b:Int):Int:=if b=j.a then j.b else if b=j.b then j.a else -1
def u7(kind body:Int)(p:Int->Bool)(j:Jt):Bool:=decide (j.kind=kind)&&(decide (0<=j4 j body)&&p (j4 j body))
def gJ(l:Li)(kind body:Int)(p:Int->Bool):Int:=jB (cq l.jo.length (fun i=>!u7 kind body p (l.jo.getD i default)))
theorem SY{b:Bool}{z:Int}(h:cond b (aa .geq z 0) false=true):0<=z:=by
 cases b
 ·cases h
 ·exact of_decide_eq_true h
theorem Se{a k z:Int}{q:Bool}:cond (cond (aa .eql a k) (aa .geq z 0) false) q false=(decide (a=k)&&(decide (0<=z)&&q)):=by
 rw[pY,show aa .geq z 0=decide (0<=z)from rfl,iO,iO,Bool.and_assoc]
theorem Uz{l:Li}(hli:aB l=0){i:Nat}{j:Jt}(hj:l.jo[i]?=some j)(b:Int):j4 j b<l.bo.length:=by
 obtain⟨i1,i2,_⟩:=d7 hli hj;have b1:=dq i1;have b2:=dq i2;unfold j4;split
 ·omega
 ·split <;> omega
theorem Q5{n:Nat}{ok ok':Nat->Bool}(h:∀i,i<n->ok i=ok' i):cq n ok=cq n ok':=by
 unfold cq
 have:∀l:List Nat,(∀i∈l,i<n)->l.find? (fun i=>!ok i)=l.find? (fun i=>!ok' i):=by
  intro l
  induction l with
  |nil=>intro _;rfl
  |cons a l ih =>
   intro hl;simp only[List.find?_cons,h a (hl a (by simp)),ih (fun i hi=>hl i (by simp[hi]))]
 exact this _ (fun i hi=>List.mem_range.1 hi)
theorem yz{l:Li}(hli:aB l=0){kind body:Int}{p:Int->Bool}{oth:List Bool}(h:∀o:Int,0<=o->o<l.bo.length->p o=kn oth o):gJ l kind body p=bS l kind body oth:=by
 unfold gJ bS;rw[Q5];intro i hi;obtain⟨j,hj⟩:=au hi;rw[aC hj];obtain⟨i1,i2,_⟩:=d7 hli hj;have b1:=dq i1;have b2:=dq i2;congr 1;unfold u7 lB;congr 1;unfold j4
 by_cases h1:body=j.a
 ·subst h1;rw[if_pos rfl,h _ b2.1 b2.2]
  by_cases h2:j.b=j.a
  ·simp[h2,b1.1]
  ·simp[h2,b2.1]
 ·rw[if_neg h1]
  by_cases h2:body=j.b
  ·subst h2;rw[if_pos rfl,h _ b1.1 b1.2];have h3:¬j.a=j.b:=fun e=>h1 e.symm
   simp[h3,b1.1]
  ·rw[if_neg h2];have h3:¬j.a=body:=fun e=>h1 e.symm
   have h4:¬j.b=body:=fun e=>h2 e.symm
   simp[h3,h4]
theorem EU{k:List Bool}{i:Nat}{b:Int}(h0:0<=b)(hi:i<k.length):kn (k.set i true) b=(decide (b=i)||kn k b):=by
 unfold kn;rw[getD_eq_getElem?_getD,List.getElem?_set,getD_eq_getElem?_getD]
 by_cases h:b=i
 ·rw[decide_eq_true h,Bool.true_or,if_pos oz];rw[if_pos oz];rfl
 ·rw[decide_eq_false h,Bool.false_or,if_neg oz]
theorem Bb:∀{bs:List Int}{k:List Bool}{b:Int},0<=b->(∀x∈bs,0<=x/\x<k.length)->kn (bi k bs) b=(bs.any (fun x=>decide (x=b))||kn k b)
 |[],k,b,h0,h=>by simp[bi]
 |x::bs,k,b,h0,h=>by
  show kn (bi (k.set x.toNat true) bs) b=_;obtain⟨hx0,hx1⟩:=h x (by simp);rw[Bb h0 (fun y hy=>by rw[length_set];exact h y (by simp[hy])),EU h0 oz,List.any_cons];have e:decide (b=(x.toNat:Int))=decide (x=b):=decide_eq_decide.2 oz;rw[e];cases decide (x=b) <;> simp
theorem wz(n:Nat)(b:Int):kn (List.replicate n false) b=false:=by
 unfold kn;rw[getD_eq_getElem?_getD,getElem?_replicate];split <;> rfl
def bV(l:Li):List Bool:=bi (List.replicate l.bo.length false) (l.dv.map Dr.body)
theorem sT(l:Li):(bV l).length=l.bo.length:=by unfold bV;rw[jc,length_replicate]
theorem JJ{l:Li}(hli:aB l=0){b:Int}(h0:0<=b):kn (bV l) b=mZ l b:=by
 unfold bV mZ;rw[Bb h0,wz,Bool.or_false,List.any_map]
 ·rfl
 ·intro x hx;obtain⟨d,hd,rfl⟩:=List.mem_map.1 hx;obtain⟨i,hi⟩:=List.mem_iff_getElem?.1 hd;have:=dq (lr hli hi);rw[length_replicate];omega
theorem nZ{n:Nat}{b o:Int}(h0:0<=o)(hb0:0<=b)(hb:b<n):kn (cz n b) o=decide (o=b):=by
 unfold cz;rw[EU h0 (by rw[length_replicate];omega),wz,Bool.or_false];exact decide_eq_decide.2 oz
def dK(k:List Bool):Nat:=k.countP (fun x=>!x)
theorem OM{k:List Bool}{i:Nat}(h:k[i]?=some false):dK (k.set i true)+1=dK k:=by
 unfold dK;have hi:=(List.getElem?_eq_some_iff.1 h).1;have he:=(List.getElem?_eq_some_iff.1 h).2;rw[List.countP_set hi,he];have:0<k.countP (fun x=>!x):=List.countP_pos_iff.2 ⟨false,mem_of_getElem? h,rfl⟩;simp;omega
theorem RQ(k:List Bool)(i:Nat):dK (k.set i true)<=dK k:=by
 by_cases hi:i<k.length
 ·unfold dK;rw[List.countP_set hi];simp
 ·rw[List.set_eq_of_length_le oz];exact le_refl _
theorem I5:∀(bs:List Int)(k:List Bool),dK (bi k bs)<=dK k
 |[],k=>le_refl _
 |x::bs,k=>le_trans (I5 bs (k.set x.toNat true)) (RQ k _)
theorem Le{x:Int}{bs:List Int}{k:List Bool}(h:k[x.toNat]?=some false):dK (bi k (x::bs))<dK k:=by
 have h1:=I5 bs (k.set x.toNat true);have h2:=OM h;show dK (bi (k.set x.toNat true) bs)<_;omega
theorem BH{k:List Bool}{b:Int}(h:kn k b=false)(h1:b.toNat<k.length):k[b.toNat]?=some false:=by
 unfold kn at h;rw[getD_eq_getElem?_getD,getElem?_eq_getElem h1]at h;rw[getElem?_eq_getElem h1];simpa using h
theorem Qk{l:Li}(hl:aB l=0){kw:List Bool}(hk:kw.length=l.bo.length){g:Gr}(h:bY l kw=some g):∃x bs,g.bo=x::bs/\kw[x.toNat]?=some false:=by
 unfold bY at h;cases h1:dm l kw with
 |some g' =>
  rw[h1]at h;cases h
  unfold dm at h1;rw[map_eq_some_iff]at h1;obtain⟨i,hi,rfl⟩:=h1;obtain⟨h2,h3⟩:=fa hi;obtain⟨d,hd⟩:=au h2;have h4:=dq (lr hl hd);rw[aC hd]at *;unfold fL at h3;rw[aC hd]at h3;simp only[Bool.not_eq_false',and_eq_true,Bool.not_eq_true',decide_eq_true_eq]at h3;exact⟨_,_,rfl,BH h3.1 oz⟩
 |none =>
  rw[h1]at h;cases h2:cM l kw with
  |some g' =>
   rw[h2]at h;cases h
   unfold cM at h2;rw[map_eq_some_iff]at h2;obtain⟨i,hi,h2⟩:=h2;obtain⟨h3,h4⟩:=fa hi;split at h2
   ·rename_i k hk';subst h2;unfold f6 at hk';rw[map_eq_some_iff]at hk';obtain⟨k',hk',rfl⟩:=hk';obtain⟨h5,h6⟩:=fa hk';unfold dB en at h6;simp only[Bool.not_eq_false',and_eq_true,Bool.not_eq_true',decide_eq_true_eq]at h6;exact⟨_,_,rfl,BH h6.1.1.1 oz⟩
   ·rename_i hk';rw[hk']at h4;cases h4
  |none =>
   rw[h2]at h;have h:dY l kw=some g:=h;unfold dY at h;rw[map_eq_some_iff]at h;obtain⟨i,hi,rfl⟩:=h;obtain⟨h3,h4⟩:=fa hi;unfold fw en at h4;simp only[Bool.not_eq_false',and_eq_true,Bool.not_eq_true',decide_eq_true_eq]at h4;exact⟨_,_,rfl,BH h4.1.1 oz⟩
theorem sV{l:Li}(hl:aB l=0){kw:List Bool}(hk:kw.length=l.bo.length){g:Gr}(h:bY l kw=some g):dK (bi kw g.bo)<dK kw:=by
 obtain⟨x,bs,e,h1⟩:=Qk hl hk h;rw[e];exact Le h1
theorem Ac{l:Li}(hl:aB l=0):∀(n m:Nat)(kw:List Bool)(out:List Gr),kw.length=l.bo.length->dK kw<=n->dK kw<=m->cm l n kw out=cm l m kw out
 |0,0,kw,out,hk,h1,h2=>rfl
 |0,m+1,kw,out,hk,h1,h2=>by
  unfold cm;cases hg:bY l kw with
  |none=>rfl
  |some g=>have:=sV hl hk hg;omega
 |n+1,0,kw,out,hk,h1,h2=>by
  unfold cm;cases hg:bY l kw with
  |none=>rfl
  |some g=>have:=sV hl hk hg;omega
 |n+1,m+1,kw,out,hk,h1,h2=>by
  unfold cm;cases hg:bY l kw with
  |none=>rfl
  |some g =>
   have:=sV hl hk hg;exact Ac hl n m _ _ (by rw[jc];exact hk) oz oz
theorem yA{l:Li}:∀(n:Nat)(kw:List Bool)(out:List Gr),∃gs,cm l n kw out=(gs.foldl (fun k g=>bi k g.bo) kw,out++gs)
 |0,kw,out=>⟨[],by simp[cm]⟩
 |n+1,kw,out=>by
  unfold cm;cases hg:bY l kw with
  |none=>exact⟨[],by simp⟩
  |some g =>
   obtain⟨gs,e⟩:=yA n (bi kw g.bo) (out++[g]);exact⟨g::gs,by show cm l n _ _=_;rw[e];simp⟩
theorem HO(l:Li):cm l l.bo.length (cz l.bo.length 0) []=(bI l,cr l):=by
 obtain⟨gs,e⟩:=yA (l:=l) l.bo.length (cz l.bo.length 0) [];unfold bI cr;rw[e];simp
theorem vO{k:List Bool}:(eF k).length=0↔k.contains false=false:=by
 unfold eF;rw[length_map,List.length_eq_zero_iff,List.filter_eq_nil_iff];constructor
 ·intro h;rw[<- Bool.not_eq_true,List.contains_iff_mem];intro hm;obtain⟨i,hi⟩:=List.mem_iff_getElem?.1 hm;have hlt:=(List.getElem?_eq_some_iff.1 hi).1;have:=h i (List.mem_range.2 hlt);rw[getD_eq_getElem?_getD,hi]at this;simp at this
 ·intro h i hi;rw[<- Bool.not_eq_true,List.contains_iff_mem]at h;intro hc;have hlt:=List.mem_range.1 hi;rw[getD_eq_getElem?_getD,getElem?_eq_getElem hlt]at hc;simp at hc;exact h (hc▸List.getElem_mem hlt)
theorem pL:Sub (.agg [.v (.int .i64 0),.v (.slice none 0 0),.v (.slice none 0 0),.v (.int .i64 0)]) (Gr.av default):=.agg (.cons (.refl _) (.cons (.nil _ _ _) (.cons (.nil _ _ _) (.cons (.refl _) .nil)))) rfl
theorem Gy{z:Int}(h:aa .geq z 0=true):0<=z:=of_decide_eq_true h
theorem Ir{z:Int}(h:aa .geq z 0=false):¬0<=z:=of_decide_eq_false h
theorem wS{a b c:Int}:cond (cond (aa .geq a 0) (aa .geq b 0) false) (aa .geq c 0) false=(decide (0<=a)&&decide (0<=b)&&decide (0<=c)):=by
 have e:∀z:Int,aa .geq z 0=decide (0<=z):=fun z=>rfl
 rw[e,e,e,iO,iO]
theorem HZ{a b:Int}:cond (aa .lss a 0) true (aa .lss b 0)=!(decide (0<=a)&&decide (0<=b)):=by
 have e:∀z:Int,aa .lss z 0=!decide (0<=z):=fun z=>by rw[<- decide_not];exact decide_eq_decide.2 oz
 rw[e,e,iV,Bool.not_and]
theorem Fa{a b:Int}(h:cond (aa .lss a 0) true (aa .lss b 0)=true):(decide (0<=a)&&decide (0<=b))=false:=by rw[HZ]at h;exact cS h
theorem Id{a b:Int}(h:cond (aa .lss a 0) true (aa .lss b 0)=false):0<=a/\0<=b:=by
 rw[HZ]at h;have:=cT h;simpa using this
structure TieO(l:Li)(kind:Int)(bs:List Int)(z b:Int)(j:Jt):Prop where
  hz:0<=z
  hj:l.jo[z.toNat]?=some j
  kd:j.kind=kind
  tie:(j.a=b/\j.b∉bs)\/(j.b=b/\j.a∉bs)
inductive DyK(l:Li):Gr->Prop where
  |drv {b z d:Int} {j:Jt} {x:Dr} (t:TieO l 0 [b] z b j) (d0:0<=d) (hd:l.dv[d.toNat]?=some x) (hb:x.body=b):DyK l ⟨0,[b],[z],d⟩
  |rrr {i k z0 z1 z2:Int} {j0 j1 j2:Jt} (ne:i≠k) (t0:TieO l 0 [i,k] z0 i j0) (t1:TieO l 0 [i,k] z1 k j1) (h0:0<=z2) (h2:l.jo[z2.toNat]?=some j2) (kd:j2.kind=0)
      (tie:(j2.a=i/\j2.b=k)\/(j2.b=i/\j2.a=k)):DyK l ⟨1,[i,k],[z0,z1,z2],0⟩
  |pr {i z0 z1:Int} {j0 j1:Jt} (t0:TieO l 0 [i] z0 i j0) (t1:TieO l 1 [i] z1 i j1) (ha:j1.a=i):DyK l ⟨2,[i],[z0,z1],0⟩
  |rp {i z0 z1:Int} {j0 j1:Jt} (t0:TieO l 0 [i] z0 i j0) (t1:TieO l 1 [i] z1 i j1) (ha:j1.a≠i):DyK l ⟨3,[i],[z0,z1],0⟩
theorem vV{l:Li}{kind b:Int}{oth:List Bool}(h:0<=bS l kind b oth) :
  ∃(i:Nat)(j:Jt),bS l kind b oth=(i:Int)/\l.jo[i]?=some j/\j.kind=kind/\((j.a=b/\kn oth j.b=true)\/(j.b=b/\kn oth j.a=true)):=by
 unfold bS at h ⊢;cases hf:cq l.jo.length (fun i=>!lB kind b oth (l.jo.getD i default))with
 |none=>rw[hf]at h;exact absurd h (by decide)
 |some i =>
  obtain⟨h1,h2⟩:=fa hf;obtain⟨j,hj⟩:=au h1;rw[aC hj]at h2;unfold lB at h2;simp only[Bool.not_eq_false',and_eq_true,or_eq_true,decide_eq_true_eq]at h2;exact⟨i,j,rfl,hj,h2.1,h2.2⟩
theorem sa{l:Li}{kind b:Int}{kw:List Bool}{bs:List Int}(hb:∀x∈bs,kn kw x=false)(h:0<=bS l kind b kw):∃j,TieO l kind bs (bS l kind b kw) b j:=by
 obtain⟨i,j,e,hj,hk,ht⟩:=vV h;have hn:∀x,kn kw x=true->x∉bs:=fun x hx hm=>by rw[hb x hm]at hx;cases hx
 refine⟨j,h,by rw[e,toNat_natCast];exact hj,hk,?_⟩;rcases ht with⟨h1,h2⟩ |⟨h1,h2⟩
 ·exact .inl ⟨h1,hn _ h2⟩
 ·exact .inr ⟨h1,hn _ h2⟩
theorem pP{l:Li}{kw:List Bool}{b:Int}(h:en l kw b=true):kn kw b=false:=by
 unfold en at h;simp only[and_eq_true,Bool.not_eq_true']at h;exact h.1
theorem wQ{kw:List Bool}{b:Int}(h:kn kw b=false):∀x∈[b],kn kw x=false:=fun x hx=>by rw[List.mem_singleton.1 hx];exact h
theorem UF{l:Li}(hl:aB l=0){kw:List Bool}{g:Gr}(h:dm l kw=some g):DyK l g:=by
 unfold dm at h;rw[map_eq_some_iff]at h;obtain⟨i,hi,rfl⟩:=h;obtain⟨h1,h2⟩:=fa hi;obtain⟨d,hd⟩:=au h1;unfold fL at h2;simp only[Bool.not_eq_false',and_eq_true,decide_eq_true_eq,Bool.not_eq_true']at h2;rw[aC hd]at h2 ⊢;obtain⟨j,hj⟩:=sa (wQ h2.1) h2.2;exact .drv hj oz (by rw[toNat_natCast];exact hd) rfl
theorem PO{l:Li}(hl:aB l=0){kw:List Bool}{g:Gr}(h:cM l kw=some g):DyK l g:=by
 unfold cM at h;rw[map_eq_some_iff]at h;obtain⟨i,hi,h⟩:=h;obtain⟨h1,h2⟩:=fa hi;split at h
 ·rename_i k hk;subst h;unfold f6 at hk;rw [map_eq_some_iff] at hk;obtain ⟨k',hk',rfl⟩:=hk;obtain ⟨h3,h4⟩:=fa hk';rw [show i + 1 + k' = k' + (i + 1) by omega] at h4;unfold dB at h4;simp only [Bool.not_eq_false',and_eq_true,decide_eq_true_eq] at h4;obtain ⟨⟨f1,f2⟩,⟨j1,j2⟩,j3⟩:=h4
  have hb:∀x∈[(i:Int),((k'+(i+1):Nat):Int)],kn kw x=false:=fun x hx=>by
   simp only[mem_cons,not_mem_nil,or_false]at hx;rcases hx with rfl |rfl
   ·exact pP f1
   ·exact pP f2
  obtain⟨a0,t0⟩:=sa hb j1;obtain⟨a1,t1⟩:=sa hb j2;obtain⟨n,a2,e,hj,hkd,ht⟩:=vV j3;obtain⟨i1,i2,_⟩:=d7 hl hj;have i1:=(dq i1).1;have i2:=(dq i2).1;refine .rrr oz t0 t1 j3 (by rw[e,toNat_natCast];exact hj) hkd ?_;rcases ht with⟨e1,e2⟩ |⟨e1,e2⟩
  ·rw[nZ i2 oz oz]at e2;exact .inl ⟨e1,of_decide_eq_true e2⟩
  ·rw[nZ i1 oz oz]at e2;exact .inr ⟨e1,of_decide_eq_true e2⟩
 ·rename_i hk;rw[hk]at h2;cases h2
theorem OC{l:Li}{kw:List Bool}{g:Gr}(h:dY l kw=some g):DyK l g:=by
 unfold dY at h;rw[map_eq_some_iff]at h;obtain⟨i,hi,rfl⟩:=h;obtain⟨h1,h2⟩:=fa hi;unfold fw at h2;simp only[Bool.not_eq_false',and_eq_true,decide_eq_true_eq]at h2;obtain⟨f1,j1,j2⟩:=h2;obtain⟨a0,t0⟩:=sa (wQ (pP f1)) j1;obtain⟨a1,t1⟩:=sa (wQ (pP f1)) j2;unfold hO;rw[aC t1.hj]
 by_cases e:a1.a=i
 ·rw[if_pos e];exact .pr t0 t1 e
 ·rw[if_neg e];exact .rp t0 t1 e
theorem Q3{l:Li}(hl:aB l=0){kw:List Bool}{g:Gr}(h:bY l kw=some g):DyK l g:=by
 unfold bY at h;cases h1:dm l kw with
 |some g'=>rw[h1]at h;cases h;exact UF hl h1
 |none =>
  rw[h1]at h;cases h2:cM l kw with
  |some g'=>rw[h2]at h;cases h;exact PO hl h2
  |none=>rw[h2]at h;exact OC h
theorem Eh{l:Li}(hl:aB l=0):∀(n:Nat)(kw:List Bool)(out:List Gr),(∀g∈out,DyK l g)->∀g∈(cm l n kw out).2,DyK l g
 |0,kw,out,h=>h
 |n+1,kw,out,h=>by
  unfold cm;cases hg:bY l kw with
  |none=>exact h
  |some g=>exact Eh hl n (bi kw g.bo) (out++[g]) (fun x hx=>by
    rcases List.mem_append.1 hx with hx |hx
    ·exact h x hx
    ·rw[List.mem_singleton.1 hx];exact Q3 hl hg)
theorem r5{l:Li}(hl:aB l=0){g:Gr}(h:g∈aN l):DyK l g/\GrOk l g:=by
 unfold aN at h;split at h
 ·exact⟨Eh hl _ _ _ (fun g hg=>by cases hg) g h,(sj hl).1 g h⟩
 ·cases h
open Lean.Grind
def E(r:(k:Nat)->T k)(n:Nat):Type:=T n
namespace T
theorem ofQ_zero:∀n,ofQ n 0=zero n
 |0=>rfl
 |n+1=>by simp only[ofQ,zero,ofQ_zero n]
theorem ofQ_add:∀n (p q:Rat),ofQ n (p+q)=add n (ofQ n p) (ofQ n q)
 |0,p,q=>rfl
 |n+1,p,q=>by simp only[ofQ,add,ofQ_add n,add_zero]
theorem ofQ_neg:∀n (p:Rat),ofQ n (-p)=neg n (ofQ n p)
 |0,p=>rfl
 |n+1,p=>by simp only[ofQ,neg,ofQ_neg n,neg_zero]
end T
structure Laws(r:(k:Nat)->T k)(n:Nat):Prop where
  assoc:∀x y z,T.mul r n (T.mul r n x y) z=T.mul r n x (T.mul r n y z)
  dist:∀x y z,T.mul r n x (T.add n y z)=T.add n (T.mul r n x y) (T.mul r n x z)
  one:∀x,T.mul r n (T.ofQ n 1) x=x
theorem T.neg_mul'{r:(k:Nat)->T k}{n:Nat}(h:Laws r n)(x y:T n):T.mul r n (T.neg n x) y=T.neg n (T.mul r n x y):=by
 have h1:T.add n (T.mul r n x y) (T.mul r n (T.neg n x) y)=T.zero n:=by
  rw[T.mul_comm r n x,T.mul_comm r n (T.neg n x),<- h.dist,T.add_neg,T.mul_zero]
 have h2:=congrArg (fun z=>T.add n (T.neg n (T.mul r n x y)) z) h1;simp only[T.add_zero]at h2;rw[<- T.add_assoc,T.add_comm n (T.neg n _),T.add_neg,T.zero_add]at h2;exact h2
theorem T.mul_addr{r:(k:Nat)->T k}{n:Nat}(h:Laws r n)(a b c:T n):T.mul r n (T.add n a b) c=T.add n (T.mul r n a c) (T.mul r n b c):=by
 rw[T.mul_comm r n _ c,h.dist,T.mul_comm r n c,T.mul_comm r n c]
instance (r:(k:Nat)->T k)(n:Nat):Add (E r n):=⟨T.add n⟩
instance (r:(k:Nat)->T k)(n:Nat):Mul (E r n):=⟨T.mul r n⟩
instance (r:(k:Nat)->T k)(n:Nat):Neg (E r n):=⟨T.neg n⟩
instance (r:(k:Nat)->T k)(n:Nat):_root_.Sub (E r n):=⟨fun x y=>T.add n x (T.neg n y)⟩
instance (r:(k:Nat)->T k)(n c:Nat):OfNat (E r n) c:=⟨T.ofQ n (c:Rat)⟩
instance (r:(k:Nat)->T k)(n:Nat):NatCast (E r n):=⟨fun c=>T.ofQ n (c:Rat)⟩
instance (r:(k:Nat)->T k)(n:Nat):IntCast (E r n):=⟨fun c=>T.ofQ n (c:Rat)⟩
instance (r:(k:Nat)->T k)(n:Nat):SMul Nat (E r n):=⟨fun c x=>T.mul r n (T.ofQ n (c:Rat)) x⟩
instance (r:(k:Nat)->T k)(n:Nat):SMul Int (E r n):=⟨fun c x=>T.mul r n (T.ofQ n (c:Rat)) x⟩
def E.pow{r:(k:Nat)->T k}{n:Nat}(x:E r n):Nat->E r n
  |0=>T.ofQ n 1
  |c+1=>T.mul r n (E.pow x c) x
instance (r:(k:Nat)->T k)(n:Nat):HPow (E r n) Nat (E r n):=⟨E.pow⟩
@[reducible] def Laws.ring {r:(k:Nat)->T k} {n:Nat} (h:Laws r n):CommRing (E r n) where
  add_zero a:=by
    show T.add n a (T.ofQ n ((0:Nat):Rat))=a;rw[show(((0:Nat):Rat))=0 from rfl,T.ofQ_zero];exact T.add_zero n a
  add_comm a b:=T.add_comm n a b
  add_assoc a b c:=T.add_assoc n a b c
  mul_assoc a b c:=h.assoc a b c
  mul_one a:=(T.mul_comm r n a _).trans (h.one a)
  one_mul a:=h.one a
  left_distrib a b c:=h.dist a b c
  right_distrib a b c:=T.mul_addr h a b c
  zero_mul a:=by
    show T.mul r n (T.ofQ n ((0:Nat):Rat)) a=T.ofQ n ((0:Nat):Rat);rw[show(((0:Nat):Rat))=0 from rfl,T.ofQ_zero];exact T.zero_mul r n a
  mul_zero a:=by
    show T.mul r n a (T.ofQ n ((0:Nat):Rat))=T.ofQ n ((0:Nat):Rat);rw[show(((0:Nat):Rat))=0 from rfl,T.ofQ_zero];exact T.mul_zero r n a
  pow_zero a:=rfl
  pow_succ a c:=rfl
  ofNat_succ c:=by
    show T.ofQ n ((c+1:Nat):Rat)=T.add n (T.ofQ n (c:Rat)) (T.ofQ n ((1:Nat):Rat));rw[<- T.ofQ_add];congr 1;exact Rat.natCast_add c 1
  ofNat_eq_natCast c:=rfl
  nsmul_eq_natCast_mul c a:=rfl
  neg_add_cancel a:=(T.add_comm n (T.neg n a) a).trans ((T.add_neg n a).trans (T.ofQ_zero n).symm)
  sub a b:=T.add n a (T.neg n b)
  sub_eq_add_neg a b:=rfl
  neg_zsmul i a:=(congrArg (fun z=>T.mul r n z a) (show T.ofQ n ((-i:Int):Rat)=T.neg n (T.ofQ n (i:Rat)) by rw[Rat.intCast_neg,T.ofQ_neg])).trans (T.neg_mul' h _ a)
  zsmul_natCast_eq_nsmul c a:=rfl
  intCast_ofNat c:=rfl
  intCast_neg i:=by
    show T.ofQ n ((-i:Int):Rat)=T.neg n (T.ofQ n (i:Rat));rw[Rat.intCast_neg,T.ofQ_neg]
  mul_comm a b:=T.mul_comm r n a b
section
variable{R:Type}[CommRing R](x y u v p q d:R)
theorem SB:(x*u+y*v*d)*p+(x*v+y*u)*q*d=x*(u*p+v*q*d)+y*(u*q+v*p)*d:=by grind
theorem Sh:(x*u+y*v*d)*q+(x*v+y*u)*p=x*(u*q+v*p)+y*(u*p+v*q*d):=by grind
theorem Pe:x*(u+p)+y*(v+q)*d=(x*u+y*v*d)+(x*p+y*q*d):=by grind
theorem OJ:x*(v+q)+y*(u+p)=(x*v+y*u)+(x*q+y*p):=by grind
end
theorem mD(r:(k:Nat)->T k):∀n,Laws r n
 |0=>⟨fun x y z=>Rat.mul_assoc x y z,fun x y z=>Rat.mul_add x y z,fun x=>Rat.one_mul x⟩
 |n+1=>by
  have I:=(mD r n).ring;have h1:=(mD r n).one;refine⟨?_,?_,?_⟩
  ·rintro⟨x,y⟩ ⟨u,v⟩ ⟨p,q⟩;exact Prod.ext (@SB (E r n) (mD r n).ring x y u v p q (r n)) (@Sh (E r n) (mD r n).ring x y u v p q (r n))
  ·rintro⟨x,y⟩ ⟨u,v⟩ ⟨p,q⟩;exact Prod.ext (@Pe (E r n) (mD r n).ring x y u v p q (r n)) (@OJ (E r n) (mD r n).ring x y u v p q)
  ·rintro⟨u,v⟩;refine Prod.ext ?_ ?_
   ·show T.add n (T.mul r n (T.ofQ n 1) u) (T.mul r n (T.mul r n (T.zero n) v) (r n))=u;rw[h1,T.zero_mul,T.zero_mul,T.add_zero]
   ·show T.add n (T.mul r n (T.ofQ n 1) v) (T.mul r n (T.zero n) u)=v;rw[h1,T.zero_mul,T.add_zero]
instance eRing(r:(k:Nat)->T k)(n:Nat):CommRing (E r n):=(mD r n).ring
structure Sg(R:Type)[CommRing R](s:R->Int):Prop where
  cs:∀x,s x=-1\/s x=0\/s x=1
  one:s 1=1
  neg:∀x,s (-x)=-s x
  mul:∀x y,s (x*y)=s x*s y
  add:∀x y,0<=s x->0<=s y->0<=s (x+y)
namespace Sg
variable{R:Type}[CommRing R]{s:R->Int}
theorem zero(h:Sg R s):s 0=0:=by
 have h1:=h.neg 0;rw[show -(0:R)=0 by grind]at h1;omega
theorem zadd(h:Sg R s){x y:R}(hx:s x=0):s (x+y)=s y:=by
 have h1:=h.cs y;have h2:=h.cs (x+y);have n1:=h.neg x;have n2:=h.neg y;have n3:=h.neg (x+y);have a1:=h.add x y;have a2:=h.add (-x) (-y);have a3:=h.add (-x) (x+y);have a4:=h.add x (-(x+y));rw[show -x+-y=-(x+y) by grind]at a2;rw[show -x+(x+y)=y by grind]at a3;rw[show x+-(x+y)=-y by grind]at a4;omega
theorem padd(h:Sg R s){x y:R}(hx:s x=1)(hy:0<=s y):s (x+y)=1:=by
 have h2:=h.cs (x+y);have a1:=h.add x y;have n2:=h.neg y;have n3:=h.neg (x+y);have a4:=h.add (-(x+y)) y;have e:-(x+y)+y=-x:=by grind
 have n1:=h.neg x;rw[e]at a4;rcases h2 with h2 |h2 |h2
 ·omega
 ·have:=h.zadd (x:=-(x+y)) (y:=y) oz;rw[e]at this;omega
 ·exact h2
theorem sq(h:Sg R s)(x:R):0<=s (x*x):=by
 rw[h.mul];rcases h.cs x with e |e |e <;> rw[e] <;> decide
theorem sqle(h:Sg R s){a b:R}(ha:0<=s a)(hb:0<=s (a*a-b*b)):0<=s (a+b):=by
 have c1:=h.cs (a+b);rcases c1 with c1 |c1 |c1
 ·exfalso;have n1:=h.neg (a+b);have p1:s (-(a+b)+a)=1:=h.padd oz ha;rw[show -(a+b)+a=-b by grind]at p1;have p2:s (-b+a)=1:=h.padd p1 ha;have m:=h.mul (-b+a) (a+b);rw[show(-b+a)*(a+b)=a*a-b*b by grind,p2,c1]at m;omega
 ·omega
 ·omega
theorem cancel(h:Sg R s){p x:R}(hp:s p=1)(hx:0<=s (p*x)):0<=s x:=by
 rw[h.mul,hp]at hx;omega
end Sg
def bC{r:(k:Nat)->T k}{n:Nat}(x y:E r n):E r (n+1):=((x,y):T n×T n)
def sg(r:(k:Nat)->T k)(n:Nat)(x:E r n):Int:=T.sgn r n x
def bw(r:(k:Nat)->T k)(n:Nat):E r n:=r n
variable{r:(k:Nat)->T k}{n:Nat}
theorem jW(z:E r (n+1)):∃x y:E r n,z=bC x y:=⟨z.1,z.2,rfl⟩
theorem od(x y u v:E r n):bC x y+bC u v=bC (x+u) (y+v):=rfl
theorem r6(x y:E r n):-bC x y=bC (-x) (-y):=rfl
theorem ko(x y u v:E r n):bC x y*bC u v=bC (x*u+y*v*bw r n) (x*v+y*u):=rfl
theorem E.zero_def:(0:E r n)=T.zero n:=T.ofQ_zero n
theorem uw:(1:E r (n+1))=bC 1 0:=by
 show T.ofQ (n+1) ((1:Nat):Rat)=(T.ofQ n ((1:Nat):Rat),T.ofQ n ((0:Nat):Rat));rw[show(((0:Nat):Rat))=0 from rfl,T.ofQ_zero];rfl
def aM(x y:E r n):E r n:=x*x+-(y*y*bw r n)
theorem kL(x y:E r n):sg r (n+1) (bC x y)=T.sgn3 (sg r n x) (sg r n y) (sg r n (bw r n)) (sg r n (aM x y)):=rfl
def PE(x y:E r n):Prop:=(0<=sg r n x/\0<=sg r n (aM x y))\/(0<=sg r n y/\0 <= -sg r n (aM x y))
theorem pZ(h:Sg (E r n) (sg r n))(hd:sg r n (bw r n)=1)(x y:E r n):0<=sg r (n+1) (bC x y)↔PE x y:=by
 rw[kL,hd];unfold PE
 have f1:sg r n y=0->sg r n (aM x y)=sg r n x*sg r n x:=by
  intro hy;have h1:sg r n (-(y*y*bw r n))=0:=by rw[h.neg,h.mul,h.mul,hy];simp
  have:=h.zadd (y:=x*x) h1;unfold aM;rw[show x*x+-(y*y*bw r n)=-(y*y*bw r n)+x*x by grind,this,h.mul]
 have f2:sg r n x=0->sg r n (aM x y)=-(sg r n y*sg r n y):=by
  intro hx;have h1:sg r n (x*x)=0:=by rw[h.mul,hx];simp
  have:=h.zadd (y:=-(y*y*bw r n)) h1;unfold aM;rw[this,h.neg,h.mul,h.mul,hd];simp
 have c1:=h.cs x;have c2:=h.cs y;have c3:=h.cs (aM x y)
 revert f1 f2 c1 c2 c3
 generalize sg r n x=a;generalize sg r n y=b;generalize sg r n (aM x y)=c;intro f1 f2 c1 c2 c3;rcases c1 with rfl |rfl |rfl <;> rcases c2 with rfl |rfl |rfl <;> rcases c3 with rfl |rfl |rfl <;> first |decide |(exfalso;revert f1 f2;decide)
theorem Pk(h:Sg (E r n) (sg r n))(hd:sg r n (bw r n)=1){x y u v:E r n}(h1:PE x y)(h2:PE u v):PE (x*u+y*v*bw r n) (x*v+y*u):=by
 have nm:aM (x*u+y*v*bw r n) (x*v+y*u)=aM x y*aM u v:=by unfold aM;grind
 have hn:=h.mul (aM x y) (aM u v);have d0:0<=sg r n (bw r n):=by omega
 unfold PE;rw[nm,hn];rcases h1 with⟨a1,a2⟩ |⟨a1,a2⟩ <;> rcases h2 with⟨b1,b2⟩ |⟨b1,b2⟩
 ·refine .inl ⟨h.sqle ?_ ?_,Int.mul_nonneg a2 b2⟩
  ·rw[h.mul];exact Int.mul_nonneg a1 b1
  ·have e : x * u * (x * u) - y * v * bw r n * (y * v * bw r n) = aM x y * (u * u) + y * y * bw r n * aM u v := by unfold aM; grind
   rw[e];refine h.add _ _ ?_ ?_
   ·rw[h.mul];exact Int.mul_nonneg a2 (h.sq u)
   ·rw[h.mul,h.mul];exact Int.mul_nonneg (Int.mul_nonneg (h.sq y) d0) b2
 ·refine .inr ⟨h.sqle ?_ ?_,?_⟩
  ·rw[h.mul];exact Int.mul_nonneg a1 b1
  ·have e : x * v * (x * v) - y * u * (y * u) = aM x y * (v * v) + y * y * -aM u v := by unfold aM; grind
   rw[e];refine h.add _ _ ?_ ?_
   ·rw[h.mul];exact Int.mul_nonneg a2 (h.sq v)
   ·rw[h.mul,h.neg];exact Int.mul_nonneg (h.sq y) b2
  ·rw[<- Int.mul_neg];exact Int.mul_nonneg a2 b2
 ·refine .inr ⟨?_,?_⟩
  ·rw [show x * v + y * u = y * u + x * v by grind];refine h.sqle ?_ ?_
   ·rw[h.mul];exact Int.mul_nonneg a1 b1
   ·have e : y * u * (y * u) - x * v * (x * v) = aM u v * (y * y) + v * v * -aM x y := by unfold aM; grind
    rw[e];refine h.add _ _ ?_ ?_
    ·rw[h.mul];exact Int.mul_nonneg b2 (h.sq y)
    ·rw[h.mul,h.neg];exact Int.mul_nonneg (h.sq v) a2
  ·rw[<- Int.neg_mul];exact Int.mul_nonneg a2 b2
 ·refine .inl ⟨?_,?_⟩
  ·rw [show x * u + y * v * bw r n = y * v * bw r n + x * u by grind];refine h.sqle ?_ ?_
   ·rw[h.mul,h.mul];exact Int.mul_nonneg (Int.mul_nonneg a1 b1) d0
   ·have e : y * v * bw r n * (y * v * bw r n) - x * u * (x * u) = -aM x y * (v * v * bw r n) + x * x * -aM u v := by unfold aM; grind
    rw[e];refine h.add _ _ ?_ ?_
    ·rw[h.mul,h.neg,h.mul];exact Int.mul_nonneg a2 (Int.mul_nonneg (h.sq v) d0)
    ·rw[h.mul,h.neg];exact Int.mul_nonneg (h.sq x) b2
  ·rw[<- Int.neg_mul_neg];exact Int.mul_nonneg a2 b2
theorem F1(h:Sg (E r n) (sg r n))(hd:sg r n (bw r n)=1){x y u v:E r n}(a1:0<=sg r n x)(a2:0<=sg r n (aM x y))(b1:0<=sg r n v)(b2:0 <= -sg r n (aM u v)):PE (x+u) (y+v):=by
  have cX:=h.cs (x+u);have cY:=h.cs (y+v);have cN:=h.cs (aM (x+u) (y+v));unfold PE
  by_cases hX:0<=sg r n (x+u)
  · by_cases hN:0<=sg r n (aM (x+u) (y+v))
    · exact .inl ⟨hX,hN⟩
    · by_cases hY:0<=sg r n (y+v)
      · exact .inr ⟨hY,by omega⟩
      · -- Y < 0: then N is at least 0
        exfalso;have hY':sg r n (-(y+v))=1:=by rw[h.neg];omega
        have ny:sg r n (-y)=1:=by
          have:=h.padd hY' b1
          rwa [show -(y+v)+v=-y by grind]at this
        have k1:0<=sg r n (x*v+y*u):=by
          refine h.sqle (by rw[h.mul];exact Int.mul_nonneg a1 b1) ?_;have e:x*v*(x*v)-y*u*(y*u)=aM x y*(v*v)+y*y*-aM u v:=by unfold aM;grind
          rw[e];refine h.add _ _ ?_ ?_
          · rw[h.mul];exact Int.mul_nonneg a2 (h.sq v)
          · rw[h.mul,h.neg];exact Int.mul_nonneg (h.sq y) b2
        have k2:0<=sg r n (x*v+-(y*u)):=by
          refine h.sqle (by rw[h.mul];exact Int.mul_nonneg a1 b1) ?_;have e:x*v*(x*v) - -(y*u)*-(y*u)=aM x y*(v*v)+y*y*-aM u v:=by unfold aM;grind
          rw[e];refine h.add _ _ ?_ ?_
          · rw[h.mul];exact Int.mul_nonneg a2 (h.sq v)
          · rw[h.mul,h.neg];exact Int.mul_nonneg (h.sq y) b2
        have k3:0<=sg r n (-y*(x+u)-x*-(y+v)):=by
          rw[show -y*(x+u)-x*-(y+v)=x*v+-(y*u) by grind];exact k2
        have k4:0<=sg r n (-y*(x+u)+x*-(y+v)):=by
          rw[show -y*(x+u)+x*-(y+v)=(-y*(x+u)-x*-(y+v))+(x*-(y+v)+x*-(y+v)) by grind];refine h.add _ _ k3 (h.add _ _ ?_ ?_) <;> (rw[h.mul,hY'];omega)
        have k5:0<=sg r n ((y*y)*aM (x+u) (y+v)):=by
          have e:(y*y)*aM (x+u) (y+v)=(-y*(x+u)-x*-(y+v))*(-y*(x+u)+x*-(y+v))+aM x y*(-(y+v)*-(y+v)):=by unfold aM;grind
          rw[e];refine h.add _ _ (by rw[h.mul];exact Int.mul_nonneg k3 k4) (by rw[h.mul];exact Int.mul_nonneg a2 (h.sq _))
        have k6 := h.cancel (by rw [h.mul]; rw [h.neg] at ny; have : sg r n y = -1 := by omega
                                rw[this];rfl) k5
        exact hN k6
  · have hX' : sg r n (-(x + u)) = 1 := by rw [h.neg]; omega
    have nu:sg r n (-u)=1:=by
      have:=h.padd hX' a1
      rwa [show -(x+u)+x=-u by grind]at this
    have su:sg r n u=-1:=by rw[h.neg]at nu;omega
    have hv:sg r n v=1:=by
      rcases h.cs v with e |e |e
      · omega
      · exfalso
        have h1:sg r n (-(v*v*bw r n))=0:=by rw[h.neg,h.mul,h.mul,e];simp
        have:=h.zadd (y:=u*u) h1;rw[show -(v*v*bw r n)+u*u=aM u v by unfold aM;grind,h.mul,su]at this;omega
      · exact e
    have k1:0<=sg r n (x*v+y*-u):=by
      refine h.sqle (by rw[h.mul];exact Int.mul_nonneg a1 b1) ?_;have e:x*v*(x*v)-y*-u*(y*-u)=aM x y*(v*v)+y*y*-aM u v:=by unfold aM;grind
      rw[e];refine h.add _ _ ?_ ?_
      · rw[h.mul];exact Int.mul_nonneg a2 (h.sq v)
      · rw[h.mul,h.neg];exact Int.mul_nonneg (h.sq y) b2
    have k3:0<=sg r n (-u*(y+v)-v*-(x+u)):=by
      rw[show -u*(y+v)-v*-(x+u)=x*v+y*-u by grind];exact k1
    have k4:0<=sg r n (v*-(x+u)):=by rw[h.mul,hv,hX'];decide
    have kY:0<=sg r n (y+v):=by
      refine h.cancel nu ?_;rw[show -u*(y+v)=(-u*(y+v)-v*-(x+u))+v*-(x+u) by grind];exact h.add _ _ k3 k4
    refine .inr ⟨kY,?_⟩
    have k5:0<=sg r n ((v*v)*-aM (x+u) (y+v)):=by
      have e:(v*v)*-aM (x+u) (y+v)=(-u*(y+v)-v*-(x+u))*(-u*(y+v)+v*-(x+u))+-aM u v*((y+v)*(y+v)):=by unfold aM;grind
      rw[e];have k6:0<=sg r n (-u*(y+v)+v*-(x+u)):=h.add _ _ (by rw[h.mul,nu];omega) k4;refine h.add _ _ (by rw[h.mul];exact Int.mul_nonneg k3 k6) (by rw[h.mul,h.neg];exact Int.mul_nonneg b2 (h.sq _))
    have k7:=h.cancel (by rw[h.mul,hv];rfl) k5
    rwa [h.neg]at k7
theorem TQ(h:Sg (E r n) (sg r n))(hd:sg r n (bw r n)=1){x y u v:E r n}(h1:PE x y)(h2:PE u v):PE (x+u) (y+v):=by
 have d0:0<=sg r n (bw r n):=by omega
 rcases h1 with⟨a1,a2⟩ |⟨a1,a2⟩ <;> rcases h2 with⟨b1,b2⟩ |⟨b1,b2⟩
 ·refine .inl ⟨h.add _ _ a1 b1,?_⟩
  have k:0<=sg r n (x*u+-(y*v*bw r n)):=by
   refine h.sqle (by rw[h.mul];exact Int.mul_nonneg a1 b1) ?_;have e:x*u*(x*u) - -(y*v*bw r n)*-(y*v*bw r n)=aM x y*(u*u)+y*y*bw r n*aM u v:=by unfold aM;grind
   rw[e];refine h.add _ _ ?_ ?_
   ·rw[h.mul];exact Int.mul_nonneg a2 (h.sq u)
   ·rw[h.mul,h.mul];exact Int.mul_nonneg (Int.mul_nonneg (h.sq y) d0) b2
  rw[show aM (x+u) (y+v)=(aM x y+aM u v)+((x*u+-(y*v*bw r n))+(x*u+-(y*v*bw r n))) by unfold aM;grind];exact h.add _ _ (h.add _ _ a2 b2) (h.add _ _ k k)
 ·exact F1 h hd a1 a2 b1 b2
 ·rw[show x+u=u+x by grind,show y+v=v+y by grind];exact F1 h hd b1 b2 a1 a2
 ·refine .inr ⟨h.add _ _ a1 b1,?_⟩
  have k:0<=sg r n (y*v*bw r n+-(x*u)):=by
   refine h.sqle (by rw[h.mul,h.mul];exact Int.mul_nonneg (Int.mul_nonneg a1 b1) d0) ?_;have e:y*v*bw r n*(y*v*bw r n) - -(x*u)*-(x*u)=-aM x y*(v*v*bw r n)+x*x*-aM u v:=by unfold aM;grind
   rw[e];refine h.add _ _ ?_ ?_
   ·rw[h.mul,h.neg,h.mul];exact Int.mul_nonneg a2 (Int.mul_nonneg (h.sq v) d0)
   ·rw[h.mul,h.neg];exact Int.mul_nonneg (h.sq x) b2
  have k2:0<=sg r n (-aM (x+u) (y+v)):=by
   rw[show -aM (x+u) (y+v)=(-aM x y+-aM u v)+((y*v*bw r n+-(x*u))+(y*v*bw r n+-(x*u))) by unfold aM;grind];exact h.add _ _ (h.add _ _ (by rw[h.neg];exact a2) (by rw[h.neg];exact b2)) (h.add _ _ k k)
  rwa [h.neg]at k2
theorem Ma(a b c d:Int):T.sgn3 (-a) (-b) c d=-T.sgn3 a b c d:=by
 unfold T.sgn3;have e:(-a=-b \/ -b=0)↔(a=b\/b=0):=by omega
 simp only[e];split
 ·rfl
 ·split
  ·rfl
  ·by_cases h:a=0
   ·rw[if_pos oz,if_pos h]
   ·rw[if_neg oz,if_neg h,Int.neg_mul]
theorem Tp(h:Sg (E r n) (sg r n))(hd:0<=sg r n (bw r n)):Sg (E r (n+1)) (sg r (n+1)):=by
 have hcs:∀z:E r (n+1),sg r (n+1) z=-1\/sg r (n+1) z=0\/sg r (n+1) z=1:=fun z=>T.sgn_cases r (n+1) z
 have hone:sg r (n+1) 1=1:=by
  rw[uw,kL,h.one,h.zero];unfold T.sgn3;split
  ·rfl
  ·simp
 have hneg:∀z:E r (n+1),sg r (n+1) (-z)=-sg r (n+1) z:=by
  intro z;obtain⟨x,y,rfl⟩:=jW z;rw[r6,kL,kL,h.neg,h.neg,show aM (-x) (-y)=aM x y by unfold aM;grind,Ma]
 by_cases hd0:sg r n (bw r n)=0
 ·have e0:∀x y:E r n,sg r (n+1) (bC x y)=sg r n x:=by
   intro x y;rw[kL,hd0];unfold T.sgn3;rw[if_pos rfl]
  refine⟨hcs,hone,hneg,?_,?_⟩
  ·intro z w;obtain ⟨x,y,rfl⟩:=jW z;obtain ⟨u,v,rfl⟩:=jW w;rw [ko,e0,e0,e0];have h1:sg r n (y * v * bw r n) = 0:=by rw [h.mul,hd0]; simp
   have:=h.zadd (y:=x*u) h1;rw[show x*u+y*v*bw r n=y*v*bw r n+x*u by grind,this,h.mul]
  ·intro z w;obtain⟨x,y,rfl⟩:=jW z;obtain⟨u,v,rfl⟩:=jW w;rw[od,e0,e0,e0];exact h.add x u
 ·have hd1 : sg r n (bw r n) = 1 := by rcases h.cs (bw r n) with e | e | e <;> omega
  have hadd:∀z w:E r (n+1),0<=sg r (n+1) z->0<=sg r (n+1) w->0<=sg r (n+1) (z+w):=by
   intro z w;obtain⟨x,y,rfl⟩:=jW z;obtain⟨u,v,rfl⟩:=jW w;rw[od,pZ h hd1,pZ h hd1,pZ h hd1];exact TQ h hd1
  have hpm:∀z w:E r (n+1),0<=sg r (n+1) z->0<=sg r (n+1) w->0<=sg r (n+1) (z*w):=by
   intro z w;obtain⟨x,y,rfl⟩:=jW z;obtain⟨u,v,rfl⟩:=jW w;rw[ko,pZ h hd1,pZ h hd1,pZ h hd1];exact Pk h hd1
  have hzm:∀z w:E r (n+1),sg r (n+1) z=0->sg r (n+1) (w*z)=0:=by
   intro z w hz;have n1:=hneg z;have n2:=hneg w;have n3:=hneg (w*z);have m1:=hpm w z;have m2:=hpm w (-z);have m3:=hpm (-w) z;have m4:=hpm (-w) (-z);rw[show w*-z=-(w*z) by grind]at m2;rw[show -w*z=-(w*z) by grind]at m3;rw[show -w*-z=w*z by grind]at m4;rcases hcs w with e |e |e <;> omega
  have hsc:∀(a u v:E r n),sg r (n+1) (bC (a*u) (a*v))=sg r n a*sg r (n+1) (bC u v):=by
   intro a u v;rw[kL,kL,show aM (a*u) (a*v)=a*a*aM u v by unfold aM;grind,h.mul,h.mul,h.mul,h.mul,hd1]
   have f1:sg r n v=0->sg r n (aM u v)=sg r n u*sg r n u:=by
    intro hy;have h1:sg r n (-(v*v*bw r n))=0:=by rw[h.neg,h.mul,h.mul,hy];simp
    have:=h.zadd (y:=u*u) h1;unfold aM;rw[show u*u+-(v*v*bw r n)=-(v*v*bw r n)+u*u by grind,this,h.mul]
   have c1:=h.cs u;have c2:=h.cs v;have c3:=h.cs (aM u v);have c4:=h.cs a
   revert c1 c2 c3 c4
   generalize sg r n u=a1;generalize sg r n v=b1;generalize sg r n (aM u v)=c1;generalize sg r n a=e1;intro c1 c2 c3 c4;rcases c1 with rfl |rfl |rfl <;> rcases c2 with rfl |rfl |rfl <;> rcases c3 with rfl |rfl |rfl <;> rcases c4 with rfl |rfl |rfl <;> decide
  have hpadd:∀z w:E r (n+1),sg r (n+1) z=1->0<=sg r (n+1) w->sg r (n+1) (z+w)=1:=by
   intro z w hz hw;have a1:=hadd z w oz hw;rcases hcs (z+w)with e |e |e
   ·omega
   ·exfalso;have n1:=hneg z;have n2:=hneg (z+w);have a2:=hadd (-(z+w)) w oz hw;rw[show -(z+w)+w=-z by grind]at a2;omega
   ·exact e
  have hpp:∀z w:E r (n+1),sg r (n+1) z=1->sg r (n+1) w=1->sg r (n+1) (z*w)=1:=by
   intro z w hz hw;obtain⟨x,y,rfl⟩:=jW z;obtain⟨u,v,rfl⟩:=jW w;have p0:=hpm _ _ (by omega:0<=sg r (n+1) (bC x y)) (by omega:0<=sg r (n+1) (bC u v));rcases hcs (bC x y*bC u v)with e |e |e
   ·omega
   ·exfalso
    by_cases hN:sg r n (aM x y)=0
    ·have hxy:sg r n x=1/\sg r n y=1:=by
      rw[kL,hd1,hN]at hz
      have f1:sg r n y=0->sg r n (aM x y)=sg r n x*sg r n x:=by
       intro hy;have h1:sg r n (-(y*y*bw r n))=0:=by rw[h.neg,h.mul,h.mul,hy];simp
       have:=h.zadd (y:=x*x) h1;unfold aM;rw[show x*x+-(y*y*bw r n)=-(y*y*bw r n)+x*x by grind,this,h.mul]
      have f2:sg r n x=0->sg r n (aM x y)=-(sg r n y*sg r n y):=by
       intro hx;have h1:sg r n (x*x)=0:=by rw[h.mul,hx];simp
       have:=h.zadd (y:=-(y*y*bw r n)) h1;unfold aM;rw[this,h.neg,h.mul,h.mul,hd1];simp
      rw[hN]at f1 f2;have c1:=h.cs x;have c2:=h.cs y
      revert hz f1 f2 c1 c2
      generalize sg r n x=a;generalize sg r n y=b;intro hz f1 f2 c1 c2;rcases c1 with rfl |rfl |rfl <;> rcases c2 with rfl |rfl |rfl <;> revert hz f1 f2 <;> decide
     have k1:sg r (n+1) (bC (x*u) (x*v))=1:=by rw[hsc,hxy.1,hw];rfl
     have k2:0<=sg r (n+1) (bC 0 y):=by
      rw[kL,h.zero,hxy.2,hd1];unfold T.sgn3;simp
     have k3:=hpm _ _ k2 (by omega:0<=sg r (n+1) (bC u v));have k4:=hpadd _ _ k1 k3;rw[ko,od]at k4;rw[ko]at e;rw[show x*u+(0*u+y*v*bw r n)=x*u+y*v*bw r n by grind,show x*v+(0*v+y*u)=x*v+y*u by grind]at k4;omega
    ·have k1:=hzm _ (bC x (-y)) e;rw[show bC x (-y)*(bC x y*bC u v)=bC (aM x y*u) (aM x y*v) by rw[ko,ko];unfold aM;congr 1 <;> grind,hsc,hw]at k1;omega
   ·exact e
  refine⟨hcs,hone,hneg,?_,hadd⟩;intro z w;rcases hcs w with e |e |e
  ·rcases hcs z with e' |e' |e'
   ·have := hpp (-z) (-w) (by rw[hneg];omega) (by rw[hneg];omega);rw[show -z*-w=z*w by grind]at this;rw[this,e,e'];rfl
   ·have:=hzm z w e';rw[show w*z=z*w by grind]at this;rw[this,e'];simp
   ·have := hpp z (-w) e' (by rw[hneg];omega);rw[show z*-w=-(z*w) by grind,hneg]at this;rw[e,e'];omega
  ·rw[hzm w z e,e];simp
  ·rcases hcs z with e' |e' |e'
   ·have := hpp (-z) w (by rw[hneg];omega) e;rw[show -z*w=-(z*w) by grind,hneg]at this;rw[e,e'];omega
   ·have:=hzm z w e';rw[show w*z=z*w by grind]at this;rw[this,e'];simp
   ·rw[hpp z w e' e,e,e'];rfl
theorem mF(q:Rat):bD q=-1/\q<0\/bD q=0/\q=0\/bD q=1/\0<q:=by
 unfold bD;split
 ·exact .inl ⟨rfl,by assumption⟩
 ·split
  ·exact .inr (.inr ⟨rfl,by assumption⟩)
  ·exact .inr (.inl ⟨rfl,by grind⟩)
theorem uT{q:Rat}(h:0<q):bD q=1:=by
 rcases mF q with⟨_,h'⟩ |⟨_,h'⟩ |⟨e,_⟩
 ·grind
 ·grind
 ·exact e
theorem Bf{q:Rat}(h:q<0):bD q=-1:=by
 rcases mF q with⟨e,_⟩ |⟨_,h'⟩ |⟨_,h'⟩
 ·exact e
 ·grind
 ·grind
theorem U1(q:Rat):bD (-q)=-bD q:=by
 rcases mF q with⟨e,h⟩ |⟨e,h⟩ |⟨e,h⟩
 ·rw[e,uT (by grind)];rfl
 ·rw[h];rfl
 ·rw[e,Bf (by grind)]
theorem M5(p q:Rat):bD (p*q)=bD p*bD q:=by
 have h0:bD 0=0:=rfl;rcases mF p with⟨e,h⟩ |⟨e,h⟩ |⟨e,h⟩ <;> rcases mF q with⟨e',h'⟩ |⟨e',h'⟩ |⟨e',h'⟩
 ·have := Rat.mul_pos (a := -p) (b := -q) (by grind) (by grind);rw[e,e',uT (by grind)];rfl
 ·rw[h',Rat.mul_zero,h0];simp
 ·have := Rat.mul_pos (a := -p) (b := q) (by grind) h';rw[e,e',Bf (by grind)];rfl
 ·rw[h,Rat.zero_mul,h0];simp
 ·rw[h,Rat.zero_mul,h0];simp
 ·rw[h,Rat.zero_mul,h0];simp
 ·have := Rat.mul_pos (a := p) (b := -q) h (by grind);rw[e,e',Bf (by grind)];rfl
 ·rw[h',Rat.mul_zero,h0];simp
 ·rw[e,e',uT (Rat.mul_pos h h')];rfl
theorem Pp(p q:Rat)(h1:0<=bD p)(h2:0<=bD q):0<=bD (p+q):=by
 rcases mF (p+q)with⟨e,h⟩ |⟨e,h⟩ |⟨e,h⟩
 ·exfalso;rcases mF p with⟨e1,g1⟩ |⟨e1,g1⟩ |⟨e1,g1⟩ <;> rcases mF q with⟨e2,g2⟩ |⟨e2,g2⟩ |⟨e2,g2⟩ <;> first |omega |grind
 ·omega
 ·omega
theorem RM(r:(k:Nat)->T k):Sg (E r 0) (sg r 0) :=
 ⟨fun q=>T.sgnQ_cases q,rfl,fun q=>U1 q,fun p q=>M5 p q,fun p q=>Pp p q⟩
def fe(r:(k:Nat)->T k)(n:Nat):Prop:=∀j,j<n->0<=T.sgn r j (r j)
theorem gG(r:(k:Nat)->T k):∀n,fe r n->Sg (E r n) (sg r n)
 |0,_=>RM r
 |n+1,h=>Tp (gG r n (fun j hj=>h j oz)) (h n oz)
end Go.Lw
namespace Go.Lw
def xA{r:(k:Nat)->T k}{n:Nat}(x:E r n):AV:=nA (sh n x)
abbrev Pn(r:(k:Nat)->T k)(n:Nat):Type:=E r n×E r n
def mn(r:(k:Nat)->T k)(n:Nat):LL:=(List.range n).map fun k=>enc k (r k)
def qE{r:(k:Nat)->T k}{n:Nat}(q:Rat):E r n:=T.ofQ n q
theorem yg:∀(n:Nat)(q:Rat),sh n (T.ofQ n q)=sh 0 (q:Rat)
 |0,q=>rfl
 |n+1,q=>by
  show(if T.isZ n (T.zero n)=true then sh n (T.ofQ n q)else _)=_;rw[if_pos ((T.isZ_iff n _).2 rfl),yg n q]
theorem F5:∀n:Nat,sh n (T.zero n)=[]
 |0=>rfl
 |n+1=>by
  show(if T.isZ n (T.zero n)=true then sh n (T.zero n)else _)=_;rw[if_pos ((T.isZ_iff n _).2 rfl),F5 n]
theorem rD(r:(k:Nat)->T k)(n:Nat):(mn r n).length=n:=by simp[mn]
theorem Gv{r:(k:Nat)->T k}{n j:Nat}(h:j<n):(mn r n).getD j []=enc j (r j):=by
 unfold mn;rw[getD_eq_getElem?_getD,getElem?_map,List.getElem?_range h];rfl
theorem Of{r:(k:Nat)->T k}{n j:Nat}(h:j<n):aj (mn r n) j=r j:=by
 unfold aj;rw[Gv h,uC]
theorem DT{ts:LL}{R:Nat}(tw:Tw ts R):ts=mn (aj ts) ts.length:=by
 apply List.ext_getElem?;intro j
 by_cases hj:j<ts.length
 ·have h1:=Gv (r:=aj ts) hj;have h2:=tw.len j hj;rw[getD_eq_getElem?_getD]at h1;rw[getElem?_eq_getElem (show j<(mn (aj ts) ts.length).length by rw[rD];exact hj)]at h1 ⊢;rw[Option.getD_some]at h1;rw[h1,getElem?_eq_getElem hj];unfold aj;rw[rj _ _ h2,getD_eq_getElem?_getD,getElem?_eq_getElem hj];rfl
 ·rw[getElem?_eq_none oz,getElem?_eq_none (by rw[rD];omega)]
class Cx(r:(k:Nat)->T k)(n:Nat)(u k:outParam Nat):Prop where
  ex:∃R,Tw (mn r n) R/\eB R n<=k
  k1:1<=k
  u3:3<=u
class Zu(u k:Nat){r:(k:Nat)->T k}{n:Nat}(x:E r n)(w v:outParam Nat):Prop where
  nm:Nm n (w*u+v*k) (sh n x)
class Zp(u k:Nat){r:(k:Nat)->T k}{n:Nat}(p:Pn r n)(w v:outParam Nat):Prop where
  x:Nm n (w*u+v*k) (sh n p.1)
  y:Nm n (w*u+v*k) (sh n p.2)
class Qz(u:Nat)(q:Rat)(w:outParam Nat):Prop where
  cb:Cb (w*u) [q]
section
variable{r:(k:Nat)->T k}{n u k:Nat}
theorem Cx.five(c:Cx r n u k):n<=5:=by obtain⟨R,tw,_⟩:=c.ex;have:=tw.five;rwa [rD]at this
theorem Cx.three(c:Cx r n u k):n<=3:=by obtain⟨R,tw,_⟩:=c.ex;have:=tw.three;rwa [rD]at this
theorem xd(w v w' v' u k:Nat):(w*u+v*k)+(w'*u+v'*k)=(w+w')*u+(v+v')*k:=by
 rw[Nat.add_mul,Nat.add_mul];omega
theorem Nm.eq{n e f:Nat}{l:List Rat}(h:Nm n e l)(hf:e=f):Nm n f l:=hf▸h
theorem Nm.addT{e f:Nat}{x y:T n}(hx:Nm n e (sh n x))(hy:Nm n f (sh n y)):Nm n (e+f+1) (sh n (T.add n x y)):=by
 have h:=hx.add hy
 rwa [aZ,aZ]at h
theorem Nm.subT{e f:Nat}{x y:T n}(hx:Nm n e (sh n x))(hy:Nm n f (sh n y)):Nm n (e+f+1) (sh n (T.add n x (T.neg n y))):=by
 have h:=hx.sub hy
 rwa [aZ,aZ]at h
theorem Nm.negT{e:Nat}{x:T n}(hx:Nm n e (sh n x)):Nm n e (sh n (T.neg n x)):=by
 have h:=hx.neg
 rwa [aZ]at h
theorem Nm.mulT{R e f:Nat}(tw:Tw (mn r n) R){x y:T n}(hx:Nm n e (sh n x))(hy:Nm n f (sh n y)):Nm n (e+f+eB R n) (sh n (T.mul r n x y)):=by
 have h:=Nm.mul tw (rD r n).symm hx hy
 rwa [aZ,aZ,T.mul_congr n (fun j hj=>Of hj)]at h
instance Zu.add[c:Cx r n u k]{x y:E r n}{w v w' v':Nat}[hx:Zu u k x w v][hy:Zu u k y w' v']:Zu u k (x+y) (w+w') (v+v'+1) :=
  ⟨(Nm.addT hx.nm hy.nm).mono (by rw[xd,Nat.add_mul _ 1];have:=c.k1;omega)⟩
instance Zu.sub[c:Cx r n u k]{x y:E r n}{w v w' v':Nat}[hx:Zu u k x w v][hy:Zu u k y w' v']:Zu u k (x-y) (w+w') (v+v'+1) :=
  ⟨(Nm.subT hx.nm hy.nm).mono (by rw[xd,Nat.add_mul _ 1];have:=c.k1;omega)⟩
instance Zu.neg{x:E r n}{w v:Nat}[hx:Zu u k x w v]:Zu u k (-x) w v:=⟨Nm.negT hx.nm⟩
instance Zu.mul[c:Cx r n u k]{x y:E r n}{w v w' v':Nat}[hx:Zu u k x w v][hy:Zu u k y w' v']:Zu u k (x*y) (w+w') (v+v'+1):=by
  obtain⟨R,tw,hk⟩:=c.ex;exact⟨(Nm.mulT tw hx.nm hy.nm).mono (by rw[xd,Nat.add_mul _ 1];omega)⟩
instance Zu.qE[c:Cx r n u k]{q:Rat}{w:Nat}[h:Qz u q w]:Zu u k (qE q:E r n) w 0:=⟨by
  show Nm n _ (sh n (T.ofQ n q));rw[yg];exact(Nm.ofQ c.five h.cb).eq oz⟩
theorem Cb.int{e:Nat}{z:Int}(h:z.natAbs<=2^e):Cb e [(z:Rat)] :=
 ⟨1,z.natAbs,⟨by omega,fun q hq=>⟨z,by rw[List.mem_singleton.1 hq];exact Rat.mul_one _,le_refl _⟩⟩,Nat.one_le_two_pow,h⟩
theorem Qz.int[c:Cx r n u k]{z:Int}(h:z.natAbs<=8):Qz u (z:Rat) 1:=⟨Cb.int (le_trans h (show 2^3<=_ from bK (by have:=c.u3;omega)))⟩
instance Zu.c0[c:Cx r n u k]:Zu u k (0:E r n) 0 0:=⟨by
  show Nm n _ (sh n (T.ofQ n ((0:Nat):Rat)));rw[show(((0:Nat):Rat))=0 from rfl,T.ofQ_zero,F5];exact⟨c.five,.inl rfl,Cb.nil.mono (zero_le _)⟩⟩
instance Zu.c1[c:Cx r n u k]:Zu u k (1:E r n) 1 0:=by
  haveI:Qz u ((1:Nat):Rat) 1:=Qz.int (c:=c) (z:=1) (by decide);exact(inferInstance:Zu u k (Go.Lw.qE ((1:Nat):Rat):E r n) 1 0)
instance Zu.c2[c:Cx r n u k]:Zu u k (2:E r n) 1 0:=by
  haveI:Qz u ((2:Nat):Rat) 1:=Qz.int (c:=c) (z:=2) (by decide);exact(inferInstance:Zu u k (Go.Lw.qE ((2:Nat):Rat):E r n) 1 0)
instance Zu.c4[c:Cx r n u k]:Zu u k (4:E r n) 1 0:=by
  haveI:Qz u ((4:Nat):Rat) 1:=Qz.int (c:=c) (z:=4) (by decide);exact(inferInstance:Zu u k (Go.Lw.qE ((4:Nat):Rat):E r n) 1 0)
instance Zu.px{p:Pn r n}{w v:Nat}[h:Zp u k p w v]:Zu u k p.1 w v:=⟨h.x⟩
instance Zu.py{p:Pn r n}{w v:Nat}[h:Zp u k p w v]:Zu u k p.2 w v:=⟨h.y⟩
theorem A4{w v w' v' u k:Nat}(h:w<=w')(h':v<=v'):w*u+v*k<=w'*u+v'*k:=Nat.add_le_add (mul_le_mul_right _ h) (mul_le_mul_right _ h')
instance Zp.mk'{x y:E r n}{w v w' v':Nat}[hx:Zu u k x w v][hy:Zu u k y w' v']:Zp u k ((x,y):Pn r n) (max w w') (max v v') :=
  ⟨hx.nm.mono (A4 (Nat.le_max_left ..) (Nat.le_max_left ..)),hy.nm.mono (A4 (Nat.le_max_right ..) (Nat.le_max_right ..))⟩
def Si(p q:Pn r n):Pn r n:=(p.1+q.1,p.2+q.2)
def PP(p q:Pn r n):Pn r n:=(p.1-q.1,p.2-q.2)
def PW(c:E r n)(p:Pn r n):Pn r n:=(c*p.1,c*p.2)
def Py(p q:Pn r n):E r n:=p.1*q.1+p.2*q.2
def Qy(p q:Pn r n):E r n:=p.1*q.2-p.2*q.1
def UU(c s:E r n)(p:Pn r n):Pn r n:=(c*p.1-s*p.2,s*p.1+c*p.2)
def pQ(x y:Rat):Pn r n:=(qE x,qE y)
def Pr(p:Pn r n):Pn r n:=(-p.2,p.1)
instance Zp.add[c:Cx r n u k]{p q:Pn r n}{w v w' v':Nat}[hp:Zp u k p w v][hq:Zp u k q w' v']:Zp u k (Si p q) (w+w') (v+v'+1) :=
  ⟨(inferInstance:Zu u k (p.1+q.1) (w+w') (v+v'+1)).nm,(inferInstance:Zu u k (p.2+q.2) (w+w') (v+v'+1)).nm⟩
instance Zp.sub[c:Cx r n u k]{p q:Pn r n}{w v w' v':Nat}[hp:Zp u k p w v][hq:Zp u k q w' v']:Zp u k (PP p q) (w+w') (v+v'+1) :=
  ⟨(inferInstance:Zu u k (p.1-q.1) (w+w') (v+v'+1)).nm,(inferInstance:Zu u k (p.2-q.2) (w+w') (v+v'+1)).nm⟩
instance Zp.scale[c:Cx r n u k]{a:E r n}{q:Pn r n}{w v w' v':Nat}[hp:Zu u k a w v][hq:Zp u k q w' v']:Zp u k (PW a q) (w+w') (v+v'+1) :=
  ⟨(inferInstance:Zu u k (a*q.1) (w+w') (v+v'+1)).nm,(inferInstance:Zu u k (a*q.2) (w+w') (v+v'+1)).nm⟩
instance Zu.dot[c:Cx r n u k]{p q:Pn r n}{w v w' v':Nat}[hp:Zp u k p w v][hq:Zp u k q w' v']:Zu u k (Py p q) (w+w'+(w+w')) (v+v'+1+(v+v'+1)+1) :=
  (inferInstance:Zu u k (p.1*q.1+p.2*q.2) _ _)
instance Zu.cross[c:Cx r n u k]{p q:Pn r n}{w v w' v':Nat}[hp:Zp u k p w v][hq:Zp u k q w' v']:Zu u k (Qy p q) (w+w'+(w+w')) (v+v'+1+(v+v'+1)+1) :=
  (inferInstance:Zu u k (p.1*q.2-p.2*q.1) _ _)
instance Zp.turn[c:Cx r n u k]{a b:E r n}{p:Pn r n}{w v w' v' w2 v2:Nat}[ha:Zu u k a w v][hb:Zu u k b w' v'][hp:Zp u k p w2 v2] :
    Zp u k (UU a b p) (w+w2+(w'+w2)) (v+v2+1+(v'+v2+1)+1) :=
  ⟨(inferInstance:Zu u k (a*p.1-b*p.2) _ _).nm,by
    have h:=(inferInstance:Zu u k (b*p.1+a*p.2) _ _).nm;exact h.eq (by rw[Nat.add_comm (w'+w2),Nat.add_comm (v'+v2+1)])⟩
instance Zp.ofQ[c:Cx r n u k]{x y:Rat}{w w':Nat}[hx:Qz u x w][hy:Qz u y w']:Zp u k (pQ x y:Pn r n) (max w w') (max 0 0) :=
  (inferInstance:Zp u k ((qE x,qE y):Pn r n) _ _)
instance Zp.quart{p:Pn r n}{w v:Nat}[hp:Zp u k p w v]:Zp u k (Pr p) w v:=⟨(inferInstance:Zu u k (-p.2) w v).nm,hp.x⟩
end
theorem HS(rs:List (List Rt)):(llq rs).length=rs.length:=by simp[llq]
abbrev Et(ts:LL):Type:=E (aj ts) ts.length
def dE(ts:LL)(a:List Rat):Et ts:=ad ts.length a
def sX{ts:LL}(x:Et ts):List Rat:=sh ts.length x
def am{ts:LL}(x:Et ts):Int:=T.sgn (aj ts) ts.length x
class Ct(ts:LL)(u k:outParam Nat):Prop where
  ex:∃R,Tw ts R/\eB R ts.length<=k
  k1:1<=k
  u3:3<=u
  ub:u<=1000000
  kb:k<=1000000
instance Ct.cx{ts:LL}{u k:Nat}[c:Ct ts u k]:Cx (aj ts) ts.length u k:=by
  obtain⟨R,tw,h⟩:=c.ex;exact⟨⟨R,DT tw▸tw,h⟩,c.k1,c.u3⟩
class Zl(ts:LL)(u k:Nat)(a:List Rat)(x:outParam (Et ts))(w v:outParam Nat):Prop where
  eq:ad ts.length a=x
  nm:Nm ts.length (w*u+v*k) a
section
variable{ts:LL}{u k:Nat}
instance Zl.sX{x:Et ts}{w v:Nat}[h:Zu u k x w v]:Zl ts u k (sX x) x w v:=⟨aZ _ _,h.nm⟩
instance Zl.q[c:Ct ts u k]{q:Rat}{w:Nat}[h:Qz u q w]:Zl ts u k (sh 0 (q:Rat)) (qE q:Et ts) w 0:=⟨ia _ q,by
  obtain⟨R,tw,_⟩:=c.ex;exact(Nm.ofQ tw.five h.cb).eq oz⟩
instance Zl.nil [c : Ct ts u k] : Zl ts u k [] (0 : Et ts) 0 0 := ⟨by rw [gp]; exact E.zero_def.symm, by
  obtain⟨R,tw,_⟩:=c.ex;exact⟨tw.five,.inl rfl,Cb.nil.mono (zero_le _)⟩⟩
theorem Zl.zu{a:List Rat}{x:Et ts}{w v:Nat}(h:Zl ts u k a x w v):Zu u k x w v:=⟨by
 have h1:=h.nm;have h2:=Cb.sh h1.cb h1.nl;rw[h.eq]at h2;exact⟨h1.five,eg _ _,h2⟩⟩
theorem Zl.at{a:List Rat}{e:Nat}(h:Nm ts.length e a)(he:e<=u):Zl ts u k a (dE ts a) 1 0:=⟨rfl,h.mono oz⟩
theorem DH(c:Ct ts u k){w v m:Nat}(h:w+v<=m):w*u+v*k<=m*1000000:=by
 have h1:w*u<=w*1000000:=mul_le_mul_left _ c.ub;have h2:v*k<=v*1000000:=mul_le_mul_left _ c.kb;omega
theorem Zl.up(c:Ct ts u k){a:List Rat}{x:Et ts}{w v m:Nat}(h:Zl ts u k a x w v)(hm:w+v<=m):Nm ts.length (m*1000000) a:=h.nm.mono (DH c hm)
theorem Ct.kk(c:Ct ts u k){R:Nat}(h:eB R ts.length<=k):kB R ts.length<=1000000:=le_trans h c.kb
def dotE(x y z t:Et ts):Et ts:=x*z+y*t
def crsE(x y z t:Et ts):Et ts:=x*t-y*z
instance Zu.dotE[c:Ct ts u k]{x y z t:Et ts}{w1 v1 w2 v2 w3 v3 w4 v4:Nat}[Zu u k x w1 v1][Zu u k y w2 v2][Zu u k z w3 v3][Zu u k t w4 v4]:Zu u k (dotE x y z t) (w1+w3+(w2+w4)) (v1+v3+1+(v2+v4+1)+1) :=
  (inferInstance:Zu u k (x*z+y*t) _ _)
instance Zu.crsE[c:Ct ts u k]{x y z t:Et ts}{w1 v1 w2 v2 w3 v3 w4 v4:Nat}[Zu u k x w1 v1][Zu u k y w2 v2][Zu u k z w3 v3][Zu u k t w4 v4]:Zu u k (crsE x y z t) (w1+w4+(w2+w3)) (v1+v4+1+(v2+v3+1)+1) :=
  (inferInstance:Zu u k (x*t-y*z) _ _)
end
def eG(xs:List Int):List Int:=xs.mergeSort (fun a b=>decide (a<=b))
theorem AG(xs:List Int):(eG xs).Perm xs:=List.mergeSort_perm _ _
theorem Jl(xs:List Int):(eG xs).Pairwise (· <= ·):=by
 have h:=List.pairwise_mergeSort (le:=fun a b:Int=>decide (a<=b)) (fun a b c h1 h2=>by simp only[decide_eq_true_eq]at *;omega) (fun a b=>by simp only[or_eq_true,decide_eq_true_eq];omega) xs;exact h.imp (fun h=>of_decide_eq_true h)
theorem RD{xs ys:List Int}(hp:ys.Perm xs)(hs:ys.Pairwise (· <= ·)):ys=eG xs :=
 List.Perm.eq_of_pairwise (le:=fun a b:Int=>a<=b) (fun a b _ _ h1 h2=>by omega) hs (Jl xs) (hp.trans (AG xs).symm)
theorem EK(xs:List Int):(eG xs).length=xs.length:=(AG xs).length_eq
theorem AQ{xs:List Int}{b:Int}:b∈eG xs↔b∈xs:=(AG xs).mem_iff
theorem Hv(e:Nat)(l:List Nat):ez (e::l)=if e≠0 then e else ez l:=rfl
theorem o9{α:Type}{f:α->Nat}{L:List α}(h:∀x∈L,f x=0):ez (L.map f)=0:=by
 induction L with
 |nil=>rfl
 |cons x L ih =>
  rw[map_cons,Hv,if_neg (by rw[h x (mem_cons_self ..)];simp)];exact ih (fun y hy=>h y (mem_cons_of_mem _ hy))
def jH(g:Gr)(j:Jt):Int:=if g.bo.contains j.a=true then(if g.bo.contains j.b=true then -1 else j.b)else j.a
def fJ(l:Li)(g:Gr):List Int:=g.jo.map (fun j=>jH g (l.jo.getD j.toNat default))
theorem qu(l:Li)(g:Gr):(fJ l g).length=g.jo.length:=by unfold fJ;rw[length_map]
theorem S5{l:Li}(hl:aB l=0){g:Gr}(hg:GrOk l g):∀b∈fJ l g,b<l.bo.length:=by
 intro b hb;unfold fJ at hb;obtain⟨z,hz,rfl⟩:=List.mem_map.1 hb;obtain⟨z0,z1⟩:=hg.j z hz;obtain⟨j,hj⟩:=au (l:=l.jo) (i:=z.toNat) oz;rw[aC hj];obtain⟨i1,i2,_⟩:=d7 hl hj;have i1:=dq i1;have i2:=dq i2;unfold jH;split
 ·split
  ·omega
  ·omega
 ·omega
def cK(l:Li)(g:Gr)(own:Bool):List Int:=fJ l g++(if own=true then g.bo else[])
theorem yi{l:Li}(hl:aB l=0){g:Gr}(hg:GrOk l g){own:Bool}:∀b∈cK l g own,b<l.bo.length:=by
 intro b hb;rcases List.mem_append.1 hb with hb |hb
 ·exact S5 hl hg b hb
 ·split at hb
  ·exact(hg.b b hb).2
  ·cases hb
theorem OT{l:Li}{g:Gr}(hg:GrOk l g){own:Bool}:(cK l g own).length<=5:=by
 unfold cK;have h1:=hg.lb;have h2:=hg.lj;rw[length_append,qu];split
 ·omega
 ·simp only[length_nil];omega
def gE(a:As)(b:Int):Nat:=if b<0 then 0 else bn a.rs (a.bs.getD b.toNat default).l
def jk(l:Li)(k:Int):Gr:=(aN l).getD k.toNat default
def ka(l:Li)(k:Int)(a:As)(own:Bool):Nat :=
  if cH l≠0 then cH l else if k<0\/((aN l).length:Int)<=k then 9 else if a.bs.length≠l.bo.length then 10 else if bb a.rs≠0 then bb a.rs
  else ez ((eG (cK l (jk l k) own)).map (gE a))
def fE(l:Li)(k:Int)(a:As)(own:Bool):Nat:=if aB l≠0 then aB l else ka l k a own
section
variable{l:Li}{k:Int}{a:As}{own:Bool}
theorem qz(h:aB l=0):fE l k a own=ka l k a own:=by unfold fE;rw[if_neg oz]
theorem Jj{e:Nat}(he:(if aB l=0 then cH l else aB l)=e)(h:e≠0):fE l k a own=e:=by
 by_cases h1:aB l=0
 ·rw[if_pos h1]at he;rw[qz h1];unfold ka;rw[if_pos oz];exact he
 ·rw[if_neg h1]at he;unfold fE;rw[if_pos h1];exact he
theorem Hl(h:(if aB l=0 then cH l else aB l)=0):aB l=0/\cH l=0:=by
 by_cases h1:aB l=0
 ·rw[if_pos h1]at h;exact⟨h1,h⟩
 ·rw[if_neg h1]at h;exact absurd h h1
theorem Kk(hs:cH l=0)(hk:k<0\/((aN l).length:Int)<=k):ka l k a own=9:=by unfold ka;rw[if_neg oz,if_pos hk]
theorem KT(hs:cH l=0)(hk:¬(k<0\/((aN l).length:Int)<=k))(hb:a.bs.length≠l.bo.length):ka l k a own=10:=by
 unfold ka;rw[if_neg oz,if_neg hk,if_pos hb]
theorem Q4(hs:cH l=0)(hk:¬(k<0\/((aN l).length:Int)<=k))(hb:a.bs.length=l.bo.length)(hc:bb a.rs≠0):ka l k a own=bb a.rs:=by
 unfold ka;rw[if_neg oz,if_neg hk,if_neg oz,if_pos hc]
theorem HB(hs:cH l=0)(hk:¬(k<0\/((aN l).length:Int)<=k))(hb:a.bs.length=l.bo.length)(hc:bb a.rs=0):ka l k a own=ez ((eG (cK l (jk l k) own)).map (gE a)):=by
 unfold ka;rw[if_neg oz,if_neg hk,if_neg oz,if_neg oz]
end
structure DyOk(E:Nat)(l:Li)(k:Int)(a:As)(own:Bool)(i:Nat)(g:Gr):Prop where
  li:aB l=0
  sp:cH l=0
  hk:k=(i:Int)
  hg:(aN l)[i]?=some g
  ok:GrOk l g
  dy:DyK l g
  ln:a.bs.length=l.bo.length
  chk:bb a.rs=0
  nd:∀b∈cK l g own,gE a b=0
  sm:∀b∈cK l g own,0<=b->∀p,a.bs[b.toNat]?=some p->∀x∈p.l,NR x E
def sf(E:Nat)(l:Li)(k:Int)(a:As)(own:Bool):Prop:=∀b∈cK l (jk l k) own,0<=b->∀p,a.bs[b.toNat]?=some p->∀x∈p.l,NR x E
theorem In{l:Li}{k:Int}{a:As}{own:Bool}{E:Nat}(hs:sf E l k a own)(h:fE l k a own=0):∃i g,DyOk E l k a own i g:=by
 unfold fE at h;split at h
 ·rename_i h1;exact absurd h h1
 ·rename_i h1;have h1:=Decidable.not_not.1 h1;unfold ka at h;split at h
  ·rename_i h2;exact absurd h h2
  ·rename_i h2;split at h
   ·cases h
   ·rename_i h3;split at h
    ·cases h
    ·rename_i h4;split at h
     ·rename_i h5;exact absurd h h5
     ·rename_i h5;obtain⟨g,hg⟩:=au (l:=aN l) (i:=k.toNat) oz;have e:jk l k=g:=aC hg;rw[e]at h;obtain⟨d1,d2⟩:=r5 h1 (mem_of_getElem? hg);refine⟨k.toNat,g,h1,by omega,by omega,hg,d2,d1,by omega,by omega,fun b hb=>?_,e▸hs⟩;exact ox h _ (List.mem_map.2 ⟨b,AQ.2 hb,rfl⟩)
theorem DyOk.body{E:Nat}{l:Li}{k:Int}{a:As}{own:Bool}{i:Nat}{g:Gr}(h:DyOk E l k a own i g){b:Int}(hb:b∈cK l g own)(h0:0<=b):∃p,a.bs[b.toNat]?=some p/\bn a.rs p.l=0/\∀x∈p.l,NR x E:=by
 have h1:=yi h.li h.ok b hb;obtain⟨p,hp⟩:=au (l:=a.bs) (i:=b.toNat) (by have:=h.ln;omega);have h2:=h.nd b hb;unfold gE at h2;rw[if_neg oz,aC hp]at h2;exact⟨p,hp,h2,h.sm b hb h0 p hp⟩
theorem MQ(n:Nat):50000000000<=lm n:=iu n
theorem II{k:Int}{n:Nat}(h:cond (aa .lss k 0) true (aa .geq k (n:Int))=true):k<0\/(n:Int)<=k:=by
 by_cases h1:k<0
 ·exact .inl h1
 ·refine .inr ?_;have h2:aa .lss k 0=false:=decide_eq_false h1;rw[h2]at h;exact of_decide_eq_true (p:=k>=n) h
theorem TW{k:Int}{n:Nat}(h:cond (aa .lss k 0) true (aa .geq k (n:Int))=false):¬(k<0\/(n:Int)<=k):=by
 intro h1
 by_cases h2:k<0
 ·rw[show aa .lss k 0=true from decide_eq_true h2]at h;cases h
 ·rw[show aa .lss k 0=false from decide_eq_false h2]at h;have h3:¬(k>=n):=of_decide_eq_false h;omega
theorem Pw{k:Int}{n:Nat}(h:¬(k<0\/(n:Int)<=k)):∃i:Nat,k=i/\i<n:=⟨k.toNat,by omega,by omega⟩
theorem C5{a b:Nat}(h:aa .neq (a:Int) (b:Int)=true):a≠b:=by
 have h1:((a:Int) != (b:Int))=true:=h;have h2:=bne_iff_ne.1 h1;omega
theorem Cj{a b:Nat}(h:aa .neq (a:Int) (b:Int)=false):a=b:=by
 have h1:((a:Int) != (b:Int))=false:=h;have h2:(a:Int)=b:=by simpa only[bne_eq_false_iff_eq]using h1
 omega
theorem lS{r:(k:Nat)->T k}{n:Nat}(p q:Rat):(qE (p+q):E r n)=qE p+qE q:=T.ofQ_add n p q
theorem yS{r:(k:Nat)->T k}{n:Nat}(p:Rat):(qE (-p):E r n)=-qE p:=T.ofQ_neg n p
theorem tm{r:(k:Nat)->T k}{n:Nat}(p q:Rat):(qE (p-q):E r n)=qE p-qE q:=by
 rw[Rat.sub_eq_add_neg,lS,yS];grind
theorem kD{r:(k:Nat)->T k}{n:Nat}(p q:Rat):(qE (p*q):E r n)=qE p*qE q:=(T.mul_ofQ r n p q).symm
def aY(l:Li)(body pt:Int):Rat×Rat:=(((cI l body).getD pt.toNat default).x.q,((cI l body).getD pt.toNat default).y.q)
abbrev qC(p:Rat×Rat):List AV:=[bl (rt p.1).neg,ws (rt p.1).num,ws (rt p.1).den,bl (rt p.2).neg,ws (rt p.2).num,ws (rt p.2).den]
abbrev qP(p:Rat×Rat):AV:=.agg (qC p)
structure Sm(e:Nat)(p:Rat×Rat):Prop where
  x:Qb e p.1
  y:Qb e p.2
structure MkP(l:Li)(body pt:Int)(n k:Nat)(bd:Bd)(m:Mk):Prop where
  hn:body=n
  hk:pt=k
  gbd:l.bo[n]?=some bd
  gm:bd.pts[k]?=some m
  ex:m.x=rt (aY l body pt).1
  ey:m.y=rt (aY l body pt).2
  sm:Sm 1000 (aY l body pt)
theorem qY{l:Li}(hl:l.ok)(hli:aB l=0){body pt:Int}(h1:bq body l.bo.length=true)(h2:bq pt (cI l body).length=true):∃n k bd m,MkP l body pt n k bd m:=by
 obtain⟨bd,g1,g2,g3,g4⟩:=qJ h1;rw[g2]at h2;obtain⟨m,g5,g6,g7,g8⟩:=tu h2;have hv:=Gs hli g1 g5;have ho:=(hl.bo bd g3).pts m g7;have e:aY l body pt=(m.x.q,m.y.q):=by unfold aY;rw[g2,g6]
 exact⟨body.toNat,pt.toNat,bd,m,by omega,by omega,g1,g5,by rw[e];exact Rt.eq_rt ho.x hv.1,by rw[e];exact Rt.eq_rt ho.y hv.2,by rw[e];exact⟨ho.qx.mono oz,ho.qy.mono oz⟩⟩
theorem kR{l:Li}(hl:l.ok)(hli:aB l=0){body pt:Int}(h1:bq body l.bo.length=true)(h2:bq pt (cI l body).length=true):Sm 1000 (aY l body pt):=by
 obtain⟨n,k,bd,m,h⟩:=qY hl hli h1 h2;exact h.sm
def bG(l:Li)(a:As)(body pt:Int):Et (llq a.rs)×Et (llq a.rs):=tM l a body pt
structure PlP(E:Nat)(l:Li)(a:As)(body pt:Int)(n k:Nat)(bd:Bd)(m:Mk)(b:Pl):Prop where
  mp:MkP l body pt n k bd m
  gb:a.bs[n]?=some b
  eq:tM l a body pt=nO (llq a.rs) b m
  av:b.av=Pq.av ⟨lq b.c,lq b.s,lq b.x,lq b.y⟩
  ok:Pq.ok (llq a.rs).length E ⟨lq b.c,lq b.s,lq b.x,lq b.y⟩
def Pd(E:Nat)(a:As)(body:Int):Prop:=∃p,a.bs[body.toNat]?=some p/\bn a.rs p.l=0/\∀x∈p.l,NR x E
theorem wc{E:Nat}{l:Li}(hl:l.ok)(hli:aB l=0){a:As}(al:AB a)(hc:bb a.rs=0){body pt:Int}(h1:bq body l.bo.length=true)(h2:bq pt (cI l body).length=true)(hb:Pd E a body):∃n k bd m b,PlP E l a body pt n k bd m b:=by
 obtain⟨n,k,bd,m,h⟩:=qY hl hli h1 h2;obtain⟨b,gb,hb,hbn⟩:=hb;obtain⟨tw,_⟩:=dh al.tr hc;have h5:a.rs.length<=5:=by have:=tw.five;rwa [HS]at this
 have h9:=Jd hb hbn h5;have e:body.toNat=n:=by have:=h.hn;omega
 have e2:pt.toNat=k:=by have:=h.hk;omega
 rw[e]at gb;obtain⟨bd',g1,g2,_,_⟩:=qJ h1;rw[e]at g1;have:bd'=bd:=Option.some.inj (g1.symm.trans h.gbd);subst this;refine⟨n,k,bd',m,b,h,gb,?_,h9.1,by rw[HS];exact h9.2⟩;unfold tM;rw[e,e2,aC gb,g2,aC h.gm]
structure DyS(a:As):Prop where
  tr:TR a.rs 64990
  one:bb a.rs=0->(llq a.rs).length<=1
theorem DyS.ct{a:As}(h:DyS a)(hc:bb a.rs=0):Ct (llq a.rs) 310000 65000:=by
 obtain⟨tw,_⟩:=dh h.tr hc;refine⟨⟨64990,tw,?_⟩,by omega,by omega,by omega,by omega⟩;have h1:=gV 64990 (h.one hc);have h2:eB 64990 1=64992:=by simp only[eB]
 omega
theorem nv{l:Li}(hl:l.ok)(hli:aB l=0){a:As}(al:AB a)(S:DyS a)(hc:bb a.rs=0){body pt:Int}(h1:bq body l.bo.length=true)(h2:bq pt (cI l body).length=true)(hb:Pd 3900000 a body) :
  Zu 310000 65000 (bG l a body pt).1 40 40/\Zu 310000 65000 (bG l a body pt).2 40 40:=by
 obtain⟨n,k,bd,m,b,hp⟩:=wc hl hli al hc h1 h2 hb;obtain⟨tw,_⟩:=dh S.tr hc
 have kb:kB 64990 (llq a.rs).length<=65000:=by
  have h1:=gV 64990 (S.one hc);have h2:eB 64990 1=64992:=by simp only[eB]
  show eB 64990 _<=_;omega
 have qx:Qb 1000 m.x.q:=by rw[hp.mp.ex,bP];exact hp.mp.sm.x
 have qy:Qb 1000 m.y.q:=by rw[hp.mp.ey,bP];exact hp.mp.sm.y
 have h:=yC tw hp.ok qx qy;unfold bG;rw[hp.eq];exact⟨⟨h.1.mono oz⟩,⟨h.2.mono oz⟩⟩
theorem qU{rs:List (List Rt)}{r:Nat}(h:TR rs r)(hc:bb rs=0):aL (llq rs)=.agg [.lst 1 (rs.map nR)]:=(dh h hc).2.symm
theorem Md{x y:Option Blk}{k:Nat}{z:Blk}(h:lk [(1000,x),(1001,y)] k=some z):1000<=k:=by
 rw[aJ]at h;split at h
 ·omega
 ·rw[aJ]at h;split at h
  ·omega
  ·cases h
theorem me{s:AS}{k k':Nat}{x y:Blk}(h:lk s.hp k=some x)(h':lk s.hp k'=some y):∀q z,lk [(k,some x),(k',some y)] q=some z->lk s.hp q=some z:=by
 intro q z hz;rw[aJ]at hz;split at hz
 ·rename_i e;cases hz;rw[e];exact h
 ·rw[aJ]at hz;split at hz
  ·rename_i e;cases hz;rw[e];exact h'
  ·cases hz
def b8(p q:Rat×Rat):Rat×Rat:=(p.1-q.1,p.2-q.2)
def bX(p q:Rat×Rat):Rat:=p.1*q.1+p.2*q.2
def zj(p q:Rat×Rat):Rat:=p.1*q.2-p.2*q.1
theorem Sm.sub{e f:Nat}{p q:Rat×Rat}(hp:Sm e p)(hq:Sm f q):Sm (e+f+1) (b8 p q):=⟨hp.x.sub hq.x,hp.y.sub hq.y⟩
theorem Sm.dot{e f:Nat}{p q:Rat×Rat}(hp:Sm e p)(hq:Sm f q):Qb (e+f+(e+f)+1) (bX p q):=(hp.x.mul hq.x).add (hp.y.mul hq.y)
theorem Sm.cross{e f:Nat}{p q:Rat×Rat}(hp:Sm e p)(hq:Sm f q):Qb (e+f+(e+f)+1) (zj p q):=(hp.x.mul hq.y).sub (hp.y.mul hq.x)
theorem Sm.mono{e f:Nat}{p:Rat×Rat}(hp:Sm e p)(h:e<=f):Sm f p:=⟨hp.x.mono h,hp.y.mono h⟩
theorem sQ{q:Rat}{e w:Nat}(h:Qb e q)(he:e<=w*310000):Qz 310000 q w:=⟨(Cb.one h).mono he⟩
def ai(l:Li)(j:Jt)(b:Int):Rat×Rat:=if j.a=b then aY l b j.point else aY l b j.on
def aO(l:Li)(a:As)(j:Jt)(b:Int):Et (llq a.rs)×Et (llq a.rs):=if j.a=b then bG l a j.b j.on else bG l a j.a j.point
structure PinP(E:Nat)(l:Li)(a:As)(j:Jt)(b:Int):Prop where
  tie:(j.a=b/\Pd E a j.b)\/(j.a≠b/\j.b=b/\Pd E a j.a)
theorem PinP.or{E:Nat}{l:Li}{a:As}{j:Jt}{b:Int}(h:PinP E l a j b):j.a=b\/j.b=b:=by
 rcases h.tie with h9 |h9
 ·exact .inl h9.1
 ·exact .inr h9.2.1
theorem mh{l:Li}(hl:l.ok)(hli:aB l=0){a:As}(al:AB a)(S:DyS a)(hc:bb a.rs=0){i:Nat}{j:Jt}(hj:l.jo[i]?=some j){b:Int}(h:PinP 3900000 l a j b) :
  Zu 310000 65000 (aO l a j b).1 40 40/\Zu 310000 65000 (aO l a j b).2 40 40:=by
 obtain⟨i1,i2,i3,i4,_⟩:=d7 hli hj;unfold aO;rcases h.tie with⟨e,hb⟩ |⟨e,e2,hb⟩
 ·rw[if_pos e];exact nv hl hli al S hc i2 i4 hb
 ·rw[if_neg e];exact nv hl hli al S hc i1 i3 hb
theorem iC{l:Li}(hl:l.ok)(hli:aB l=0){i:Nat}{j:Jt}(hj:l.jo[i]?=some j){b:Int}(h:j.a=b\/j.b=b):Sm 1000 (ai l j b):=by
 obtain⟨i1,i2,i3,i4,_⟩:=d7 hli hj;unfold ai
 by_cases e:j.a=b
 ·rw[if_pos e];subst e;exact kR hl hli i1 i3
 ·rw[if_neg e];rcases h with h |h
  ·exact absurd h e
  ·subst h;exact kR hl hli i2 i4
theorem Rv{bs:List Int}{b:Int}(h:b∈bs):bs.contains b=true:=List.contains_iff_mem.2 h
theorem Io{bs:List Int}{b:Int}(h:b∉bs):bs.contains b=false:=by
 cases hc:bs.contains b with
 |false=>rfl
 |true=>exact absurd (List.contains_iff_mem.1 hc) h
theorem DyOk.ancs{E:Nat}{l:Li}{k:Int}{a:As}{own:Bool}{n:Nat}{g:Gr}(h:DyOk E l k a own n g){z b:Int}{j:Jt}(hz:z∈g.jo)(hj:l.jo[z.toNat]?=some j)(hb:jH g j=b)(h0:0<=b):Pd E a b:=by
 refine h.body ?_ h0;unfold cK fJ;refine List.mem_append_left _ (List.mem_map.2 ⟨z,hz,?_⟩);rw[aC hj];exact hb
theorem DyOk.pin{E:Nat}{l:Li}{k:Int}{a:As}{own:Bool}{n:Nat}{g:Gr}(h:DyOk E l k a own n g){kd z b:Int}{j:Jt}{bs:List Int}(hbs:g.bo=bs)(t:TieO l kd bs z b j)(hz:z∈g.jo)(hb:b∈bs):PinP E l a j b:=by
 subst hbs;obtain⟨i1,i2,_⟩:=d7 h.li t.hj;have i1:=dq i1;have i2:=dq i2;rcases t.tie with⟨e,hn⟩ |⟨e,hn⟩
 ·refine⟨.inl ⟨e,h.ancs hz t.hj ?_ i2.1⟩⟩;unfold jH;rw[if_pos (Rv (e▸hb)),if_neg (by rw[Io hn];simp)]
 ·refine⟨.inr ⟨fun e2=>hn (e2▸hb),e,h.ancs hz t.hj ?_ i1.1⟩⟩;unfold jH;rw[if_neg (by rw[Io hn];simp)]
theorem DyOk.own{E:Nat}{l:Li}{k:Int}{a:As}{n:Nat}{g:Gr}(h:DyOk E l k a true n g){b:Int}(hb:b∈g.bo):Pd E a b:=by
 refine h.body ?_ (h.ok.b b hb).1;unfold cK;rw[if_pos rfl];exact List.mem_append_right _ hb
structure RrrP(E:Nat)(l:Li)(a:As)(g:Gr)(i k z0 z1 z2:Int)(j0 j1 j2:Jt):Prop where
  eq:g=⟨1,[i,k],[z0,z1,z2],0⟩
  h0:l.jo[z0.toNat]?=some j0
  h1:l.jo[z1.toNat]?=some j1
  h2:l.jo[z2.toNat]?=some j2
  p0:PinP E l a j0 i
  p1:PinP E l a j1 k
  t1:j2.a=i\/j2.b=i
  t2:j2.a=k\/j2.b=k
structure SlP(E:Nat)(l:Li)(a:As)(g:Gr)(kd i z0 z1:Int)(j0 j:Jt):Prop where
  eq:g=⟨kd,[i],[z0,z1],0⟩
  h0:l.jo[z0.toNat]?=some j0
  h1:l.jo[z1.toNat]?=some j
  p0:PinP E l a j0 i
  p1:PinP E l a j i
  hk:j.kind≠0
theorem DyOk.rrr{E:Nat}{l:Li}{k:Int}{a:As}{own:Bool}{n:Nat}{g:Gr}(h:DyOk E l k a own n g)(hk:g.kind=1):∃i k z0 z1 z2 j0 j1 j2,RrrP E l a g i k z0 z1 z2 j0 j1 j2:=by
 have hd:=h.dy;cases hd with
 |drv _ _ _ _=>exact absurd hk (by simp)
 |pr _ _ _=>exact absurd hk (by simp)
 |rp _ _ _=>exact absurd hk (by simp)
 | @rrr i k z0 z1 z2 j0 j1 j2 ne t0 t1 h0 h2 kd tie =>
  refine⟨i,k,z0,z1,z2,j0,j1,j2,rfl,t0.hj,t1.hj,h2,h.pin rfl t0 (by simp) (by simp),h.pin rfl t1 (by simp) (by simp),?_,?_⟩
  ·rcases tie with h9 |h9
   ·exact .inl h9.1
   ·exact .inr h9.1
  ·rcases tie with h9 |h9
   ·exact .inr h9.2
   ·exact .inl h9.2
theorem DyOk.pr{E:Nat}{l:Li}{k:Int}{a:As}{own:Bool}{n:Nat}{g:Gr}(h:DyOk E l k a own n g)(hk:g.kind=2):∃i z0 z1 j0 j,SlP E l a g 2 i z0 z1 j0 j/\j.a=i/\Pd E a j.b:=by
 have hd:=h.dy;cases hd with
 |drv _ _ _ _=>exact absurd hk (by simp)
 |rrr _ _ _ _ _ _ _=>exact absurd hk (by simp)
 |rp _ _ _=>exact absurd hk (by simp)
 | @pr i z0 z1 j0 j1 t0 t1 ha =>
  have p1:PinP E l a j1 i:=h.pin rfl t1 (by simp) (by simp);refine⟨i,z0,z1,j0,j1,⟨rfl,t0.hj,t1.hj,h.pin rfl t0 (by simp) (by simp),p1,by rw[t1.kd];decide⟩,ha,?_⟩;rcases p1.tie with h9 |h9
  ·exact h9.2
  ·exact absurd ha h9.1
theorem DyOk.rp{E:Nat}{l:Li}{k:Int}{a:As}{own:Bool}{n:Nat}{g:Gr}(h:DyOk E l k a own n g)(h0:g.kind≠0)(h1:g.kind≠1)(h2:g.kind≠2):∃i z0 z1 j0 j,SlP E l a g 3 i z0 z1 j0 j/\j.a≠i/\j.b=i/\Pd E a j.a:=by
 have hd:=h.dy;cases hd with
 |drv _ _ _ _=>exact absurd rfl h0
 |rrr _ _ _ _ _ _ _=>exact absurd rfl h1
 |pr _ _ _=>exact absurd rfl h2
 | @rp i z0 z1 j0 j1 t0 t1 ha =>
  have p1:PinP E l a j1 i:=h.pin rfl t1 (by simp) (by simp);refine⟨i,z0,z1,j0,j1,⟨rfl,t0.hj,t1.hj,h.pin rfl t0 (by simp) (by simp),p1,by rw[t1.kd];decide⟩,ha,?_⟩;rcases p1.tie with h9 |h9
  ·exact absurd h9.1 ha
  ·exact⟨h9.2.1,h9.2.2⟩
theorem Ef{ts:LL}{r e f:Nat}(tw:Tw ts r){b:Pl}{q:Rat×Rat}(hb:Pq.ok ts.length e ⟨lq b.c,lq b.s,lq b.x,lq b.y⟩)(hq:Sm f q) :
  Nm ts.length (3*e+2*f+2*kB r ts.length+10) (sh ts.length (uX ts (iY ts b.c) (iY ts b.s) (iY ts b.x) q.1 q.2))/\Nm ts.length (3*e+2*f+2*kB r ts.length+10) (sh ts.length (wV ts (iY ts b.c) (iY ts b.s) (iY ts b.y) q.1 q.2)):=by
 have nx:=Nm.ofQ tw.five (Cb.one hq.x);have ny:=Nm.ofQ tw.five (Cb.one hq.y);have h1:=(xc tw hb.c hb.s nx ny).add hb.x;rw[yX]at h1;have h2:=(uK tw hb.c hb.s nx ny).add hb.y;rw[Bx]at h2;exact⟨h1.mono oz,h2.mono oz⟩
def bT(c p:Rat×Rat):Rat:=bX (b8 c p) (b8 c p)
theorem Kx{e f:Nat}{c p:Rat×Rat}(hc:Sm e c)(hp:Sm f p):Qb (e+f+1+(e+f+1)+(e+f+1+(e+f+1))+1) (bT c p):=(hc.sub hp).dot (hc.sub hp)
def dF(l:Li)(g:Gr)(n:Nat):Jt:=l.jo.getD (g.jo.getD n 0).toNat default
def ff(g:Gr)(n:Nat):Int:=g.bo.getD n 0
section
variable(l:Li)(a:As)
def dt(i:Int)(j:Jt):Rat×Rat:=b8 (aY l i j.to) (aY l i j.on)
def cW(i:Int)(j0 j:Jt):Rat:=zj (dt l i j) (b8 (aY l i j.on) (ai l j0 i))
def j6(i:Int)(j:Jt):Rat:=bX (dt l i j) (dt l i j)
def bu{ts:LL}(p q:Et ts×Et ts):Et ts×Et ts:=(p.1-q.1,p.2-q.2)
def qR{ts:LL}(p q:Et ts×Et ts):Et ts:=dotE p.1 p.2 q.1 q.2
def xp{ts:LL}(p q:Et ts×Et ts):Et ts:=crsE p.1 p.2 q.1 q.2
def dz(i:Int)(j0 j:Jt):Et (llq a.rs)×Et (llq a.rs):=bu (bG l a j.a j.point) (aO l a j0 i)
def cQ(i:Int)(j0 j:Jt):Et (llq a.rs):=qR (dz l a i j0 j) (dz l a i j0 j)
end
section
variable{E:Nat}{l:Li}{a:As}{g:Gr}
theorem RrrP.at{i k z0 z1 z2:Int}{j0 j1 j2:Jt}(h:RrrP E l a g i k z0 z1 z2 j0 j1 j2):dF l g 0=j0/\dF l g 1=j1/\dF l g 2=j2/\ff g 0=i/\ff g 1=k/\g.kind=1:=by
 rw[h.eq];exact⟨aC h.h0,aC h.h1,aC h.h2,rfl,rfl,rfl⟩
theorem SlP.at{kd i z0 z1:Int}{j0 j:Jt}(h:SlP E l a g kd i z0 z1 j0 j):dF l g 0=j0/\dF l g 1=j/\ff g 0=i/\g.kind=kd:=by
 rw[h.eq];exact⟨aC h.h0,aC h.h1,rfl,rfl⟩
end
section
variable{ts:LL}
def aD(p q:Et ts×Et ts):Et ts:=qR (bu p q) (bu p q)
theorem EI(q:Rat):am (qE q:Et ts)=bD q:=T.sgn_ofQ _ _ q
theorem oa(x:Rat):0<=x*x:=by
 rcases(Rat.le_total:0<=x\/x<=0)with h |h
 ·exact Rat.mul_nonneg h h
 ·have h1 : 0 <= -x := by grind
  have h2:=Rat.mul_nonneg h1 h1;grind
theorem Ql(p q:Rat×Rat):0<=bT p q:=by
 unfold bT bX b8;have h1:=oa (p.1-q.1);have h2:=oa (p.2-q.2);dsimp only;grind
theorem AK(p q:Rat×Rat):0<=am (qE (bT p q):Et ts):=by
 rw[EI];have h:=Ql p q;unfold bD;split
 ·grind
 ·split <;> omega
def bB(p:Et ts×Et ts)(r:Et ts)(q:Et ts×Et ts)(s:Et ts):Et ts:=qE 4*(r*aD p q)-((r+aD p q)-s)*((r+aD p q)-s)
end
section
variable{E:Nat}{l:Li}{a:As}{g:Gr}
end
theorem DyOk.ne{E:Nat}{l:Li}{k:Int}{a:As}{own:Bool}{n:Nat}{i k2 z0 z1 z2:Int}(h:DyOk E l k a own n ⟨1,[i,k2],[z0,z1,z2],0⟩):i≠k2:=by
 have hd:=h.dy;generalize hg:(⟨1,[i,k2],[z0,z1,z2],0⟩:Gr)=g at hd;cases hd with
 |drv _ _ _ _=>simp at hg
 |pr _ _ _=>simp at hg
 |rp _ _ _=>simp at hg
 |rrr ne _ _ _ _ _ _=>simp at hg;obtain⟨⟨rfl,rfl⟩,_⟩:=hg;exact ne
structure Bulk{H:Type}(bk:DataW H->Nat)(bka:List (DataW H)->Nat):Prop where
  one:∀d,1<=bk d
  nil:bka []=0
  cons:∀d l,bka (d::l)=bk d+bka l
  slice:∀e s,bka e+1<=bk (.slice e s)
  agg:∀l,bka l<=bk (.agg l)
section
variable{P:Program}{W:World}{H:Type}{enc:TypeId×Value->H}{bk:DataW H->Nat}{bka:List (DataW H)->Nat}
theorem Bulk.pick(B:Bulk bk bka){α:Type}{m:α->Nat}:∀{l:List α}{xs:List (DataW H)},l.length<=xs.length->(∀(i:Nat)(a:α),l[i]?=some a->∃x,xs[i]?=some x/\m a<=bk x)->(l.map m).sum<=bka xs
 |[],xs,_,_=>by simp
 |a::l,[],hl,_=>by simp at hl
 |a::l,x::xs,hl,h=>by
  obtain⟨y,hy,h1⟩:=h 0 a rfl;cases hy;have h2:=B.pick (l:=l) (xs:=xs) (by simpa using hl) (fun i b hb=>h (i+1) b hb);rw[B.cons,map_cons,List.sum_cons];omega
def sS(P:Program)(W:World)(enc:TypeId×Value->H)(bk:DataW H->Nat)(t:TypeId){α:Type}(f:α->AV)(p:α->Prop)(m:α->Nat):Prop :=
  ∀(sp:Nat->Bool)(fuel:Nat)(cs:List Value)(x:DataW H×List MemPlace),DataW.trod enc P W 0 sp true fuel t cs=some x->(∀n∈x.1.weights P t,n<=reachBytes)->∃a,p a/\mP W cs (f a).cells/\m a<=bk x.1
theorem cD.m{t:TypeId}{α:Type}{f:α->AV}{p:α->Prop}(h:cD P W enc t f p):sS P W enc bk t f p (fun _=>0):=by
 intro sp fuel cs x hx hw;obtain⟨a,h1,h2⟩:=h sp fuel cs x hx hw;exact⟨a,h1,h2,zero_le _⟩
theorem cD.m1(B:Bulk bk bka){t:TypeId}{α:Type}{f:α->AV}{p:α->Prop}(h:cD P W enc t f p):sS P W enc bk t f p (fun _=>1):=by
 intro sp fuel cs x hx hw;obtain⟨a,h1,h2⟩:=h sp fuel cs x hx hw;exact⟨a,h1,h2,B.one _⟩
theorem sS.map{α β:Type}{t:TypeId}{f:α->AV}{p:α->Prop}{m:α->Nat}(h:sS P W enc bk t f p m)(g:α->β)(f':β->AV)(p':β->Prop)(m':β->Nat)(hg:∀a,p a->p' (g a)/\f' (g a)=f a/\m' (g a)<=m a):sS P W enc bk t f' p' m':=by
 intro sp fuel cs x hx hwt;obtain⟨a,ha,hc,hm⟩:=h sp fuel cs x hx hwt;obtain⟨h1,h2,h3⟩:=hg a ha;exact⟨g a,h1,by rw[h2];exact hc,le_trans h3 hm⟩
theorem O7{t e:TypeId}{n:Nat}{α:Type}{g:α->List AV}{q:α->Prop}{v:Value}{d:DataW H}{ps:List MemPlace}{sp:Nat->Bool}{b0:Nat}(ht:P.underlying t=some (.array n e))
  (ho:cD P W enc t (fun a=>.agg (g a)) q) (hval:Value.okWide P W .any b0 t v) (hd:DataW.Trod enc P W 0 sp true t v d ps) (hwt:∀n∈d.weights P t,n<=reachBytes):∃a,q a/\Rep (Gw W) (Sz W) db v (.agg (g a)):=by
 unfold Value.okWide at hval;rw[ht]at hval;obtain⟨cs,rfl,_,_⟩:=hval;obtain⟨fuel,hf⟩:=hd;obtain⟨a,ha,hc⟩:=ho _ _ _ _ hf hwt;exact⟨a,ha,.agg (by have:=hc.1;simpa[Value.cells,AV.cells]using this) (fun j c h=>hc.2.1 j c h) (fun j u c hu h=>hc.2.2 j u c (by simpa[Value.cells]using hu) h)⟩
end
end Go.Lw
