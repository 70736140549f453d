/- AssembleHolds: for any linkage and any turns the law returns true and leaves its arguments as they were. No other condition. Part 4 of 8: what the later parts need -/
import Derived.Test.YtlilpljpajeafaaGreatWc
import Derived.Test.YtlilpljpajeafaaGreatRows
set_option linter.unusedVariables false
open List (mem_of_getElem? mem_cons_of_mem mem_append map_cons mem_cons length_cons mem_cons_self length_append length_nil getD_eq_getElem?_getD getElem?_eq_none all_eq_true getElem?_take getElem?_map getElem?_eq_getElem drop_eq_nil_of_le nil_append getElem?_replicate append_nil map_append length_take take_of_length_le drop_zero take_length not_mem_nil length_map drop_drop mem_of_mem_take map_take all_append length_replicate map_replicate map_set length_set)
open Nat (le_refl lt_of_lt_of_le lt_or_ge le_trans mul_le_mul_right mul_le_mul_left zero_le pow_add lt_of_le_of_lt)
open Option (map_eq_some_iff)
open Bool (and_eq_true or_eq_true)
open Int (toNat_natCast natAbs_natCast)
open Go.Proofs.Tryz
namespace Go.Lw
open Go.Proofs
theorem uL{b:Bool}{n:Nat}:(cond b (aa .gtr ((ofNat n).length:Int) 0) false)=true↔(b=true/\0<n):=by
 have h:aa .gtr ((ofNat n).length:Int) 0=true↔0<n:=by
  simp only[aa,decide_eq_true_eq];constructor
  ·intro h;rcases Nat.eq_zero_or_pos n with h1 |h1;(subst h1;simp[Mx]at h);exact h1
  ·intro h;have:ofNat n ≠ []:=by intro h1; have:=b7 n; rw [h1] at this; simp [val] at this; omega
   have:=List.length_pos_iff.2 this;omega
 cases b with
 |false=>simp
 |true=>exact⟨fun h1=>⟨rfl,h.1 h1⟩,fun h1=>h.2 h1.2⟩
theorem AF(a:Wh)(ha:a.ok):FP 320 [a.av] (i64 a.z.sign):=by
 obtain⟨e1,e2,e3⟩:=En ha;refine af func320 ?_;refine gc (jI a ha) ?_;refine gl ?_;refine gC (fun t3=>?_) (fun t3=>?_)
 ·have h0 : a.m.length = 0 := by simpa [aa] using t3
  refine ae ?_;rw[e1 h0];rfl
 have h0:a.m.length≠0:=by simpa[aa]using t3
 refine gC (fun t8=>?_) (fun t8=>?_)
 ·refine ae ?_;rw[e2 h0 t8];rfl
 refine ae ?_;rw[e3 h0 t8];rfl
theorem U0(a b:Wh)(ha:a.ok)(hb:b.ok):FP 317 [a.av,b.av] (i64 (f0 a.z b.z)):=by
 refine af func317 ?_;refine gc (AF a ha) ?_;refine gc (AF b hb) ?_;refine gD ?_;refine gC (fun t14=>?_) (fun t14=>?_)
 ·have h0 : a.z.sign ≠ b.z.sign := by simpa [aa] using t14
  obtain⟨e1,e2⟩:=NT h0;refine gC (fun t17=>?_) (fun t17=>?_)
  ·have h1 : a.z.sign < b.z.sign := by simpa [aa] using t17
   refine ae ?_;rw[e1 h1];rfl
  have h1:¬a.z.sign<b.z.sign:=by simpa[aa]using t17
  refine ae ?_;rw[e2 h1];rfl
 have h0:a.z.sign=b.z.sign:=by simpa[aa]using t14
 have e1:=Pt h0;refine gc (jI a ha) ?_;refine gc (jI b hb) ?_;refine gc (Ao a.m b.m (Wh.ws ha) (Wh.ws hb) a.nz b.nz) ?_;refine gD ?_;refine gc (iQ a ha) ?_;refine gC (fun t24=>?_) (fun t24=>?_)
 ·rw[t24,if_pos rfl]at e1;refine gs (Ah (.tmp rfl) rfl) ?_;refine ae ?_;rw[e1];split
  ·rfl
  ·split <;> rfl
 rw[t24,if_neg Bool.false_ne_true]at e1;refine ae ?_
 first |(rw[e1];done) |(rw[e1];rfl)
theorem PA(a:Wh)(ha:a.ok)(la:a.mag.length<aq):FP 350 [a.av] (zA (-a.z)):=by
 refine af func350 ?_;refine gc (iQ a ha) ?_;refine gc (jI a ha) ?_;refine gc (j5 _ a.m (Wh.ws ha) (Nat.le_of_lt (Wh.small ha la))) ?_;refine gD ?_;refine ae ?_;rw[Wh.z_eq,<- Ie];rfl
theorem Si(a b:Wh)(ha:a.ok)(hb:b.ok)(la:a.mag.length+b.mag.length<=aq):FP 332 [a.av,b.av] (zA (a.z*b.z)):=by
 have h1:=Wh.m_le (w:=a);have h2:=Wh.m_le (w:=b);have h3:(ofNat (val a.m*val b.m)).length<=a.m.length+b.m.length:=eT (by rw[pow_add];exact Nat.mul_lt_mul'' (bV _ (Wh.ws ha)) (bV _ (Wh.ws hb)));refine af func332 ?_;refine gc (iQ a ha) ?_;refine gc (iQ b hb) ?_;refine gc (jI a ha) ?_;refine gc (jI b hb) ?_;refine gc (Ki a.m b.m (Wh.ws ha) (Wh.ws hb) oz) ?_;refine gc (j5 _ _ (dc _) oz) ?_;refine gD ?_;refine ae ?_;rw[b7,Dt];rfl
theorem Nn(a b:Wh)(ha:a.ok)(hb:b.ok)(la:a.mag.length<aq)(lb:b.mag.length<aq):FP 331 [a.av,b.av] (zA (a.z+b.z)):=by
 have h1:=Wh.m_le (w:=a);have h2:=Wh.m_le (w:=b);have hla:val a.m<4294967296^(max a.m.length b.m.length):=lt_of_lt_of_le (bV _ (Wh.ws ha)) (Nat.pow_le_pow_right oz oz);have hlb:val b.m<4294967296^(max a.m.length b.m.length):=lt_of_lt_of_le (bV _ (Wh.ws hb)) (Nat.pow_le_pow_right oz oz);have h3:(ofNat (val a.m+val b.m)).length<=max a.m.length b.m.length+1:=eT (by rw[Nat.pow_succ];omega);have h4:(ofNat (val a.m-val b.m)).length<=max a.m.length b.m.length:=eT oz;have h5:(ofNat (val b.m-val a.m)).length<=max a.m.length b.m.length:=eT oz;refine af func331 ?_;refine gc (jI a ha) ?_;refine gc (jI b hb) ?_;refine gD ?_;refine gc (iQ a ha) ?_;refine gc (iQ b hb) ?_;refine gD ?_;refine gC (fun t11=>?_) (fun t11=>?_)
 ·have h0 : a.n = b.n := by simpa using t11
  refine gc (iQ a ha) ?_;refine gc (Cz a.m b.m (Wh.ws ha) (Wh.ws hb) oz oz) ?_;refine gc (j5 _ _ (dc _) oz) ?_;refine ae ?_;rw[b7,GR h0];rfl
 have h0:a.n≠b.n:=by simpa using t11
 refine gc (Ao a.m b.m (Wh.ws ha) (Wh.ws hb) a.nz b.nz) ?_;refine gC (fun t23=>?_) (fun t23=>?_)
 ·have h6:val b.m<=val a.m:=by
   rcases lt_or_ge (val a.m) (val b.m)with h |h
   ·rw[if_pos h]at t23;cases t23
   ·exact h
  refine gc (iQ a ha) ?_;refine gc (yf a.m b.m (Wh.ws ha) (Wh.ws hb) oz (by rcases lt_or_ge a.m.length b.m.length with h |h;(have:=tT (Wh.ws ha) b.nz h;omega);exact h) h6) ?_;refine gc (j5 _ _ (dc _) oz) ?_;refine ae ?_;rw[b7,wW h0 h6];rfl
 have h6:val a.m<val b.m:=by
  rcases lt_or_ge (val a.m) (val b.m)with h |h
  ·exact h
  ·rw[if_neg oz]at t23;split at t23 <;> cases t23
 refine gc (iQ b hb) ?_;refine gc (yf b.m a.m (Wh.ws hb) (Wh.ws ha) oz (by rcases lt_or_ge b.m.length a.m.length with h |h;(have:=tT (Wh.ws hb) a.nz h;omega);exact h) oz) ?_;refine gc (j5 _ _ (dc _) oz) ?_;refine ae ?_;rw[b7,IE h0 oz];rfl
theorem CW(a b:Wh)(ha:a.ok)(hb:b.ok)(la:a.mag.length<aq)(lb:b.mag.length<aq):FP 318 [a.av,b.av] (zA (Int.gcd a.z b.z)):=by
 refine af func318 ?_;refine gc (jI a ha) ?_;refine gc (jI b hb) ?_;refine gD ?_;refine gz [4] [4] (fun(x y:List Nat)=>[(5,some (ws x)),(6,some (ws y))]) (fun _ _=>[]) (fun x y=>Ws x/\Ws y/\Nz x/\Nz y/\x.length<aq/\y.length<aq/\Nat.gcd (val x) (val y)=Int.gcd a.z b.z) (fun _ y=>val y) a.m b.m ⟨Wh.ws ha,Wh.ws hb,a.nz,b.nz,Wh.small ha la,Wh.small hb lb,by rw[Int.gcd,Wh.abs,Wh.abs]⟩ ?_;rintro x y ⟨wx,wy,nx,ny,lx,ly,hg⟩ K1 J1;refine gl ?_;refine gC (fun t15=>?_) (fun t15=>?_)
 ·have hy : y ≠ [] := by intro h; subst h; simp [aa] at t15
  have hy0:=nW ny hy;have hm:=Nat.mod_lt (val x) hy0;refine gc (E7 x y wx wy nx ny hy lx ly) ?_;exact fM J1 y (ofNat (val x%val y)) ⟨wy,dc _,ny,qw _,ly,lt_of_le_of_lt (eT (Nat.lt_trans hm (bV y wy))) ly,by rw[b7,<- hg,Nat.gcd_comm (val x) (val y),Nat.gcd_comm (val y) (val x%val y)];exact(Nat.gcd_rec _ _).symm⟩ (by show val (ofNat _)<val y;rw[b7];exact hm)
 have hy:y=[]:=by
  cases y with
  |nil=>rfl
  |cons c l=>simp[aa]at t15
 subst hy;have hg':val x=Int.gcd a.z b.z:=by rw[<- hg];simp[val]
 refine gc (j5 false x wx (Nat.le_of_lt lx)) ?_;refine ae ?_;rw[hg'];rfl
theorem Lo(a b:Wh)(ha:a.ok)(hb:b.ok)(la:a.mag.length+1<aq)(lb:b.mag.length<aq)(h0:b.z≠0):FP 351 [a.av,b.av] (.tup [zA (a.z/b.z),zA (a.z%b.z),.v .nilIface]):=by
 have hm1:=Wh.m_le (w:=a);have hm2:=Wh.m_le (w:=b);have hb1:val b.m≠0:=by have:=Wh.abs (w:=b);omega
 have hb2:b.m≠[]:=fun h=>hb1 (by rw[h];rfl)
 have hl1:(ofNat (val a.m/val b.m)).length<=a.m.length:=eT (lt_of_le_of_lt (Nat.div_le_self _ _) (bV _ (Wh.ws ha)));have hmod:=Nat.mod_lt (val a.m) (show 0<val b.m by omega);have hl2:(ofNat (val a.m%val b.m)).length<=b.m.length:=eT (Nat.lt_trans hmod (bV _ (Wh.ws hb)));have hl3:(ofNat (val a.m/val b.m+1)).length<=a.m.length+1:=eT (by have h7:=lt_of_le_of_lt (Nat.div_le_self (val a.m) (val b.m)) (bV _ (Wh.ws ha));rw[Nat.pow_succ];generalize val a.m/val b.m=m at *;omega);have hl4:(ofNat (val b.m-val a.m%val b.m)).length<=b.m.length:=eT (by have:=bV _ (Wh.ws hb);omega);have hv1:val [1]=1:=rfl;refine af func351 ?_;refine gc (jI b hb) ?_;refine gl ?_;refine gC (fun t14=>?_) (fun t14=>?_) (st1:=(3,0));exact absurd (List.length_eq_zero_iff.1 (by simpa[aa]using t14)) hb2;refine gc (jI a ha) ?_;refine gc (E7 a.m b.m (Wh.ws ha) (Wh.ws hb) a.nz b.nz hb2 oz oz) ?_;refine gc (iQ a ha) ?_;refine ci ?_;refine gC (fun t31=>?_) (fun t31=>?_)
 ·have h1:a.n = true /\ 0 < val a.m % val b.m:=uL.1 t31;obtain ⟨e1,e2⟩:=BB hb1 h1.1 h1.2;refine gc (Cz (ofNat (val a.m / val b.m)) [1] (dc _) (sY oz) oz (by unfold aq; simp)) ?_;refine gc (yf b.m (ofNat (val a.m % val b.m)) (Wh.ws hb) (dc _) oz hl2 (by rw [b7]; omega)) ?_ (7,0);refine gW (Wk.of (sl:=[(2,some (.ptr 2 0)),(3,some (.ptr 3 0)),(4,some (.ptr 4 0)),(5,some (.ptr 5 0)),(8,some (ws (ofNat (val a.m / val b.m + 1)))),(9,some (ws (ofNat (val b.m - val a.m % val b.m))))]) (hp:=[(2,some (.box [bl a.neg,ws a.mag])),(3,some (.box [bl b.neg,ws b.mag])),(4,some (.box [.v (.bool false),nS])),(5,some (.box [.v (.bool false),nS]))]) (.k (.k (.k (.k (.cons rfl (Sub.of (by rw [b7,hv1])) (.cons rfl (Sub.of (by rw [b7])) .nil)))))) (.k (.k (.k (.k .nil))))) ?_
  refine gc (iQ a ha) ?_;refine gc (iQ b hb) ?_;refine gc (by apply j5 _ _ (dc _) oz) ?_;refine gc (by apply j5 _ _ (dc _) oz) ?_;refine gD ?_;refine gR ?_;exact tv (by rw[b7,b7,e1,show sgn false _=_ from e2];rfl)
 have h1:¬(a.n=true/\0<val a.m%val b.m):=fun h=>Bool.eq_false_iff.1 t31 (uL.2 h)
 obtain⟨e1,e2⟩:=FJ hb1 h1;refine gc (iQ a ha) ?_;refine gc (iQ b hb) ?_;refine gc (by apply j5 _ _ (dc _) oz) ?_;refine gc (by apply j5 _ _ (dc _) oz) ?_;refine gD ?_;refine gR ?_;exact tv (by rw[b7,b7,e1,show sgn false _=_ from e2];rfl)
theorem vO{N:Nat}(h:N<18446744073709551616):val [N%4294967296,N/2^32]=N:=by
 simp only[val];omega
theorem uN{N:Nat}(h:N<18446744073709551616):Ws [N%4294967296,N/2^32]:=by
 intro x hx;simp only[mem_cons,not_mem_nil,or_false]at hx;rcases hx with rfl |rfl <;> omega
theorem Fq(n:Int)(h:-9223372036854775808<=n/\n<=9223372036854775807):FP 247 [i64 n] (zA n):=by
 obtain⟨N,hN⟩:∃N,N=n.natAbs:=⟨_,rfl⟩
 have hNB:N<18446744073709551616:=by omega
 refine af func247 ?_;refine gv (show IntKind.u64.wrap n=((n%18446744073709551616:Int)) by simp only[IntKind.wrap,IntKind.signed,IntKind.bits,Bool.false_and,if_false,Bool.false_eq_true];omega) ?_;refine gC (fun t7=>?_) (fun t7=>?_) (st2:=(77777,0))
 ·have hn : n < 0 := by simpa [aa] using t7
  refine gs (Ah (.tmp rfl) rfl) ?_ (4,0);refine gW (Wk.of (sl:=[(0,some (i64 n)),(2,some (.ptr 2 0)),(3,some (u64 N))]) (hp:=[(2,some (.box [.v (.bool false),nS]))]) (.k (.k (.cons rfl (Sub.int (by simp only[IntKind.wrap,IntKind.signed,IntKind.bits,Bool.false_and,if_false,Bool.false_eq_true];omega)) .nil))) (.k .nil)) ?_;refine gv (dC _) ?_;refine gs (eI (.tmp rfl) (.const _) oz (gh _ 32 oz) rfl) ?_;refine gv ((dC _).trans (by rw[Nat.mod_eq_of_lt (show N/2^32<4294967296 by omega)])) ?_;refine gc (j5 (aa .lss n 0) [N%4294967296,N/2^32] (uN hNB) (by unfold aq;simp)) ?_;refine ae ?_;rw[vO hNB,show sgn (aa .lss n 0) N=n by simp only[sgn,aa,decide_eq_true_eq];split <;> omega];rfl
 have hn:¬n<0:=by simpa[aa]using t7
 refine gW (Wk.of (sl:=[(0,some (i64 n)),(2,some (.ptr 2 0)),(3,some (u64 N))]) (hp:=[(2,some (.box [.v (.bool false),nS]))]) (.k (.k (.cons rfl (Sub.int oz) .nil))) (.k .nil)) ?_;refine gv (dC _) ?_;refine gs (eI (.tmp rfl) (.const _) oz (gh _ 32 oz) rfl) ?_;refine gv ((dC _).trans (by rw[Nat.mod_eq_of_lt (show N/2^32<4294967296 by omega)])) ?_;refine gc (j5 (aa .lss n 0) [N%4294967296,N/2^32] (uN hNB) (by unfold aq;simp)) ?_;refine ae ?_;rw[vO hNB,show sgn (aa .lss n 0) N=n by simp only[sgn,aa,decide_eq_true_eq];split <;> omega];rfl
theorem z9:∀(j k v:Nat),j<=k->(ba k v).take j=ba j v
 |0,_,_,_=>by simp[ba]
 |j+1,0,_,h=>by omega
 |j+1,k+1,v,h=>by
  rw[ba,ba,List.take_succ_cons,z9 j k _ oz]
theorem Hn{m:List Nat}(h:Ws m):(ofNat (val m)).length<=m.length:=eT (bV m h)
theorem BZ{m:List Nat}(h:Ws m):m.take (ofNat (val m)).length=ofNat (val m):=by
 have h1:=tN m h;have h2:=tN (ofNat (val m)) (dc _);rw[b7]at h2;have h3:=z9 _ _ (val m) (Hn h);rw[<- h1,<- h2]at h3;exact h3
theorem Bh{m:List Nat}{n:Nat}(h:Ws m)(hn:n<=m.length)(hv:val (m.take n)=val m)(h0:n=0\/ah m (n-1)≠0):n=(ofNat (val m)).length:=by
 have h1:m.take n=ofNat (val m):=by
  refine Gi (fU h n) ?_ hv;intro x hx;rcases h0 with h0 |h0
  ·subst h0;simp at hx
  ·have hn0 : n ≠ 0 := by intro h3; subst h3; simp at hx
   rw[List.getLast?_eq_getElem?,length_take,Nat.min_eq_left hn,getElem?_take,if_pos oz,jD oz]at hx;cases hx;exact h0
 rw[<- h1,length_take,Nat.min_eq_left hn]
theorem x4(l:List Nat)(i:Nat):val l=val (l.take i)+4294967296^i*val (l.drop i):=by
 rcases lt_or_ge i l.length with h |h
 ·exact An oz
 ·rw[eJ h,drop_eq_nil_of_le h];simp[val]
theorem tQ(l:List Nat)(i:Nat):val (l.drop i)=ah l i+4294967296*val (l.drop (i+1)):=by
 rcases lt_or_ge i l.length with h |h
 ·exact pU h
 ·rw[qI h,drop_eq_nil_of_le h,drop_eq_nil_of_le oz];rfl
theorem Gs{a b:List Nat}{i:Nat}(ha:Ws a)(he:val (a.drop (i+1))=val (b.drop (i+1)))(hx:ah a i<ah b i):val a<val b:=by
 rw[x4 a (i+1),x4 b (i+1),he];have:=G6 ha hx;omega
theorem Qr{xs ys:List AV}(hl:xs.length=ys.length)(h1:∀(j:Nat)(y:AV),ys[j]?=some y->y.one=true)(h:∀(j:Nat)(x y:AV),xs[j]?=some x->ys[j]?=some y->Sub x y):Sub (.agg xs) (.agg ys):=by
 intro g S m v hr;cases hr with
 |agg hn h2 hr =>
  refine .agg (hn.trans hl) h1 ?_;intro j u c hu hc
  have hj:j<xs.length:=by
   rw[hl];rcases lt_or_ge j ys.length with h |h
   ·exact h
   ·rw[getElem?_eq_none h]at hc;cases hc
  exact h j _ c (getElem?_eq_getElem hj) hc _ _ _ _ (hr j u _ hu (getElem?_eq_getElem hj))
theorem Kq:Sub (.agg [.v (.bool false),.v (.slice none 0 0)]) (zA 0):=by
 show Sub (.agg [.v (.bool false),.v (.slice none 0 0)]) (.agg [bl false,ws []]);refine Qr rfl ?_ ?_
 ·intro j y hy
  match j,hy with
  |0,hy=>cases hy;rfl
  |1,hy=>cases hy;rfl
 ·intro j x y hx hy
  match j,hx,hy with
  |0,hx,hy=>cases hx;cases hy;exact Sub.refl _
  |1,hx,hy=>cases hx;cases hy;exact Sub.nil _ _ _
theorem ED{out:List Nat}{i x:Nat}(h:out.length=i):val (out++[x])=val out+4294967296^i*x:=by
 rw[qQ,h];simp[val]
theorem If{o c P x y u w:Nat}(hu:u<4294967296)(hw:w<4294967296)(hc:c<=1)(h:o+y=x+c*P) :
  (o+P*((4294967296+u-w-c)%4294967296))+(y+P*w)=(x+P*u)+(1-(4294967296+u-w-c)/2^32)*(P*4294967296):=by
 have h0:(4294967296+u-w-c)%4294967296+w+c=u+(1-(4294967296+u-w-c)/2^32)*4294967296:=by omega
 generalize(1-(4294967296+u-w-c)/2^32)=q at *;generalize(4294967296+u-w-c)%4294967296=r at *;grind
theorem C5{a b out:List Nat}{c:Nat}(ha:Ws a)(hw:Ws out)(ho:out.length=a.length)(hle:val b<=val a)
  (h:val out+val (b.take a.length)=val (a.take a.length)+c*4294967296^a.length):val out=val a-val b:=by
 have hb:=x4 b a.length;have h2:=bV a ha
 have h3:val (b.drop a.length)=0:=by
  rcases Nat.eq_zero_or_pos (val (b.drop a.length))with h4 |h4
  ·exact h4
  ·have:=mul_le_mul_left (4294967296^a.length) h4;omega
 rw[h3,Nat.mul_zero,Nat.add_zero]at hb;rw[<- hb,take_length]at h;have h1:=bV out hw;rw[ho]at h1;cases c with
 |zero=>omega
 |succ c=>rw[Nat.succ_mul]at h;omega
theorem FT{z:Int}{k:Nat}(h:Lz k z)(hk:k<=aS):(ofInt z).ok:=⟨dc _,le_trans h.len hk⟩
theorem DA{z:Int}{k:Nat}(h:Lz k z):(ofInt z).mag.length<=k:=h.len
theorem RU(x y:Int):(x-y).sign=f0 x y:=by
 unfold f0;have h:=xQ (x-y)
 (repeat' split) <;> omega
theorem lG(m:List Nat)(i:Nat)(hm:Ws m):FP 365 [ws m,i64 i] (u64 (ah m i)):=by
 refine af func365 ?_;refine gl ?_;refine gC (fun t8=>?_) (fun t8=>?_)
 ·simp[aa]at t8;have:=bP hm i;refine gi (bZ (i:=i) t8) ?_;refine gv (u64_in oz) ?_;refine ae ?_;rfl
 simp[aa]at t8;refine ae ?_;simp[u64,qI t8]
theorem F1(w:Wh)(h:w.ok):FP 364 [w.av] (bl w.valid):=by
 have hl:w.mag.length<=aS:=h.2;refine af func364 ?_;refine gl ?_;refine gC (fun t6=>?_) (fun t6=>?_)
 ·have h0 : w.mag = [] := by simpa [aa] using t6
  refine ae ?_;simp[bl,Wh.valid,h0]
 have h0:w.mag.length≠0:=by simpa[aa]using t6
 refine gl ?_;refine ga (iZ oz oz) ?_;refine gi (bZ (i:=w.mag.length-1) oz) ?_;refine ae ?_;have h1:w.mag≠[]:=fun h=>h0 (by rw[h];rfl)
 simp only[bl,Wh.valid,if_neg h1,List.getLast?_eq_getElem?,jD (show w.mag.length-1<w.mag.length by omega),aa];congr 2;generalize ah w.mag _=x;rw[Bool.eq_iff_iff];simp
theorem ku(w:Wh)(h:w.ok):FP 292 [w.av] (ws w.m):=by
 refine af func292 ?_;refine gc (F1 w h) ?_;refine gC (fun t5=>?_) (fun t5=>?_)
 ·have h0 : w.valid = false := by simpa [aa] using t5
  refine gR ?_;exact iV (by rw[show w.m=[] by simp[Wh.m,h0]];exact Sub.nil _ _ _)
 have h0:w.valid=true:=by simpa[aa]using t5
 refine ae ?_;simp only[Wh.m,h0];rfl
theorem iJ(w:Wh)(h:w.ok):FP 293 [w.av] (bl w.n):=by
 refine af func293 ?_;refine gc (F1 w h) ?_;refine ae ?_;simp only[Wh.n,bl];cases w.valid <;> rfl
theorem A0(d:Nat)(hd:Nat.blt d 1000=true)(m:List Nat)(hm:Ws m)(hb:m.length<=aq) :
  Con prog 362 [ws m] [] (.ms d 1 0 (ofNat (val m)).length) [(d,some (.row 1 (m.map u32)))]:=by
 have hb':=hb;unfold aq at hb;refine gF func362 (fun k z h=>by cases h) ?_;refine gs (ju T43 rfl T349 rfl rfl rfl) ?_;refine gs (cq (.tmp rfl) rfl rfl (.tmp rfl) T43 rfl T349 rfl rfl (by simp only[length_map];omega) rfl rfl) ?_;refine aM [] [6] (fun(n:Nat)=>[(3,some (.ms 6 1 0 n))]) (fun _=>[]) (fun n=>n<=m.length/\val (m.take n)=val m) (fun n=>n) m.length ⟨le_refl _,by rw[take_length]⟩ ?_ (h1:=(.cons rfl (Sub.of (by rw[length_map,Nat.zero_add])) .nil));rintro n ⟨hn,hv⟩ K1 J1;refine om (fun h=>(iZ (by simp[aa]at h;omega) (by unfold aS;omega))) ?_;refine gs (er rfl rfl rfl (fun h=>bR (n:=n-1) (.opt rfl (o1 h)) (.opt rfl (o1 h)) T43 rfl T349 rfl oz (by simp[aa]at h;omega) rfl)) ?_;refine gs (er rfl rfl rfl (fun h=>d6 (.opt rfl (o1 h)) rfl (bZ (i:=n-1) (by simp[aa]at h;omega)) T349 rfl rfl rfl)) ?_;refine gC (fun t18=>?_) (fun t18=>?_)
 ·have t18 : 0 < n /\ ah m (n - 1) = 0 := by simpa [aa] using t18
  refine ga (iZ oz (by unfold aS;omega)) ?_;refine gs (vR (.tmp rfl) (.none _) (.some _ (.tmp rfl) oz) T43 rfl T349 rfl oz oz rfl) ?_;exact aG J1 (n-1) ⟨by omega,by have h:=@db m (n-1);rw[show n-1+1=n by omega,t18.2]at h;simp at h;omega⟩ (hw:=Wk.of (.cons rfl (Sub.of (by congr 1)) .nil) (.k .nil))
 have t18:0<n->ah m (n-1)≠0:=by simpa[aa]using t18
 have hn1:=Bh hm hn hv (by rcases Nat.eq_zero_or_pos n with h |h;(exact .inl h);exact .inr (t18 h));subst hn1;refine gR ?_;exact ao.own1 rfl hd rfl
theorem qr(m:List Nat)(hm:Ws m)(hb:m.length<=aq):FP 362 [ws m] (ws (ofNat (val m))):=by
 have h:=Con.freeze (by rw[length_map,Nat.zero_add];exact Hn hm) (A0 0 rfl m hm hb)
 rwa [drop_zero,<- map_take,BZ hm]at h
theorem jV(b:Bool)(m:List Nat)(hm:Ws m)(hb:m.length<=aq):FP 282 [bl b,ws m] (zA (sgn b (val m))):=by
 refine af func282 ?_;refine gc (qr m hm hb) ?_;refine gl ?_;refine gC (fun t9=>?_) (fun t9=>?_)
 ·have h0:val m=0:=by
   have:=b7 (val m);have h9:ofNat (val m)=[]:=List.length_eq_zero_iff.1 (by simpa[aa]using t9);rw[h9]at this;exact this.symm
  refine gR ?_;exact iV (by rw[h0,show sgn b 0=0 by cases b <;> rfl];exact Kq)
 have h0:val m≠0:=by
  intro h;rw[h]at t9;cases t9
 refine ae ?_
 rw[show zA (sgn b (val m))=.agg [bl b,ws (ofNat (val m))] by
  unfold zA ofInt Wh.av;rw[show(sgn b (val m)).natAbs=val m by unfold sgn;split <;> omega,show decide (sgn b (val m)<0)=b by cases b <;> simp[sgn] <;> omega]]
theorem AG(a b:List Nat)(ha:Ws a)(hb:Ws b):FP 295 [ws a,ws b] (i64 (if val a<val b then -1 else if val b<val a then 1 else 0)):=by
 refine af func295 ?_ (0,0);refine so (t:=0) rfl (fun hla=>?_);refine so (t:=1) rfl (fun hlb=>?_);unfold aS at hla hlb;refine go ?_;refine gl ?_;refine gl ?_;refine gs (qD (.tmp rfl) (.tmp rfl) rfl) ?_;refine ga (dB oz) ?_;refine aM [0,1] [] (fun(n:Nat)=>[(5,some (i64 ((n:Int)-1)))]) (fun _=>[]) (fun n=>n<=281474976710656/\val (a.drop n)=val (b.drop n)) (fun n=>n) (max a.length b.length) ⟨by omega,by rw[drop_eq_nil_of_le oz,drop_eq_nil_of_le oz]⟩ ?_ (h1:=(.cons rfl (Sub.int oz) .nil));rintro n ⟨hn,hd⟩ K1 J1;refine gC (fun t13=>?_) (fun t13=>?_)
 ·have hn0 : 1 <= n := by have := t13; simp [aa] at this; omega
  obtain⟨k,rfl⟩:∃k,n=k+1:=⟨n-1,by omega⟩
  have hk:((k+1:Nat):Int)-1=(k:Int):=by omega
  rw[hk];refine gc (lG a k ha) ?_;refine gc (lG b k hb) ?_;refine gC (fun t22=>?_) (fun t22=>?_)
  ·have h3 : ah a k ≠ ah b k := by simpa [aa, Int.ofNat_inj] using t22
   refine gc (lG a k ha) ?_;refine gc (lG b k hb) ?_;refine gC (fun t29=>?_) (fun t29=>?_)
   ·have h4 : ah a k < ah b k := by simpa [aa] using t29
    have h5:=Gs ha hd h4;refine ae ?_;simp[i64,h5]
   have h4:ah b k<ah a k:=by have:ah b k<=ah a k:=(by simpa[aa]using t29);omega
   have h5:=Gs hb hd.symm h4;refine ae ?_;simp[i64,h5,Nat.lt_asymm h5]
  have h3:ah a k=ah b k:=by simpa[aa,Int.ofNat_inj]using t22
  refine ga (dB oz) ?_;exact aG J1 k ⟨by omega,by rw[tQ a,tQ b,hd,h3]⟩
 have hn0:n=0:=by have:=t13;simp[aa]at this;omega
 subst hn0;refine ae ?_;simp at hd;simp[i64,hd]
theorem Af(a b:List Nat)(ha:Ws a)(hb:Ws b)(la:a.length<aq)(lb:b.length<aq):FP 294 [ws a,ws b] (ws (ofNat (val a+val b))):=by
 unfold aq at la lb;obtain⟨n,hn⟩:∃n,n=max a.length b.length+1:=⟨_,rfl⟩
 refine af func294 ?_;refine gl ?_;refine gl ?_;refine gs (qD (.tmp rfl) (.tmp rfl) rfl) ?_;refine ga (show _=(n:Int) by rw[cU oz];omega) ?_;refine gW (Wk.virt 900 1 rfl) ?_;refine iP [0,1,14] [] (fun(out:List Nat)(c i:Nat)=>[(5,some (.ms 900 1 0 i)),(6,some (u64 c)),(15,some (i64 i))]) (fun out _ _=>[(900,some (.row 1 (out.map u32)))]) (fun out c i=>out.length=i/\i<=n/\Ws out/\c<=1/\val out+c*4294967296^i=val (a.take i)+val (b.take i)) (fun _ _ i=>n-i) ([]) 0 0 ⟨rfl,by omega,tF,by omega,by simp[val]⟩ ?_;rintro out c i ⟨ho,hi,hw,hc,hv⟩ K1 J1;refine gC (fun t16=>?_) (fun t16=>?_) (st2:=(9,0))
 ·have hin : i < n := by simpa [aa] using t16
  have h1:=bP ha i;have h2:=bP hb i;obtain⟨s,hs⟩:∃s,s=c+(ah a i+ah b i):=⟨_,rfl⟩
  have h3:=zQ (u:=ah a i) (w:=ah b i) hv;rw[<- hs]at h3;refine gc (by apply lG <;> assumption) ?_;refine gc (by apply lG <;> assumption) ?_;refine ga (iG oz) ?_;refine ga ((iG oz).trans (show _=(s:Int) by congr 1;omega)) ?_;refine gv (dC _) ?_;refine gs (cq (.tmp rfl) rfl (by rw[length_map,ho]) (.tmp rfl) T43 rfl T349 rfl rfl (by simp;omega) rfl rfl) ?_;refine gs (eI (.tmp rfl) (.const _) oz (gh _ 32 oz) rfl) ?_ (8,0);refine gW (Wk.of (sl:=[(0,some (ws a)),(1,some (ws b)),(5,some (.ms 31 1 0 (i+1))),(6,some (u64 (s/2^32))),(14,some (i64 n)),(15,some (i64 i))]) (hp:=[(31,some (.row 1 ((out++[s%4294967296]).map u32)))]) aY (.cons rfl (BlkSub.of (by rw[map_append];rfl)) .nil)) ?_ (8,0);refine gW (Wk.rk (k:=31) (d:=900) rfl rfl) ?_;refine ga (cU oz) ?_;exact gE J1 (out++[s%4294967296]) (s/2^32) (i+1) ⟨by simp[ho],by omega,uA hw (sY oz),by omega,by rw[ED ho,db,db,Nat.pow_succ];exact h3⟩
 have hin:i=n:=by have:n<=i:=(by simpa[aa]using t16);omega
 refine gW ((Wk.freeze (k:=900) rfl).trans<|Wk.of (sl:=[(5,some (ws out))]) (hp:=[]) (.cons rfl (Sub.of (bO (by simp[ho]))) .nil) .nil) ?_;refine gc (qr out hw (by unfold aq;omega)) ?_;refine ae ?_;subst hin;rw[FA ha hb hn ho (by rw[eJ (l:=out) oz];exact hv)]
theorem yr(a b:List Nat)(ha:Ws a)(hb:Ws b)(la:a.length<aq)(hle:val b<=val a):FP 296 [ws a,ws b] (ws (ofNat (val a-val b))):=by
 unfold aq at la;obtain⟨n,hn⟩:∃n,n=a.length:=⟨_,rfl⟩
 refine af func296 ?_;refine gl ?_;refine gW (Wk.virt 900 1 rfl) ?_;refine iP [0,1] [] (fun(out:List Nat)(c i:Nat)=>[(5,some (.ms 900 1 0 i)),(6,some (u64 c)),(10,some (i64 n)),(11,some (i64 i))]) (fun out _ _=>[(900,some (.row 1 (out.map u32)))]) (fun out c i=>out.length=i/\i<=n/\Ws out/\c<=1/\val out+val (b.take i)=val (a.take i)+c*4294967296^i) (fun _ _ i=>n-i) ([]) 0 0 ⟨rfl,by omega,tF,by omega,by simp[val]⟩ ?_ (h1:=(.k (.k (.cons rfl (Sub.int (by rw[hn])) (.k .nil)))))
 rintro out c i ⟨ho,hi,hw,hc,hv⟩ K1 J1;refine gC (fun t12=>?_) (fun t12=>?_) (st2:=(9,0))
 ·have hin : i < n := by simpa [aa] using t12
  have h1:=bP ha i;have h2:=bP hb i;obtain⟨s,hs⟩:∃s,s=4294967296+ah a i-ah b i-c:=⟨_,rfl⟩
  have h3:=If h1 h2 hc hv;rw[<- hs]at h3;refine gc (by apply lG <;> assumption) ?_;refine ga ((iG (x:=4294967296) oz)) ?_;refine gc (by apply lG <;> assumption) ?_;refine ga ((kz oz oz).trans (by rw[if_pos oz])) ?_;refine ga ((kz oz oz).trans (show _=(s:Int) by rw[if_pos oz];congr 1;omega)) ?_;refine gv (dC _) ?_;refine gs (cq (.tmp rfl) rfl (by rw[length_map,ho]) (.tmp rfl) T43 rfl T349 rfl rfl (by simp;omega) rfl rfl) ?_;refine gs (eI (.tmp rfl) (.const _) oz (gh _ 32 oz) rfl) ?_;refine ga ((kz (x:=1) oz oz).trans (by rw[if_pos oz])) ?_ (8,0);refine gW (Wk.of (sl:=[(0,some (ws a)),(1,some (ws b)),(5,some (.ms 28 1 0 (i+1))),(6,some (u64 (1-s/2^32:Nat))),(10,some (i64 n)),(11,some (i64 i))]) (hp:=[(28,some (.row 1 ((out++[s%4294967296]).map u32)))]) aY (.cons rfl (BlkSub.of (by rw[map_append];rfl)) .nil)) ?_ (8,0);refine gW (Wk.rk (k:=28) (d:=900) rfl rfl) ?_;refine ga (cU oz) ?_;exact gE J1 (out++[s%4294967296]) (1-s/2^32) (i+1) ⟨by simp[ho],by omega,uA hw (sY oz),by omega,by rw[ED ho,db,db,Nat.pow_succ];exact h3⟩
 have hin:i=n:=by have:n<=i:=(by simpa[aa]using t12);omega
 refine gW ((Wk.freeze (k:=900) rfl).trans<|Wk.of (sl:=[(5,some (ws out))]) (hp:=[]) (.cons rfl (Sub.of (bO (by simp[ho]))) .nil) .nil) ?_;refine gc (qr out hw (by unfold aq;omega)) ?_;refine ae ?_;subst hin;subst hn;rw[C5 ha hw ho hle hv]
theorem Lk(a b:List Nat)(ha:Ws a)(hb:Ws b)(la:a.length+b.length<=aq):FP 297 [ws a,ws b] (ws (ofNat (val a*val b))):=by
 have la':=la;unfold aq at la;refine af func297 ?_;refine gl ?_;refine gl ?_;refine ga (jx (by unfold aS;omega) (by unfold aS;omega)) ?_;refine gs (gV (.tmp rfl) T43 rfl T349 rfl rfl oz (by dsimp only;omega) rfl) ?_;refine gl ?_;refine gz [0,1,17] [] (fun(out:List Nat)(i:Nat)=>[(5,some (.ms 15 1 0 (a.length+b.length))),(18,some (i64 i))]) (fun out _=>[(15,some (.row 1 (out.map u32)))]) (fun out i=>out.length=a.length+b.length/\i<=a.length/\Ws out/\val (out.take (i+b.length))=val (a.take i)*val b) (fun _ i=>a.length-i) (List.replicate (a.length+b.length) 0) 0 ⟨by simp,by omega,kN _,by simp[val,uv]⟩ ?_ (h2:=(.cons rfl (BlkSub.of (by rw[map_replicate];rfl)) .nil))
 rintro out i ⟨ho,hi,hw,hv⟩ K1 J1;refine gC (fun t19=>?_) (fun t19=>?_) (st2:=(14,0))
 ·have hin : i < a.length := by simpa [aa] using t19
  have h1:=bP ha i;refine gl ?_;refine iP [0,1,17,18,6,22] [] (fun(o:List Nat)(c k:Nat)=>[(5,some (.ms 15 1 0 (a.length+b.length))),(7,some (u64 c)),(23,some (i64 k))]) (fun o _ _=>[(15,some (.row 1 (o.map u32)))]) (fun o c k=>o.length=a.length+b.length/\k<=b.length/\Ws o/\c<4294967296/\val (o.take (i+b.length))+c*4294967296^(i+k)=val (out.take (i+b.length))+4294967296^i*(ah a i*val (b.take k))) (fun _ _ k=>b.length-k) out 0 0 ⟨ho,by omega,hw,by omega,by simp[val]⟩ ?_
  rintro o c k ⟨ho2,hk,hw2,hc,hv2⟩ K2 J2;refine gC (fun t24=>?_) (fun t24=>?_)
  ·have hkn : k < b.length := by simpa [aa] using t24
   have h2:=bP hb k;have h3:=bP hw2 (i+k);have h4:=ut h1 h2;obtain⟨s,hs⟩:∃s,s=c+(ah a i*ah b k+ah o (i+k)):=⟨_,rfl⟩
   have h5:=Hc (x:=s%4294967296) (show i+k<o.length by omega) (show i+k<i+b.length by omega);have h6:=Fy h5 hs hv2;refine gi (f8 (n:=i) oz (by first |omega |(simp;omega))) ?_;refine gv (u64_in oz) ?_;refine gi (f8 (n:=k) oz (by first |omega |(simp;omega))) ?_;refine gv (u64_in oz) ?_;refine ga (uc oz) ?_;refine ga (jx (by unfold aS;omega) (by unfold aS;omega)) ?_;refine gs (bR (n:=i+k) (.tmp rfl) (.tmp rfl) T43 rfl T349 rfl oz (by first |omega |(simp;omega)) rfl) ?_;refine gs (d6 (.tmp rfl) rfl (bZ (i:=i+k) oz) T349 rfl rfl rfl) ?_;refine gv (u64_in oz) ?_;refine ga (iG oz) ?_;refine ga ((iG oz).trans (show _=(s:Int) by congr 1;omega)) ?_;refine gD ?_;refine ga (jx (by unfold aS;omega) (by unfold aS;omega)) ?_;refine gv (dC _) ?_;refine gs (eI (.tmp rfl) (.const _) oz (gh _ 32 oz) rfl) ?_;refine gs (bR (n:=i+k) (.tmp rfl) (.tmp rfl) T43 rfl T349 rfl oz (by first |omega |(simp;omega)) rfl) ?_;refine gs (dF (.tmp rfl) rfl (bZ (i:=i+k) oz) rfl (.tmp rfl) rfl rfl T349 rfl rfl) ?_;refine ga (cU oz) ?_;exact gE J2 (o.set (i+k) (s%4294967296)) (s/2^32) (k+1) ⟨by simp[ho2],by omega,fP hw2 oz,by omega,by rw[show i+(k+1)=(i+k)+1 from rfl,show s/2^32=s/4294967296 from rfl,Nat.pow_succ,h6,db];simp only[pow_add];grind⟩ (hw:=Wk.of aY (.cons rfl (BlkSub.of (by rw[map_set];rfl)) .nil))
  have hkn:k=b.length:=by have:b.length<=k:=(by simpa[aa]using t24);omega
  subst hkn;have h5:=kR (x:=c) (show i+b.length<o.length by omega);rw[take_length]at hv2;refine gl ?_;refine ga (jx (by unfold aS;omega) (by unfold aS;omega)) ?_;refine gv ((dC c).trans (by rw[Nat.mod_eq_of_lt hc])) ?_;refine gs (bR (n:=i+b.length) (.tmp rfl) (.tmp rfl) T43 rfl T349 rfl oz (by first |omega |(simp;omega)) rfl) ?_;refine gs (dF (.tmp rfl) rfl (bZ (i:=i+b.length) oz) rfl (.tmp rfl) rfl rfl T349 rfl rfl) ?_;refine ga (cU oz) ?_;exact fM J1 (o.set (i+b.length) c) (i+1) ⟨by simp[ho2],by omega,fP hw2 hc,by rw[show i+1+b.length=i+b.length+1 by omega,h5,db];simp only[pow_add]at *;grind⟩ (hw:=Wk.of aY (.cons rfl (BlkSub.of (by rw[map_set];rfl)) .nil))
 have hin:i=a.length:=by have:a.length<=i:=(by simpa[aa]using t19);omega
 subst hin;rw[take_length,eJ oz]at hv;refine gW ((Wk.freeze (k:=15) rfl).trans<|Wk.of (sl:=[(5,some (ws out))]) (hp:=[]) (.cons rfl (Sub.of (bO (by simp[ho]))) .nil) .nil) ?_;refine gc (qr out hw oz) ?_;refine ae ?_;rw[hv]
theorem xE(a:Wh)(ha:a.ok):FP 195 [a.av] (i64 a.z.sign):=by
 obtain⟨e1,e2,e3⟩:=En ha;refine af func195 ?_;refine gc (ku a ha) ?_;refine gl ?_;refine gC (fun t6=>?_) (fun t6=>?_)
 ·have h0 : a.m.length = 0 := by simpa [aa] using t6
  refine ae ?_;rw[e1 h0];rfl
 have h0:a.m.length≠0:=by simpa[aa]using t6
 have hval:a.valid=true:=by
  unfold Wh.m at h0;split at h0
  ·assumption
  ·exact absurd rfl h0
 refine gc (iJ a ha) ?_;refine gC (fun t8=>?_) (fun t8=>?_)
 ·have h1 : a.neg = true := by unfold Wh.n at t8; rw [hval] at t8; simpa using t8
  refine ae ?_;rw[e2 h0 h1];rfl
 have h1:a.neg=false:=by unfold Wh.n at t8;rw[hval]at t8;simpa using t8
 refine ae ?_;rw[e3 h0 h1];rfl
theorem Fn(a:Wh)(ha:a.ok)(la:a.mag.length<aq):FP 279 [a.av] (zA (-a.z)):=by
 refine af func279 ?_;refine gc (iJ a ha) ?_;refine gc (ku a ha) ?_;refine gc (jV _ a.m (Wh.ws ha) (Nat.le_of_lt (Wh.small ha la))) ?_;refine gD ?_;refine ae ?_;rw[Wh.z_eq,<- Ie];rfl
theorem MS(a b:Wh)(ha:a.ok)(hb:b.ok)(la:a.mag.length+b.mag.length<=aq):FP 197 [a.av,b.av] (zA (a.z*b.z)):=by
 have h1:=Wh.m_le (w:=a);have h2:=Wh.m_le (w:=b);have h3:(ofNat (val a.m*val b.m)).length<=a.m.length+b.m.length:=eT (by rw[pow_add];exact Nat.mul_lt_mul'' (bV _ (Wh.ws ha)) (bV _ (Wh.ws hb)));refine af func197 ?_;refine gc (iJ a ha) ?_;refine gc (iJ b hb) ?_;refine gc (ku a ha) ?_;refine gc (ku b hb) ?_;refine gc (Lk a.m b.m (Wh.ws ha) (Wh.ws hb) oz) ?_;refine gc (jV _ _ (dc _) oz) ?_;refine gD ?_;refine ae ?_;rw[b7,Dt];rfl
theorem D0(a b:Wh)(ha:a.ok)(hb:b.ok)(la:a.mag.length<aq)(lb:b.mag.length<aq):FP 196 [a.av,b.av] (zA (a.z+b.z)):=by
 have h1:=Wh.m_le (w:=a);have h2:=Wh.m_le (w:=b);have hla:val a.m<4294967296^(max a.m.length b.m.length):=lt_of_lt_of_le (bV _ (Wh.ws ha)) (Nat.pow_le_pow_right oz oz);have hlb:val b.m<4294967296^(max a.m.length b.m.length):=lt_of_lt_of_le (bV _ (Wh.ws hb)) (Nat.pow_le_pow_right oz oz);have h3:(ofNat (val a.m+val b.m)).length<=max a.m.length b.m.length+1:=eT (by rw[Nat.pow_succ];omega);have h4:(ofNat (val a.m-val b.m)).length<=max a.m.length b.m.length:=eT oz;have h5:(ofNat (val b.m-val a.m)).length<=max a.m.length b.m.length:=eT oz;refine af func196 ?_;refine gc (ku a ha) ?_;refine gc (ku b hb) ?_;refine gD ?_;refine gc (iJ a ha) ?_;refine gc (iJ b hb) ?_;refine gD ?_;refine gC (fun t15=>?_) (fun t15=>?_)
 ·have h0 : a.n = b.n := by simpa using t15
  refine gc (iJ a ha) ?_;refine gc (Af a.m b.m (Wh.ws ha) (Wh.ws hb) oz oz) ?_;refine gc (jV _ _ (dc _) oz) ?_;refine ae ?_;rw[b7,GR h0];rfl
 have h0:a.n≠b.n:=by simpa using t15
 refine gc (AG a.m b.m (Wh.ws ha) (Wh.ws hb)) ?_;refine gC (fun t25=>?_) (fun t25=>?_)
 ·have h6:val b.m<=val a.m:=by
   rcases lt_or_ge (val a.m) (val b.m)with h |h
   ·rw[if_pos h]at t25;cases t25
   ·exact h
  refine gc (iJ a ha) ?_;refine gc (yr a.m b.m (Wh.ws ha) (Wh.ws hb) oz oz) ?_;refine gc (jV _ _ (dc _) oz) ?_;refine ae ?_;rw[b7,wW h0 h6];rfl
 have h6:val a.m<val b.m:=by
  rcases lt_or_ge (val a.m) (val b.m)with h |h
  ·exact h
  ·rw[if_neg oz]at t25;split at t25 <;> cases t25
 refine gc (iJ b hb) ?_;refine gc (yr b.m a.m (Wh.ws hb) (Wh.ws ha) oz oz) ?_;refine gc (jV _ _ (dc _) oz) ?_;refine ae ?_;rw[b7,IE h0 oz];rfl
theorem D7(n:Int)(h:-9223372036854775808<=n/\n<=9223372036854775807):FP 175 [i64 n] (zA n):=by
 obtain⟨N,hN⟩:∃N,N=n.natAbs:=⟨_,rfl⟩
 have hNB:N<18446744073709551616:=by omega
 refine af func175 ?_;refine gv (show IntKind.u64.wrap n=((n%18446744073709551616:Int)) by simp only[IntKind.wrap,IntKind.signed,IntKind.bits,Bool.false_and,if_false,Bool.false_eq_true];omega) ?_;refine gC (fun t7=>?_) (fun t7=>?_) (st2:=(77777,0))
 ·have hn : n < 0 := by simpa [aa] using t7
  refine gs (Ah (.tmp rfl) rfl) ?_ (4,0);refine gW (Wk.of (sl:=[(0,some (i64 n)),(2,some (.ptr 2 0)),(3,some (u64 N))]) (hp:=[(2,some (.box [.v (.bool false),nS]))]) (.k (.k (.cons rfl (Sub.int (by simp only[IntKind.wrap,IntKind.signed,IntKind.bits,Bool.false_and,if_false,Bool.false_eq_true];omega)) .nil))) (.k .nil)) ?_;refine gv (dC _) ?_;refine gs (eI (.tmp rfl) (.const _) oz (gh _ 32 oz) rfl) ?_;refine gv ((dC _).trans (by rw[Nat.mod_eq_of_lt (show N/2^32<4294967296 by omega)])) ?_;refine gc (jV (aa .lss n 0) [N%4294967296,N/2^32] (uN hNB) (by unfold aq;simp)) ?_;refine ae ?_;rw[vO hNB,show sgn (aa .lss n 0) N=n by simp only[sgn,aa,decide_eq_true_eq];split <;> omega];rfl
 have hn:¬n<0:=by simpa[aa]using t7
 refine gW (Wk.of (sl:=[(0,some (i64 n)),(2,some (.ptr 2 0)),(3,some (u64 N))]) (hp:=[(2,some (.box [.v (.bool false),nS]))]) (.k (.k (.cons rfl (Sub.int oz) .nil))) (.k .nil)) ?_;refine gv (dC _) ?_;refine gs (eI (.tmp rfl) (.const _) oz (gh _ 32 oz) rfl) ?_;refine gv ((dC _).trans (by rw[Nat.mod_eq_of_lt (show N/2^32<4294967296 by omega)])) ?_;refine gc (jV (aa .lss n 0) [N%4294967296,N/2^32] (uN hNB) (by unfold aq;simp)) ?_;refine ae ?_;rw[vO hNB,show sgn (aa .lss n 0) N=n by simp only[sgn,aa,decide_eq_true_eq];split <;> omega];rfl
theorem U5(a b:Wh)(ha:a.ok)(hb:b.ok)(la:a.mag.length<aq)(lb:b.mag.length<aq):FP 363 [a.av,b.av] (zA (a.z-b.z)):=by
 have h1:=(Wh.lz hb).neg;have h2:=DA h1;refine af func363 ?_;refine gc (Fn b hb lb) ?_;refine gc (D0 a (ofInt (-b.z)) ha (FT h1 hb.2) la oz) ?_;refine gD ?_;refine ae ?_;rw[dJ,<- Int.sub_eq_add_neg];rfl
theorem SN(a b:Wh)(ha:a.ok)(hb:b.ok)(la:a.mag.length<aq)(lb:b.mag.length<aq):FP 291 [a.av,b.av] (i64 (f0 a.z b.z)):=by
 have h1:=(Wh.lz ha).sub (Wh.lz hb);have h2:=DA h1;refine af func291 ?_;refine gc (U5 a b ha hb la lb) ?_;refine gc (xE (ofInt (a.z-b.z)) (FT h1 (by unfold aS;unfold aq at la lb;omega))) ?_;refine ae ?_;rw[dJ,RU]
theorem ph{A:List Nat}{n:Nat}:AV.lst 1 (((A.map u32).drop 0).take n)=ws (A.take n):=by
 rw[drop_zero,<- map_take];rfl
theorem Du(A:List Nat):(Blk.row 1 (A.map u32)).sc=true:=by
 simp only[Blk.sc,List.all_map];rw[all_eq_true];intro x _;rfl
theorem ot{A:List Nat}{n i:Nat}(h:i<n):ah (A.take n) i=ah A i:=by
 simp[ah,h]
theorem EU{A:List Nat}{n i:Nat}(h:n<=i):ah (A.take n) i=0:=qI (by simp;omega)
theorem Jv{x:Nat}(h:0<x):aZ x=aZ (x/2)+1:=by
 rcases lt_or_ge x 2 with h1 |h1
 ·have : x = 1 := by omega
  subst this;decide
 ·have:=s7 (x:=x) (k:=1) oz;rw[show x/2^1=x/2 from rfl]at this;omega
theorem Ts{a:List Nat}{n:Nat}(ha:Ws a)(na:Nz a)(hl:a.length=n+1):aZ (val a)=32*n+aZ (ah a n):=by
 have ht:ah a n≠0:=by
  refine na _ ?_;rw[List.getLast?_eq_getElem?,hl];exact jD oz
 have hv:val a=val (a.take n)+4294967296^n*ah a n:=by rw[<- db,eJ oz]
 have hlt:=oo ha n;have hp:(4294967296:Nat)^n=2^(32*n):=by rw[Nat.pow_mul]
 rw[hp]at hv hlt
 have h1:val a/2^(32*n)=ah a n:=by
  rw[hv,Nat.add_mul_div_left _ _ (Nat.pow_pos oz),Nat.div_eq_of_lt hlt,Nat.zero_add]
 have h2:2^(32*n)<=val a:=by
  have:=mul_le_mul_left (2^(32*n)) (show 1<=ah a n by omega);omega
 rw[s7 h2,h1]
theorem EC{o A:List Nat}{n v:Nat}(ho:Ws o)(hl:o.length=A.length)(hn:n<=A.length)(hd:o.drop n=A.drop n)(hv:val (o.take n)=v):o=wr A 0 (ba n v):=by
 have h1:bi o 0 n=ba n v:=uS (mL ho _ _) (nT oz) (by rw[bi,drop_zero,hv]);rw[<- h1];exact yn (by simp) (by rw[Nat.zero_add];exact hd) oz
theorem z6(k:Nat)(A:List Nat)(n i:Nat)(hA:Ws A)(hn:n<=A.length) :
  Con prog 365 [.ms k 1 0 n,i64 i] [(k,some (.row 1 (A.map u32)))] (u64 (ah (A.take n) i)) [(k,some (.row 1 (A.map u32)))]:=by
 refine Con.borrow (args:=[ws (A.take n),i64 i]) k 1 (A.map u32) rfl rfl rfl ?_ rfl (fun k' x h=>by cases h) (lG (A.take n) i (fU hA n));intro j x' hj
 match j,hj with
 |0,hj=>cases hj;exact .inr ⟨0,n,rfl,by simpa using hn,by rw[ph];rfl⟩
 |1,hj=>cases hj;exact .inl rfl
theorem P4(k1 k2:Nat)(hk:k1≠k2)(A D:List Nat)(n p:Nat)(hA:Ws A)(hD:Ws D)(hn:n<=A.length)(hp:p<=D.length) :
  Con prog 295 [.ms k1 1 0 n,.ms k2 1 0 p] [(k1,some (.row 1 (A.map u32))),(k2,some (.row 1 (D.map u32)))]
   (i64 (if val (A.take n)<val (D.take p)then -1 else if val (D.take p)<val (A.take n)then 1 else 0)) [(k1,some (.row 1 (A.map u32))),(k2,some (.row 1 (D.map u32)))]:=by
 have h1:Con prog 295 [ws (A.take n),.ms k2 1 0 p] [(k2,some (.row 1 (D.map u32)))]
   (i64 (if val (A.take n)<val (D.take p)then -1 else if val (D.take p)<val (A.take n)then 1 else 0)) [(k2,some (.row 1 (D.map u32)))]:=by
  refine Con.borrow (args:=[ws (A.take n),ws (D.take p)]) k2 1 (D.map u32) rfl rfl rfl ?_ rfl (fun k' x h=>by cases h) (AG (A.take n) (D.take p) (fU hA n) (fU hD p));intro j x' hj
  match j,hj with
  |0,hj=>cases hj;exact .inl rfl
  |1,hj=>cases hj;exact .inr ⟨0,p,rfl,by simpa using hp,by rw[ph];rfl⟩
 refine Con.borrow (args:=[ws (A.take n),.ms k2 1 0 p]) k1 1 (A.map u32) ?_ ?_ rfl ?_ rfl ?_ h1
 ·rw[aK,if_neg hk];rfl
 ·rw[aK,if_neg hk];rfl
 ·intro j x' hj
  match j,hj with
  |0,hj=>cases hj;exact .inr ⟨0,n,rfl,by simpa using hn,by rw[ph];rfl⟩
  |1,hj=>cases hj;exact .inl rfl
 ·intro k' x h;obtain⟨_,h⟩:=fu h;cases h;exact Du D
theorem Oi(k:Nat)(A b:List Nat)(n:Nat)(hA:Ws A)(hb:Ws b)(hn:n<=A.length) :
  Con prog 295 [.ms k 1 0 n,ws b] [(k,some (.row 1 (A.map u32)))]
   (i64 (if val (A.take n)<val b then -1 else if val b<val (A.take n)then 1 else 0)) [(k,some (.row 1 (A.map u32)))]:=by
 refine Con.borrow (args:=[ws (A.take n),ws b]) k 1 (A.map u32) rfl rfl rfl ?_ rfl (fun k' x h=>by cases h) (AG (A.take n) b (fU hA n) hb);intro j x' hj
 match j,hj with
 |0,hj=>cases hj;exact .inr ⟨0,n,rfl,by simpa using hn,by rw[ph];rfl⟩
 |1,hj=>cases hj;exact .inl rfl
theorem NM(a:List Nat)(ha:Ws a)(na:Nz a)(la:a.length<=aq):FP 393 [ws a] (i64 (aZ (val a))):=by
 unfold aq at la;refine af func393 ?_;refine gl ?_;refine gC (fun t7=>?_) (fun t7=>?_)
 ·have h0 : a=[] := List.length_eq_zero_iff.1 (by simpa[aa]using t7);refine ae ?_;subst h0;rfl
 have h0:a.length≠0:=by simpa[aa]using t7
 obtain⟨n,hn⟩:∃n,a.length=n+1:=⟨a.length-1,by omega⟩
 have hB:=Ts ha na hn;have ht:=bP ha n;refine gl ?_;refine ga (show _=(n:Int) by rw[dB oz];omega) ?_;refine ga (show _=((32*n:Nat):Int) by rw[AC oz];omega) ?_;refine gl ?_;refine ga (show _=(n:Int) by rw[dB oz];omega) ?_;refine gi (f8 (n:=n) oz (by first |omega |(simp;omega))) ?_;refine gz [] [] (fun(x c:Nat)=>[(3,some (i64 c)),(4,some (u32 x))]) (fun _ _=>[]) (fun x c=>x<4294967296/\c<=281474976710656/\c+aZ x=aZ (val a)) (fun x _=>x) (ah a n) (32*n) ⟨ht,by omega,hB.symm⟩ ?_;rintro x c ⟨hx,hc,hv⟩ K1 J1;refine gC (fun t19=>?_) (fun t19=>?_)
 ·have hx0 : 0 < x := by simpa [aa] using t19
  have h2:=Jv hx0
  have h3:aZ (val a)<=32*n+32:=by
   have:=(yc (x:=ah a n)  (by
    refine na _ ?_;rw[List.getLast?_eq_getElem?,hn];exact jD oz) ht).1
   omega
  refine ga (show _=((c+1:Nat):Int) by rw[cU oz];omega) ?_;refine gs (eI (.tmp rfl) (.const _) oz (qu x 1 oz) rfl) ?_;exact fM J1 (x/2^1) (c+1) ⟨by omega,by omega,by rw[show x/2^1=x/2 from rfl];omega⟩
 have hx0:x=0:=by have:x<=0:=(by simpa[aa]using t19);omega
 subst hx0;refine ae ?_;rw[<- hv];rfl
theorem Be(A:List Nat)(n:Nat)(hA:Ws A)(hn:n<=A.length)(la:A.length<=aq) :
  Con prog 392 [.ms 1000 1 0 n] [(1000,some (.row 1 (A.map u32)))] (.ms 1000 1 0 (ofNat (val (A.take n))).length) [(1000,some (.row 1 (A.map u32)))]:=by
 unfold aq at la;refine gF func392 (fun k z h=>bq h) ?_;refine aM [] [1000] (fun(j:Nat)=>[(0,some (.ms 1000 1 0 j))]) (fun _=>[]) (fun j=>j<=n/\val (A.take j)=val (A.take n)) (fun j=>j) n ⟨le_refl _,rfl⟩ ?_;rintro j ⟨hj,hv⟩ K1 J1;refine om (fun h=>(iZ (by simp[aa]at h;omega) (by unfold aS;omega))) ?_;refine gs (er rfl rfl rfl (fun h=>bR (n:=j-1) (.opt rfl (o1 h)) (.opt rfl (o1 h)) T43 rfl T349 rfl oz (by simp[aa]at h;omega) rfl)) ?_;refine gs (er rfl rfl rfl (fun h=>d6 (.opt rfl (o1 h)) rfl (bZ (i:=j-1) (by simp[aa]at h;omega)) T349 rfl rfl rfl)) ?_;refine gC (fun t14=>?_) (fun t14=>?_)
 ·have t14 : 0 < j /\ ah A (j - 1) = 0 := by simpa [aa] using t14
  refine ga (iZ oz (by unfold aS;omega)) ?_;refine gs (vR (.tmp rfl) (.none _) (.some _ (.tmp rfl) oz) T43 rfl T349 rfl oz oz rfl) ?_;exact aG J1 (j-1) ⟨by omega,by have h:=@db A (j-1);rw[show j-1+1=j by omega,t14.2]at h;simp at h;omega⟩ (hw:=Wk.of (.cons rfl (Sub.of (by congr 1)) .nil) (.k .nil))
 have t14:0<j->ah A (j-1)≠0:=by simpa[aa]using t14
 have hn1 := Bh (m := A.take n) (n := j) (fU hA n) (by simp; omega) (by rw [List.take_take, Nat.min_eq_left hj]; exact hv) (by
  rcases Nat.eq_zero_or_pos j with h |h
  ·exact .inl h
  ·exact .inr (by rw[ot oz];exact t14 h))
 subst hn1;refine gR ?_;exact ao.own2 rfl rfl rfl
theorem wM(A:List Nat)(n:Nat)(hA:Ws A)(hn:n<=A.length)(la:A.length<=aq) :
  Con prog 390 [.ms 1000 1 0 n] [(1000,some (.row 1 (A.map u32)))] (.ms 1000 1 0 (ofNat (val (A.take n)/2)).length) [(1000,some (.row 1 ((wr A 0 (ba n (val (A.take n)/2))).map u32)))]:=by
 have la':=la;unfold aq at la;refine gF func390 (fun k z h=>bq h) ?_;refine gz [5] [] (fun(o:List Nat)(i:Nat)=>[(0,some (.ms 1000 1 0 n)),(6,some (i64 i))]) (fun o _=>[(1000,some (.row 1 (o.map u32)))]) (fun o i=>o.length=A.length/\i<=n/\Ws o/\o.drop i=A.drop i/\val (o.take i)=val (A.take n)/2^1%4294967296^i) (fun _ i=>n-i) A 0 ⟨rfl,by omega,hA,rfl,by simp[val,Nat.mod_one]⟩ ?_;rintro o i ⟨ho,hi,hw,hd,hv⟩ K1 J1;refine gC (fun t7=>?_) (fun t7=>?_)
 ·have hin : i < n := by simpa [aa] using t7
  have e1:ah (o.take n) i=ah (A.take n) i:=by rw[ot hin,ot hin];exact pM hd
  have hd2:o.drop (i+1)=A.drop (i+1):=by
   have h1:(o.drop i).drop 1=(A.drop i).drop 1:=by rw[hd]
   rwa [drop_drop,drop_drop]at h1
  have e2:ah (o.take n) (i+1)=ah (A.take n) (i+1):=by
   rcases lt_or_ge (i+1) n with h |h
   ·rw[ot h,ot h];exact pM hd2
   ·rw[EU h,EU h]
  have b1:=bP (fU hA n) i;have b2:=bP (fU hA n) (i+1);have h3:=B6 (n:=1) (fU hA n) (show i<(A.take n).length by simp;omega) (show i<o.length by omega) oz hv;refine gt (ay (z6 1000 o n i hw oz) (bB rfl rfl) aE rfl rfl) ?_;refine gs (eI (.tmp rfl) (.const _) oz ((gh _ 1 oz).trans (by rw[e1])) rfl) ?_;refine ga (jx (y:=1) (by unfold aS;omega) (by unfold aS;omega)) ?_;refine gt (ay (z6 1000 o n (i+1) hw oz) (bB rfl rfl) aE rfl rfl) ?_;refine gs (gk (.tmp rfl) (.const _) oz ((qX (n:=31) oz oz).trans (by rw[e2])) rfl) ?_;refine gs (i7 (.tmp rfl) (.tmp rfl) rfl ((tP oz oz).trans (by rw[AH oz])) rfl) ?_;refine gv ((dC _).trans (show _=(((ah (A.take n) i+ah (A.take n) (i+1)*2^32)/2^1%4294967296:Nat):Int) by congr 1;omega)) ?_;refine gs (bR (n:=i) (.tmp rfl) (.tmp rfl) T43 rfl T349 rfl oz (by first |omega |(simp;omega)) rfl) ?_;refine gs (dF (.tmp rfl) rfl (bZ (i:=i) oz) rfl (.tmp rfl) rfl rfl T349 rfl rfl) ?_;refine ga (cU oz) ?_;exact fM J1 (o.set i ((ah (A.take n) i+ah (A.take n) (i+1)*2^32)/2^1%4294967296)) (i+1) ⟨by simp[ho],by omega,fP hw oz,rf hd,h3⟩ (hw:=Wk.of aY (.cons rfl (BlkSub.of (by rw[map_set];rfl)) .nil))
 have hin:i=n:=by have:n<=i:=(by simpa[aa]using t7);omega
 subst hin;have hlt:=oo hA i;have hv':val (o.take i)=val (A.take i)/2:=by rw[hv,Nat.mod_eq_of_lt oz]
 have h9:=EC hw ho hn hd hv';refine gt (ay (Be o i hw oz oz) (cI rfl) aE rfl rfl) ?_;refine gR ?_;exact ao.own2 rfl (by rw[<- h9]) (by rw[hv'];rfl)
theorem HL(A b:List Nat)(n:Nat)(hA:Ws A)(hb:Ws b)(hn:n<=A.length)(la:A.length<=aq)(hle:val b<=val (A.take n)) :
  Con prog 391 [.ms 1000 1 0 n,ws b] [(1000,some (.row 1 (A.map u32)))] (.tup []) [(1000,some (.row 1 ((wr A 0 (ba n (val (A.take n)-val b))).map u32)))]:=by
 unfold aq at la;refine gF func391 (fun k z h=>bq h) ?_;refine iP [1,8] [] (fun(o:List Nat)(c i:Nat)=>[(0,some (.ms 1000 1 0 n)),(4,some (u64 c)),(9,some (i64 i))]) (fun o _ _=>[(1000,some (.row 1 (o.map u32)))]) (fun o c i=>o.length=A.length/\i<=n/\Ws o/\c<=1/\o.drop i=A.drop i/\val (o.take i)+val (b.take i)=val (A.take i)+c*4294967296^i) (fun _ _ i=>n-i) A 0 0 ⟨rfl,by omega,hA,by omega,rfl,by simp[val]⟩ ?_;rintro o c i ⟨ho,hi,hw,hc,hd,hv⟩ K1 J1;refine gC (fun t10=>?_) (fun t10=>?_)
 ·have hin : i < n := by simpa [aa] using t10
  have e1:ah (o.take n) i=ah A i:=by rw[ot hin];exact pM hd
  have h1:=bP hA i;have h2:=bP hb i;obtain⟨s,hs⟩:∃s,s=4294967296+ah A i-ah b i-c:=⟨_,rfl⟩
  have h3:=If h1 h2 hc hv;rw[<- hs]at h3;refine gt (ay (z6 1000 o n i hw oz) (bB rfl rfl) aE rfl rfl) ?_;refine ga ((iG (x:=4294967296) oz).trans (by rw[e1])) ?_;refine gc (lG b i hb) ?_;refine ga ((kz oz oz).trans (by rw[if_pos oz])) ?_;refine ga ((kz oz oz).trans (show _=(s:Int) by rw[if_pos oz];congr 1;omega)) ?_;refine gv (dC _) ?_;refine gs (eI (.tmp rfl) (.const _) oz (gh _ 32 oz) rfl) ?_;refine ga ((kz (x:=1) oz oz).trans (by rw[if_pos oz])) ?_;refine gs (bR (n:=i) (.tmp rfl) (.tmp rfl) T43 rfl T349 rfl oz (by first |omega |(simp;omega)) rfl) ?_;refine gs (dF (.tmp rfl) rfl (bZ (i:=i) oz) rfl (.tmp rfl) rfl rfl T349 rfl rfl) ?_;refine ga (cU oz) ?_;exact gE J1 (o.set i (s%4294967296)) (1-s/2^32) (i+1) ⟨by simp[ho],by omega,fP hw oz,by omega,rf hd,by rw[kR oz,db,db,Nat.pow_succ];exact h3⟩ (hw:=Wk.of aY (.cons rfl (BlkSub.of (by rw[map_set];rfl)) .nil))
 have hin:i=n:=by have:n<=i:=(by simpa[aa]using t10);omega
 subst hin;have hl:(A.take i).length=i:=by simp;omega
 have h4:=C5 (a:=A.take i) (b:=b) (out:=o.take i) (fU hA i) (fU hw i) (by simp;omega) hle (by rw[hl,take_of_length_le (show(A.take i).length<=i by omega)];exact hv);have h9:=EC hw ho hn hd h4;refine gR ?_;exact ao.own2 rfl (by rw[<- h9]) rfl
theorem C4{x:Nat}(h:x<=9223372036854775807):IntKind.i64.wrap ((x:Int).tdiv 32)=((x/32:Nat):Int):=by
 rw[show(32:Int)=((32:Nat):Int)from rfl,<- Int.ofNat_tdiv];exact i64_in oz
theorem Dn{x:Nat}:(x:Int).tmod 32=((x%32:Nat):Int):=(Int.ofNat_tmod _ _).symm
theorem se(i:Nat):(4294967296:Nat)^i=2^(32*i):=by rw[Nat.pow_mul]
theorem SY{a:List Nat}(ha:Ws a){k:Nat}(hk:k/32<a.length):ah a (k/32)/2^(k%32)%2=val a/2^k%2:=by
 have h1:val a/2^k=(val a/4294967296^(k/32))/2^(k%32):=by
  rw[se,Nat.div_div_eq_div_mul,<- pow_add];congr 2;omega
 rw[h1,wa ha _ oz,tQ];generalize val (a.drop (k/32+1))=R
 have h2:4294967296*R=2^(k%32)*(2*(2^(31-k%32)*R)):=by
  have:(4294967296:Nat)=2^(k%32)*(2*2^(31-k%32)):=by
   rw[<- Nat.pow_succ',<- pow_add,show k%32+(31-k%32).succ=32 by omega]
  conv=>lhs;rw[this]
  grind
 rw[h2,Nat.add_mul_div_left _ _ (Nat.pow_pos oz),Nat.add_mul_mod_self_left]
theorem UD{w c:Nat}(hc:c<=1):w*2^1%4294967296 ||| c=w*2^1%4294967296+c:=by
 have h:w*2^1%4294967296=(w%2147483648)*2^1:=by omega
 rw[h];exact rO oz
theorem M0{o c P rt w bit:Nat}(hw:w<4294967296)(h:o+c*P=2*rt+bit) :
  (o+P*(w*2^1%4294967296+c))+(w/2^31)*(P*4294967296)=2*(rt+P*w)+bit:=by
 have h0:w*2^1%4294967296+(w/2^31)*4294967296=2*w:=by omega
 generalize w*2^1%4294967296=r at *;generalize w/2^31=q at *;grind
theorem RV{q:List Nat}(hq:Ws q){k Y:Nat}(hk:k/32<q.length)(h:val q=2^(k+1)*Y) :
  ah q (k/32) ||| 2^(k%32)=ah q (k/32)+2^(k%32)/\ah q (k/32)+2^(k%32)<4294967296:=by
 have h1:=wa hq (k/32) oz;rw[tQ,h,se,show k+1=32*(k/32)+(k%32+1) by omega,pow_add,Nat.mul_assoc,Nat.mul_div_cancel_left _ (Nat.pow_pos oz)]at h1;have hw:=bP hq (k/32);generalize ah q (k/32)=w at *;generalize val (q.drop (k/32+1))=R at *
 have hB:(4294967296:Nat)=2^(k%32+1)*2^(31-k%32):=by
  rw[<- pow_add,show k%32+1+(31-k%32)=32 by omega]
 have h2:w%2^(k%32+1)=0:=by
  have h3:(w+4294967296*R)%2^(k%32+1)=0:=by rw[<- h1];exact Nat.mul_mod_right _ _
  rw[hB,Nat.mul_assoc,Nat.add_mul_mod_self_left]at h3;exact h3
 have h4:w=2^(k%32+1)*(w/2^(k%32+1)):=by
  have:=Nat.div_add_mod w (2^(k%32+1));omega
 have h5:2^(k%32)<2^(k%32+1):=by rw[Nat.pow_succ];have:=Nat.pow_pos (n:=k%32) (show 0<2 by omega);omega
 constructor
 ·rw[h4];exact(Nat.two_pow_add_eq_or_of_lt h5 _).symm
 ·have h6:w/2^(k%32+1)<2^(31-k%32):=by
   rw[Nat.div_lt_iff_lt_mul (Nat.pow_pos oz),Nat.mul_comm,<- hB];exact hw
  have h7:=mul_le_mul_left (2^(k%32+1)) (show w/2^(k%32+1)+1<=2^(31-k%32)from h6);rw[<- hB,Nat.mul_add,<- h4]at h7;omega
theorem Lv{q:List Nat}(hq:Ws q){k Y:Nat}(hk:k/32<q.length)(h:val q=2^(k+1)*Y) :
  val (q.set (k/32) (ah q (k/32)+2^(k%32)))=2^k*(2*Y+1):=by
 have h1:=zM (x:=ah q (k/32)+2^(k%32)) hk;rw[Nat.mul_add]at h1;have h2:4294967296^(k/32)*2^(k%32)=2^k:=by rw[se,<- pow_add];congr 1;omega
 rw[h2,h,Nat.pow_succ]at h1;grind
theorem K8{V Bv k:Nat}(hB:0<Bv) :
  (Bv<=2*(V/2^(k+1)%Bv)+V/2^k%2->V/2^k%Bv=2*(V/2^(k+1)%Bv)+V/2^k%2-Bv/\V/2^k/Bv=2*(V/2^(k+1)/Bv)+1) /\
  (2*(V/2^(k+1)%Bv)+V/2^k%2<Bv->V/2^k%Bv=2*(V/2^(k+1)%Bv)+V/2^k%2/\V/2^k/Bv=2*(V/2^(k+1)/Bv)):=by
 have h1:V/2^(k+1)=V/2^k/2:=by rw[Nat.pow_succ,Nat.div_div_eq_div_mul]
 rw[h1];generalize V/2^k=X;have h2:=Nat.div_add_mod X 2;have h3:=Nat.div_add_mod (X/2) Bv;have h4:=Nat.mod_lt (X/2) hB;have h5:=Nat.mod_lt X (show 0<2 by omega);generalize X/2%Bv=r at *;generalize X/2/Bv=q at *;generalize X%2=b at *;generalize X/2=Y at *;constructor
 ·intro h;have:=ur (a:=X) (w:=Bv) (q:=2*q+1) (r:=2*r+b-Bv) (by rw[Nat.mul_add,Nat.mul_one,show Bv*(2*q)=2*(Bv*q) by grind];omega) oz;exact⟨this.2,this.1⟩
 ·intro h;have:=ur (a:=X) (w:=Bv) (q:=2*q) (r:=2*r+b) (by rw[show Bv*(2*q)=2*(Bv*q) by grind];omega) oz;exact⟨this.2,this.1⟩
theorem Md{A l:List Nat}(h:l.length=A.length):wr A 0 l=l:=by
 unfold wr;rw[drop_eq_nil_of_le oz];simp
theorem CE{V:Nat}:V/2^aZ V=0:=Nat.div_eq_of_lt wN
theorem HC{a:List Nat}(ha:Ws a){k:Nat}(h:k<aZ (val a)):k/32<a.length:=by
 rcases lt_or_ge (k/32) a.length with h1 |h1
 ·exact h1
 ·exfalso;have h2:=bV a ha;rw [se] at h2;have h3:val a ≠ 0:=by intro h0; rw [h0] at h; simp [aZ] at h
  have h4:=ve h3;have h5:2^(32*a.length)<=2^(aZ (val a)-1):=nZ oz;omega
theorem Q2(a b:List Nat)(ha:Ws a)(hb:Ws b)(na:Nz a)(hb0:val b≠0)(la:a.length<aq)(lb:b.length<aq) :
  FP 361 [ws a,ws b] (.tup [ws (ofNat (val a/val b)),ws (ofNat (val a%val b))]):=by
 have la':=la;have lb':=lb;unfold aq at la lb;obtain⟨V,hV⟩:∃V,V=val a:=⟨_,rfl⟩
 obtain⟨Bv,hBv⟩:∃Bv,Bv=val b:=⟨_,rfl⟩
 have hBp:0<Bv:=by omega
 have hBl:2*Bv<=4294967296^(b.length+1):=by have:=bV b hb;rw[Nat.pow_succ];omega
 have hbl:aZ V<=32*a.length:=by
  rcases Nat.eq_zero_or_pos (aZ V)with h |h
  ·omega
  ·have := HC ha (k := aZ V-1) (by rw[<- hV];omega);omega
 rw[<- hV,<- hBv];refine af func361 ?_;refine gl ?_;refine gs (gV (.tmp rfl) T43 rfl T349 rfl rfl oz (by dsimp only;omega) rfl) ?_;refine gl ?_;refine ga (jx (y:=1) (by unfold aS;omega) (by unfold aS;omega)) ?_;refine gs (gV (.tmp rfl) T43 rfl T349 rfl rfl oz (by dsimp only;omega) rfl) ?_;refine gc (hV▸NM a ha na oz) ?_;refine ga (dB oz) ?_;refine iP [0,1] [] (fun(q r:List Nat)(i:Nat)=>[(6,some (.ms 13 1 0 a.length)),(7,some (.ms 17 1 0 (b.length+1))),(8,some (i64 ((i:Int)-1)))]) (fun q r _=>[(13,some (.row 1 (q.map u32))),(17,some (.row 1 (r.map u32)))]) (fun q r i=>q.length=a.length/\r.length=b.length+1/\Ws q/\Ws r/\i<=aZ V/\val r=V/2^i%Bv/\val q=2^i*(V/2^i/Bv)) (fun _ _ i=>i) (List.replicate a.length 0) (List.replicate (b.length+1) 0) (aZ V) ⟨by simp,by simp,kN _,kN _,le_refl _,by rw[uv,CE,Nat.zero_mod],by rw[uv,CE,Nat.zero_div,Nat.mul_zero]⟩ ?_ (h2:=(.cons rfl (BlkSub.of (by rw[map_replicate];rfl)) (.cons rfl (BlkSub.of (by rw[map_replicate];rfl)) .nil)))
 rintro q r i ⟨hql,hrl,wq,wr',hi,hr,hq⟩ K1 J1;refine gC (fun t22=>?_) (fun t22=>?_) (st2:=(15,0))
 ·have hi0 : 1 <= i := by have := t22; simp [aa] at this; omega
  obtain⟨k,rfl⟩:∃k,i=k+1:=⟨i-1,by omega⟩
  rw[show((k+1:Nat):Int)-1=(k:Int) by omega];have hka:=HC ha (k:=k) (by rw[<- hV];omega);have hbit:=SY ha hka;have hwB:=bP ha (k/32);rw[<- hV]at hbit;obtain⟨bit,hbt⟩:∃bit,bit=V/2^k%2:=⟨_,rfl⟩
  have hb1:bit<=1:=by omega
  have hrlt:=Nat.mod_lt (V/2^(k+1)) hBp;have hdw:ah a (k/32)/2^(k%32)<=ah a (k/32):=Nat.div_le_self _ _;refine gs (eH (.tmp rfl) (.const _) oz (C4 oz) rfl) ?_;refine gi (f8 (n:=k/32) oz (by first |omega |(simp;omega))) ?_;refine gs (uq (.tmp rfl) (.const _) oz Dn rfl) ?_;refine gs (eI (.tmp rfl) (.tmp rfl) oz (qu _ (k%32) oz) rfl) ?_;refine gs (i7 (.tmp rfl) (.const _) rfl ((EJ (y:=1) oz oz).trans (show _=(bit:Int) by rw[Nat.and_one_is_mod,hbit,hbt])) rfl) ?_;refine iP [0,1,8,35] [13] (fun(o:List Nat)(c j:Nat)=>[(6,some (.ms 13 1 0 a.length)),(7,some (.ms 17 1 0 (b.length+1))),(9,some (u32 c)),(36,some (i64 j))]) (fun o _ _=>[(17,some (.row 1 (o.map u32)))]) (fun o c j=>o.length=b.length+1/\Ws o/\j<=b.length+1/\c<=1/\o.drop j=r.drop j/\val (o.take j)+c*4294967296^j=2*val (r.take j)+bit) (fun _ _ j=>b.length+1-j) r bit 0 ⟨hrl,wr',by omega,hb1,rfl,by simp[val]⟩ ?_
  rintro o c j ⟨hol,wo,hj,hc,hd,hv⟩ K2 J2;refine gC (fun t37=>?_) (fun t37=>?_)
  ·have hjn : j < b.length + 1 := by have := t37; simp [aa] at this; omega
   have e1:ah o j=ah r j:=pM hd;have h1:=bP wr' j;have h3:=M0 (w:=ah r j) h1 hv;refine gs (bR (n:=j) (.tmp rfl) (.tmp rfl) T43 rfl T349 rfl oz (by first |omega |(simp;omega)) rfl) ?_;refine gs (d6 (.tmp rfl) rfl (by rw[bZ (show j<o.length by omega),e1]) T349 rfl rfl rfl) ?_;refine gs (gk (.tmp rfl) (.const _) oz (Cu (n:=1) oz) rfl) ?_;refine gs (i7 (.tmp rfl) (.tmp rfl) rfl ((zZ oz oz).trans (by rw[UD hc])) rfl) ?_;refine gs (bR (n:=j) (.tmp rfl) (.tmp rfl) T43 rfl T349 rfl oz (by first |omega |(simp;omega)) rfl) ?_;refine gs (d6 (.tmp rfl) rfl (by rw[bZ (show j<o.length by omega),e1]) T349 rfl rfl rfl) ?_;refine gs (eI (.tmp rfl) (.const _) oz (qu _ 31 oz) rfl) ?_;refine gs (bR (n:=j) (.tmp rfl) (.tmp rfl) T43 rfl T349 rfl oz (by first |omega |(simp;omega)) rfl) ?_;refine gs (dF (.tmp rfl) rfl (bZ (i:=j) oz) rfl (.tmp rfl) rfl rfl T349 rfl rfl) ?_;refine gD ?_;refine ga (cU oz) ?_;exact gE J2 (o.set j (ah r j*2^1%4294967296+c)) (ah r j/2^31) (j+1) ⟨by simp[hol],fP wo oz,by omega,by omega,rf hd,by rw[kR oz,db];rw[show 4294967296^(j+1)=4294967296^j*4294967296 from Nat.pow_succ _ _];exact h3⟩ (hw:=Wk.of aY (.cons rfl (BlkSub.of (by rw[map_set];rfl)) (.k .nil)))
  have hjn:j=b.length+1:=by have:b.length+1<=j:=(by have:=t37;simp[aa]at this;omega);omega
  subst hjn;rw[eJ (l:=r) oz,eJ (l:=o) oz,hr]at hv
  have hc0:c=0:=by
   cases c with
   |zero=>rfl
   |succ c=>rw[Nat.succ_mul]at hv;omega
  subst hc0;rw[Nat.zero_mul,Nat.add_zero]at hv;have hot:o.take (b.length+1)=o:=take_of_length_le oz;obtain⟨d1,d2⟩:=K8 (V:=V) (k:=k) hBp;rw[<- hbt]at d1 d2;have hcmp:=Oi 17 o b (b.length+1) wo hb oz;rw[hot,<- hBv,hv]at hcmp;have hqk:k/32<q.length:=by omega
  obtain⟨w1,w2⟩:=RV wq hqk hq;have w3:=Lv wq hqk hq;refine gt (ay hcmp (bB rfl rfl) aE rfl rfl) ?_;refine gC (fun t58=>?_) (fun t58=>?_)
  ·have hge:Bv<=2*(V/2^(k+1)%Bv)+bit:=by
    rcases lt_or_ge (2*(V/2^(k+1)%Bv)+bit) Bv with h |h
    ·rw[if_pos h]at t58;cases t58
    ·exact h
   obtain⟨d3,d4⟩:=d1 hge;have htk:=HL o b (b.length+1) wo hb oz (by unfold aq;omega) (by rw[hot,<- hBv,hv];exact hge);rw[hot,<- hBv,hv,<- d3,Md (by rw[fc,hol])]at htk;have hx2:V/2^k%Bv<4294967296^(b.length+1):=by have:=Nat.mod_lt (V/2^k) hBp;omega
   refine gt (ay (Con.rk 17 rfl rfl htk) (bB rfl rfl) aE rfl rfl) ?_;refine gs (eH (.tmp rfl) (.const _) oz (C4 oz) rfl) ?_;refine gs (bR (n:=k/32) (.tmp rfl) (.tmp rfl) T43 rfl T349 rfl oz oz rfl) ?_;refine gs (d6 (.tmp rfl) rfl (bZ (i:=k/32) hqk) T349 rfl rfl rfl) ?_;refine gs (uq (.tmp rfl) (.const _) oz Dn rfl) ?_;refine gs (gk (.const _) (.tmp rfl) oz ((Cu (x:=1) (n:=k%32) oz).trans (show _=((2^(k%32):Nat):Int) by rw[Nat.one_mul,Nat.mod_eq_of_lt (lt_of_le_of_lt (Nat.le_add_left _ _) w2)])) rfl) ?_;refine gs (i7 (.tmp rfl) (.tmp rfl) rfl ((zZ (bP wq _) (lt_of_le_of_lt (Nat.le_add_left _ _) w2)).trans (by rw[w1])) rfl) ?_;refine gs (bR (n:=k/32) (.tmp rfl) (.tmp rfl) T43 rfl T349 rfl oz oz rfl) ?_;refine gs (dF (.tmp rfl) rfl (bZ (i:=k/32) hqk) rfl (.tmp rfl) rfl rfl T349 rfl rfl) ?_;refine gD ?_;refine ga (dB oz) ?_;exact gE J1 (q.set (k/32) (ah q (k/32)+2^(k%32))) (ba (b.length+1) (V/2^k%Bv)) k ⟨by simp[hql],fc _ _,fP wq w2,jY _ _,by omega,k8 _ _ hx2,by rw[w3,d4]⟩ (hw:=Wk.of aY (.cons rfl (BlkSub.of (by first |rfl |(rw[map_set];rfl))) (.k .nil)))
  have hge:2*(V/2^(k+1)%Bv)+bit<Bv:=by
   rcases lt_or_ge (2*(V/2^(k+1)%Bv)+bit) Bv with h |h
   ·exact h
   ·rw[if_neg oz]at t58;split at t58 <;> cases t58
  obtain⟨d3,d4⟩:=d2 hge;refine ga (dB oz) ?_;exact gE J1 q o k ⟨hql,hol,wq,wo,by omega,by rw[hv,d3],by rw[hq,d4,Nat.pow_succ,Nat.mul_assoc]⟩ (hw:=Wk.of aY (.cons rfl (BlkSub.of (by first |rfl |(rw[map_set];rfl))) (.k .nil)))
 have hi0:i=0:=by have:=t22;simp[aa]at this;omega
 subst hi0;refine gW ((Wk.freeze (k:=13) rfl).trans<|(Wk.freeze (k:=17) rfl).trans<|Wk.of (sl:=[(6,some (ws q)),(7,some (ws r))]) (hp:=[]) (.cons rfl (Sub.of (by rw[show AV.fz 13 1 (q.map u32) (.ms 13 1 0 a.length)=ws q from bO (by simp[hql])];rfl)) (.cons rfl (Sub.of (bO (by simp[hrl]))) .nil)) .nil) ?_;refine gc (qr q wq oz) ?_;refine gc (qr r wr' (by unfold aq;omega)) ?_;refine bj ?_;rw[hr,hq];simp[]
def ip(L:Nat)(A:List Nat)(n:Nat):Prop:=Ws A/\n<=A.length/\A.length<=L/\n=(ofNat (val (A.take n))).length
theorem Nx(v:Nat):ofNat v=ba (ofNat v).length v:=by
 have h:=tN (ofNat v) (dc _)
 rwa [b7]at h
theorem jb{L:Nat}{A:List Nat}{n v:Nat}(h:ip L A n)(hv:v<=val (A.take n)) :
  ip L (wr A 0 (ba n v)) (ofNat v).length/\val ((wr A 0 (ba n v)).take (ofNat v).length)=v/\val ((wr A 0 (ba n v)).take n)=v:=by
 obtain⟨hw,hn,hl,hN⟩:=h;have hlt:=oo hw n;have hvl:v<4294967296^n:=by omega
 have hle:(ofNat v).length<=n:=eT hvl
 have ht:(wr A 0 (ba n v)).take n=ba n v:=by
  unfold wr;rw[List.take_zero,nil_append,List.take_append_of_le_length (by rw[fc];omega),take_of_length_le (by rw[fc];omega)]
 have ht2:(wr A 0 (ba n v)).take (ofNat v).length=ofNat v:=by
  have h1:((wr A 0 (ba n v)).take n).take (ofNat v).length=(wr A 0 (ba n v)).take (ofNat v).length:=by rw[List.take_take,Nat.min_eq_left hle]
  rw[<- h1,ht,z9 _ _ _ hle,<- Nx]
 have hlen:(wr A 0 (ba n v)).length=A.length:=lR (by rw[fc];omega);refine⟨⟨pz hw (jY _ _),by omega,by omega,by rw[ht2,b7]⟩,by rw[ht2,b7],by rw[ht,k8 _ _ hvl]⟩
theorem hO{L:Nat}{A:List Nat}{n:Nat}(h:ip L A n)(hx:0<val (A.take n)):0<n/\val (A.take n)%2=ah A 0%2:=by
 have hn:0<n:=by
  rcases Nat.eq_zero_or_pos n with h0 |h0
  ·subst h0;simp[val]at hx
  ·exact h0
 refine⟨hn,?_⟩;have:=tQ (A.take n) 0;rw[drop_zero,ot hn]at this;omega
theorem Ru{L:Nat}{A:List Nat}{n:Nat}(h:ip L A n):A.take n=ofNat (val (A.take n)):=by
 obtain⟨hw,hn,hl,hN⟩:=h;have h1:=BZ (fU hw n);rw[<- hN,List.take_take,Nat.min_self]at h1;exact h1
theorem D8{L:Nat}{A:List Nat}{n:Nat}(h:ip L A n):n=0↔val (A.take n)=0:=by
 constructor
 ·intro h0;subst h0;rfl
 ·intro h0;have h1:=h.2.2.2;rw[h0]at h1;exact h1
theorem LW{x y:Nat}(hx:x%2=0)(hy:y%2=0):Nat.gcd x y=2*Nat.gcd (x/2) (y/2):=by
 rw[<- Nat.gcd_mul_left,Nat.mul_div_cancel' (Nat.dvd_of_mod_eq_zero hx),Nat.mul_div_cancel' (Nat.dvd_of_mod_eq_zero hy)]
theorem CA{x y:Nat}(hx:x%2=0)(hy:y%2=1):Nat.gcd (x/2) y=Nat.gcd x y:=by
 have h1:x=2*(x/2):=by omega
 have h2:Nat.Coprime 2 y:=by
  rw[Nat.Coprime,Nat.gcd_rec,hy];rfl
 conv=>rhs;rw[h1]
 exact(Nat.Coprime.gcd_mul_left_cancel _ h2).symm
theorem F0{x y:Nat}(h:y<=x):Nat.gcd (x-y) y=Nat.gcd x y:=Nat.gcd_sub_self_left h
theorem ER{t L g V:Nat}(hg:0<g)(h:2^t*g<=V)(hV:V<4294967296^L):t<32*L:=by
 rw[se]at hV;have h1:=mul_le_mul_left (2^t) (show 1<=g from hg);rcases lt_or_ge t (32*L)with h2 |h2
 ·exact h2
 ·have:=nZ h2;omega
theorem BG(A D:List Nat)(n p:Nat)(hA:Ws A)(hD:Ws D)(hn:n<=A.length)(hp:p<=D.length)(la:A.length<=aq)(hle:val (D.take p)<=val (A.take n)) :
  Con prog 391 [.ms 901 1 0 n,.ms 902 1 0 p] [(902,some (.row 1 (D.map u32))),(901,some (.row 1 (A.map u32)))] (.tup [])
   [(902,some (.row 1 (D.map u32))),(901,some (.row 1 ((wr A 0 (ba n (val (A.take n)-val (D.take p)))).map u32)))]:=by
 have h1:=Con.rk 901 rfl rfl (HL A (D.take p) n hA (fU hD p) hn la hle);refine Con.borrow (args:=[.ms 901 1 0 n,ws (D.take p)]) 902 1 (D.map u32) rfl rfl rfl ?_ rfl ?_ h1
 ·intro j x' hj
  match j,hj with
  |0,hj=>cases hj;exact .inl rfl
  |1,hj=>cases hj;exact .inr ⟨0,p,rfl,by simpa using hp,by rw[ph];rfl⟩
 ·intro k' x h;obtain⟨_,h⟩:=fu h;cases h;exact Du _
theorem wB{A:List Nat}(hA:Ws A){i:Nat}:nP .and .u32 (ah A i:Int) 1=((ah A i%2:Nat):Int) :=
 (EJ (y:=1) (bP hA i) oz).trans (by rw[Nat.and_one_is_mod])
theorem Tb(a b:List Nat)(ha:Ws a)(hb:Ws b)(na:Nz a)(nb:Nz b)(la:a.length+b.length<aq):FP 360 [ws a,ws b] (ws (ofNat (Nat.gcd (val a) (val b)))):=by
 have la':=la;unfold aq at la;have ea:=oU ha na;have eb:=oU hb nb;obtain⟨L,hL⟩:∃L,L=a.length+b.length:=⟨_,rfl⟩
 obtain⟨G,hG⟩:∃G,G=Nat.gcd (val a) (val b):=⟨_,rfl⟩
 rw[<- hG];refine af func360 ?_;refine gt (ay (A0 901 rfl a ha (by unfold aq;omega)) (cI rfl) aE rfl rfl) ?_;refine gt (ay (A0 902 rfl b hb (by unfold aq;omega)) (cI rfl) aE rfl rfl) ?_ (2,0);refine gW (Wk.of (sl:=[(0,some (.ms 901 1 0 a.length)),(1,some (.ms 902 1 0 b.length))]) (hp:=[(901,some (.row 1 (a.map u32))),(902,some (.row 1 (b.map u32)))]) (.cons rfl (Sub.of (by rw[ea])) (.cons rfl (Sub.of (by rw[eb])) .nil)) (.k (.k .nil))) ?_;refine gC (fun t12=>?_) (fun t12=>?_) (st1:=(3,0))
 ·have h0 : a=[] := List.length_eq_zero_iff.1 (by simpa[aa]using t12);refine gW ((Wk.freeze (k:=902) rfl).trans<|Wk.of (sl:=[(1,some (ws b))]) (hp:=[]) (.cons rfl (Sub.of (bO (by simp))) .nil) .nil) ?_;refine ae ?_;rw[hG,h0];simp[val,eb]
 have h0:a≠[]:=fun h=>by rw[h]at t12;simp[aa]at t12
 refine gC (fun t16=>?_) (fun t16=>?_) (st1:=(5,0))
 ·have h1 : b=[] := List.length_eq_zero_iff.1 (by simpa[aa]using t16);refine gW ((Wk.freeze (k:=901) rfl).trans<|Wk.of (sl:=[(0,some (ws a))]) (hp:=[]) (.cons rfl (Sub.of (bO (by simp))) .nil) .nil) ?_;refine ae ?_;rw[hG,h1];simp[val,ea]
 have h1:b≠[]:=fun h=>by rw[h]at t16;simp[aa]at t16
 have va:=nW na h0;have vb:=nW nb h1;have hGp:0<G:=by rw[hG];exact Nat.gcd_pos_of_pos_left _ va
 have hGa:G<=val a:=by rw[hG];exact Nat.gcd_le_left _ va
 have vla:=bV a ha;refine FU [] [] (fun(A D:List Nat)(n p t:Nat)=>[(0,some (.ms 901 1 0 n)),(1,some (.ms 902 1 0 p)),(5,some (i64 t))]) (fun A D _ _ _=>[(901,some (.row 1 (A.map u32))),(902,some (.row 1 (D.map u32)))]) (fun A D n p t=>ip L A n/\ip L D p/\0<val (A.take n)/\0<val (D.take p)/\G=2^t*Nat.gcd (val (A.take n)) (val (D.take p))) (fun A _ n _ _=>val (A.take n)) a b a.length b.length 0 ⟨⟨ha,le_refl _,by omega,by rw[take_length,ea]⟩,⟨hb,le_refl _,by omega,by rw[take_length,eb]⟩,by rw[take_length];exact va,by rw[take_length];exact vb,by rw[take_length,take_length,hG];simp⟩ ?_
 rintro A D n p t ⟨gA,gD,pA,pD,hg⟩ K1 J1;refine gs (bR (n:=0) (.tmp rfl) (.const _) T43 rfl T349 rfl oz (by have:=(hO gA pA).1;omega) rfl) ?_;refine gs (d6 (.tmp rfl) rfl (bZ (i:=0) (by have:=(hO gA pA).1;have:=gA.2.1;omega)) T349 rfl rfl rfl) ?_;refine gs (i7 (.tmp rfl) (.const _) rfl (wB gA.1) rfl) ?_;refine gs (er rfl rfl rfl (fun h=>bR (n:=0) (.opt rfl (o1 h)) (.const _) T43 rfl T349 rfl oz (by have:=(hO gD pD).1;omega) rfl)) ?_;refine gs (er rfl rfl rfl (fun h=>d6 (.opt rfl (o1 h)) rfl (bZ (i:=0) (by have:=(hO gD pD).1;have:=gD.2.1;omega)) T349 rfl rfl rfl)) ?_;refine gs (er rfl rfl rfl (fun h=>i7 (.opt rfl (o1 h)) (.const _) rfl (wB gD.1) rfl)) ?_;refine gC (fun t29=>?_) (fun t29=>?_)
 ·have hev:ah A 0%2=0/\ah D 0%2=0:=by
   have:=t29;simp[aa]at this;omega
  have xA:val (A.take n)%2=0:=by rw[(hO gA pA).2];exact hev.1
  have xD:val (D.take p)%2=0:=by rw[(hO gD pD).2];exact hev.2
  obtain⟨k1,k2,k3⟩:=jb gA (v:=val (A.take n)/2) oz;obtain⟨m1,m2,m3⟩:=jb gD (v:=val (D.take p)/2) oz;have ht:t<32*a.length:=ER (Nat.gcd_pos_of_pos_left _ pA) (by rw[<- hg];exact hGa) vla;refine gt (ay (Con.rekeyR 901 rfl (wM A n gA.1 gA.2.1 (by have:=gA.2.2.1;unfold aq;omega))) (cI rfl) aE rfl rfl) ?_;refine gt (ay (Con.rekeyR 902 rfl (wM D p gD.1 gD.2.1 (by have:=gD.2.2.1;unfold aq;omega))) (cI rfl) aE rfl rfl) ?_;refine ga (show _=((t+1:Nat):Int) by rw[cU oz];omega) ?_;exact Hk J1 (wr A 0 (ba n (val (A.take n)/2))) (wr D 0 (ba p (val (D.take p)/2))) ((ofNat (val (A.take n)/2)).length) ((ofNat (val (D.take p)/2)).length) (t+1) ⟨k1,m1,by rw[k2];omega,by rw[m2];omega,by rw[k2,m2,hg,LW xA xD,Nat.pow_succ];grind⟩ (by rw[k2];omega)
 have hod:val (A.take n)%2=1\/val (D.take p)%2=1:=by
  rw[(hO gA pA).2,(hO gD pD).2];have:=t29;simp[aa]at this;omega
 refine PL [5] [] (fun(A1 D1:List Nat)(n1 p1:Nat)=>[(0,some (.ms 901 1 0 n1)),(1,some (.ms 902 1 0 p1))]) (fun A1 D1 _ _=>[(901,some (.row 1 (A1.map u32))),(902,some (.row 1 (D1.map u32)))]) (fun A1 D1 n1 p1=>ip L A1 n1/\ip L D1 p1/\0<val (D1.take p1)/\(val (A1.take n1)%2=1\/val (D1.take p1)%2=1)/\G=2^t*Nat.gcd (val (A1.take n1)) (val (D1.take p1))) (fun A1 D1 n1 p1=>val (A1.take n1)+val (D1.take p1)) A D n p ⟨gA,gD,pD,hod,hg⟩ ?_
 rintro A1 D1 n1 p1 ⟨gA1,gD1,pD1,hod1,hg1⟩ K2 J2;refine gC (fun t38=>?_) (fun t38=>?_) (st2:=(19,0))
 ·have pA1:0<val (A1.take n1):=by
   have h3:n1≠0:=by have:=t38;simp[aa]at this;omega
   exact Nat.pos_of_ne_zero (fun h=>h3 ((D8 gA1).2 h))
  refine gz [5] [902] (fun(A2:List Nat)(n2:Nat)=>[(0,some (.ms 901 1 0 n2)),(1,some (.ms 902 1 0 p1))]) (fun A2 _=>[(901,some (.row 1 (A2.map u32)))]) (fun A2 n2=>ip L A2 n2/\0<val (A2.take n2)/\val (A2.take n2)<=val (A1.take n1)/\(val (A2.take n2)%2=1\/val (D1.take p1)%2=1)/\Nat.gcd (val (A2.take n2)) (val (D1.take p1))=Nat.gcd (val (A1.take n1)) (val (D1.take p1))) (fun A2 n2=>val (A2.take n2)) A1 n1 ⟨gA1,pA1,le_refl _,hod1,rfl⟩ ?_
  rintro A2 n2 ⟨gA2,pA2,lA2,hod2,hg2⟩ K3 J3;refine gs (bR (n:=0) (.tmp rfl) (.const _) T43 rfl T349 rfl oz (by have:=(hO gA2 pA2).1;omega) rfl) ?_;refine gs (d6 (.tmp rfl) rfl (bZ (i:=0) (by have:=(hO gA2 pA2).1;have:=gA2.2.1;omega)) T349 rfl rfl rfl) ?_;refine gs (i7 (.tmp rfl) (.const _) rfl (wB gA2.1) rfl) ?_;refine gC (fun t43=>?_) (fun t43=>?_)
  ·have xA2:val (A2.take n2)%2=0:=by
    rw[(hO gA2 pA2).2];have:=t43;simp[aa]at this;omega
   obtain⟨k1,k2,k3⟩:=jb gA2 (v:=val (A2.take n2)/2) oz;refine gt (ay (Con.rekeyR 901 rfl (wM A2 n2 gA2.1 gA2.2.1 (by have:=gA2.2.2.1;unfold aq;omega))) (cI rfl) aE rfl rfl) ?_;exact fM J3 (wr A2 0 (ba n2 (val (A2.take n2)/2))) ((ofNat (val (A2.take n2)/2)).length) ⟨k1,by rw[k2];omega,by rw[k2];omega,.inr oz,by rw[k2,CA xA2 oz,hg2]⟩ (by rw[k2];omega)
  have xA2:val (A2.take n2)%2=1:=by
   rw[(hO gA2 pA2).2];have:=t43;simp[aa]at this;omega
  refine gz [5] [901] (fun(D2:List Nat)(p2:Nat)=>[(0,some (.ms 901 1 0 n2)),(1,some (.ms 902 1 0 p2))]) (fun D2 _=>[(902,some (.row 1 (D2.map u32)))]) (fun D2 p2=>ip L D2 p2/\0<val (D2.take p2)/\val (D2.take p2)<=val (D1.take p1)/\Nat.gcd (val (A2.take n2)) (val (D2.take p2))=Nat.gcd (val (A2.take n2)) (val (D1.take p1))) (fun D2 p2=>val (D2.take p2)) D1 p1 ⟨gD1,pD1,le_refl _,rfl⟩ ?_;rintro D2 p2 ⟨gD2,pD2,lD2,hg3⟩ K4 J4;refine gs (bR (n:=0) (.tmp rfl) (.const _) T43 rfl T349 rfl oz (by have:=(hO gD2 pD2).1;omega) rfl) ?_;refine gs (d6 (.tmp rfl) rfl (bZ (i:=0) (by have:=(hO gD2 pD2).1;have:=gD2.2.1;omega)) T349 rfl rfl rfl) ?_;refine gs (i7 (.tmp rfl) (.const _) rfl (wB gD2.1) rfl) ?_;refine gC (fun t50=>?_) (fun t50=>?_)
  ·have xD2:val (D2.take p2)%2=0:=by
    rw[(hO gD2 pD2).2];have:=t50;simp[aa]at this;omega
   obtain⟨k1,k2,k3⟩:=jb gD2 (v:=val (D2.take p2)/2) oz;refine gt (ay (Con.rekeyR 902 rfl (wM D2 p2 gD2.1 gD2.2.1 (by have:=gD2.2.2.1;unfold aq;omega))) (cI rfl) aE rfl rfl) ?_;exact fM J4 (wr D2 0 (ba p2 (val (D2.take p2)/2))) ((ofNat (val (D2.take p2)/2)).length) ⟨k1,by rw[k2];omega,by rw[k2];omega,by rw[k2,Nat.gcd_comm,CA xD2 xA2,Nat.gcd_comm,hg3]⟩ (by rw[k2];omega)
  have xD2:val (D2.take p2)%2=1:=by
   rw[(hO gD2 pD2).2];have:=t50;simp[aa]at this;omega
  refine gt (ay (P4 901 902 oz A2 D2 n2 p2 gA2.1 gD2.1 gA2.2.1 gD2.2.1) (bB rfl rfl) aE rfl rfl) ?_;refine gC (fun t56=>?_) (fun t56=>?_) (st1:=(17,0)) (st2:=(77777,0))
  ·have hlt:val (A2.take n2)<val (D2.take p2):=by
    rcases lt_or_ge (val (A2.take n2)) (val (D2.take p2))with h |h
    ·exact h
    ·rw[if_neg oz]at t56;split at t56 <;> cases t56
   refine gW (Wk.o (sl:=[(0,some (.ms 902 1 0 p2)),(1,some (.ms 901 1 0 n2)),(5,some (i64 t))]) (hp:=[(901,some (.row 1 (A2.map u32))),(902,some (.row 1 (D2.map u32)))])) ?_ (17,0);refine gW (Wk.rk (k:=901) (d:=903) rfl rfl) ?_ (17,0);refine gW (Wk.rk (k:=902) (d:=901) rfl rfl) ?_ (17,0);refine gW (Wk.rk (k:=903) (d:=902) rfl rfl) ?_ (17,0);refine gW (Wk.of (sl:=[(0,some (.ms 901 1 0 p2)),(1,some (.ms 902 1 0 n2)),(5,some (i64 t))]) (hp:=[(901,some (.row 1 (D2.map u32))),(902,some (.row 1 (A2.map u32)))]) (.cons rfl (Sub.refl _) (.cons rfl (Sub.refl _) (.cons rfl (Sub.refl _) .nil))) (.k (.k .nil))) ?_ (17,0);obtain⟨A3,D3,n3,p3,gA3,gD3,xA3,xD3,hle3,hg4,hs3,e1,e2,e3,e4⟩:∃A3 D3 n3 p3,ip L A3 n3/\ip L D3 p3/\val (A3.take n3)%2=1/\val (D3.take p3)%2=1/\val (D3.take p3)<=val (A3.take n3)/\Nat.gcd (val (A3.take n3)) (val (D3.take p3))=Nat.gcd (val (A2.take n2)) (val (D2.take p2))/\val (A3.take n3)+val (D3.take p3)=val (A2.take n2)+val (D2.take p2)/\A3=D2/\n3=p2/\D3=A2/\p3=n2:=⟨D2,A2,p2,n2,gD2,gA2,xD2,xA2,by omega,Nat.gcd_comm _ _,Nat.add_comm _ _,rfl,rfl,rfl,rfl⟩
   rw[<- e1,<- e2,<- e3,<- e4];refine go ?_;refine gt (ay (BG A3 D3 n3 p3 gA3.1 gD3.1 gA3.2.1 gD3.2.1 (by have:=gA3.2.2.1;unfold aq;omega) hle3) (bB rfl rfl) aE rfl rfl) ?_;refine gt (ay (Con.rekeyR 901 rfl (Be (wr A3 0 (ba n3 (val (A3.take n3)-val (D3.take p3)))) n3 (pz gA3.1 (jY _ _)) (by rw[lR (by rw[fc];have:=gA3.2.1;omega)];exact gA3.2.1) (by rw[lR (by rw[fc];have:=gA3.2.1;omega)];have:=gA3.2.2.1;unfold aq;omega))) (cI rfl) aE rfl rfl) ?_;exact Cg J2 (wr A3 0 (ba n3 (val (A3.take n3)-val (D3.take p3)))) D3 ((ofNat (val (A3.take n3)-val (D3.take p3))).length) p3 ⟨(jb gA3 oz).1,gD3,by omega,.inr xD3,by rw[(jb gA3 (v:=val (A3.take n3)-val (D3.take p3)) oz).2.1,F0 hle3,hg4,hg3,hg2,hg1]⟩ (by rw[(jb gA3 (v:=val (A3.take n3)-val (D3.take p3)) oz).2.1];omega) (hw:=Wk.of (.cons rfl (Sub.of (by rw[(jb gA3 (v:=val (A3.take n3)-val (D3.take p3)) oz).2.2])) (.k (.k .nil))) (.k (.k .nil)))
  have hlt:val (D2.take p2)<=val (A2.take n2):=by
   rcases lt_or_ge (val (A2.take n2)) (val (D2.take p2))with h |h
   ·rw[if_pos h]at t56;cases t56
   ·exact h
  refine gW (Wk.o (sl:=[(0,some (.ms 901 1 0 n2)),(1,some (.ms 902 1 0 p2)),(5,some (i64 t))]) (hp:=[(901,some (.row 1 (A2.map u32))),(902,some (.row 1 (D2.map u32)))])) ?_ (77777,0);obtain⟨A3,D3,n3,p3,gA3,gD3,xA3,xD3,hle3,hg4,hs3,e1,e2,e3,e4⟩:∃A3 D3 n3 p3,ip L A3 n3/\ip L D3 p3/\val (A3.take n3)%2=1/\val (D3.take p3)%2=1/\val (D3.take p3)<=val (A3.take n3)/\Nat.gcd (val (A3.take n3)) (val (D3.take p3))=Nat.gcd (val (A2.take n2)) (val (D2.take p2))/\val (A3.take n3)+val (D3.take p3)=val (A2.take n2)+val (D2.take p2)/\A3=A2/\n3=n2/\D3=D2/\p3=p2:=⟨A2,D2,n2,p2,gA2,gD2,xA2,xD2,hlt,rfl,rfl,rfl,rfl,rfl,rfl⟩
  rw[<- e1,<- e2,<- e3,<- e4];obtain⟨k1,k2,k3⟩:=jb gA3 (v:=val (A3.take n3)-val (D3.take p3)) oz;refine go ?_;refine gt (ay (BG A3 D3 n3 p3 gA3.1 gD3.1 gA3.2.1 gD3.2.1 (by have:=gA3.2.2.1;unfold aq;omega) hle3) (bB rfl rfl) aE rfl rfl) ?_;refine gt (ay (Con.rekeyR 901 rfl (Be (wr A3 0 (ba n3 (val (A3.take n3)-val (D3.take p3)))) n3 (pz gA3.1 (jY _ _)) (by rw[lR (by rw[fc];have:=gA3.2.1;omega)];exact gA3.2.1) (by rw[lR (by rw[fc];have:=gA3.2.1;omega)];have:=gA3.2.2.1;unfold aq;omega))) (cI rfl) aE rfl rfl) ?_;exact Cg J2 (wr A3 0 (ba n3 (val (A3.take n3)-val (D3.take p3)))) D3 ((ofNat (val (A3.take n3)-val (D3.take p3))).length) p3 ⟨(jb gA3 oz).1,gD3,by omega,.inr xD3,by rw[(jb gA3 (v:=val (A3.take n3)-val (D3.take p3)) oz).2.1,F0 hle3,hg4,hg3,hg2,hg1]⟩ (by rw[(jb gA3 (v:=val (A3.take n3)-val (D3.take p3)) oz).2.1];omega) (hw:=Wk.of (.cons rfl (Sub.of (by rw[(jb gA3 (v:=val (A3.take n3)-val (D3.take p3)) oz).2.2])) (.k (.k .nil))) (.k (.k .nil)))
 have zA1:val (A1.take n1)=0:=by
  have h3:n1=0:=by have:=t38;simp[aa]at this;omega
  exact(D8 gA1).1 h3
 rw[zA1,Nat.gcd_zero_left]at hg1;refine gW ((Wk.freeze (k:=902) rfl).trans<|Wk.of (sl:=[(1,some (ws (ofNat (val (D1.take p1))))),(5,some (i64 t))]) (hp:=[]) (.cons rfl (Sub.of (by rw[vg (by rw[length_map];have:=gD1.2.1;omega),ph,<- Ru gD1])) (.k .nil)) .nil) ?_;refine aM [64] [] (fun(i:Nat)=>[(1,some (ws (ofNat (2^i*val (D1.take p1))))),(65,some (i64 i))]) (fun _=>[]) (fun i=>i<=t) (fun i=>t-i) 0 (zero_le _) ?_ (h1:=(.cons rfl (Sub.of (by rw[Nat.pow_zero,Nat.one_mul])) (.k .nil)));rintro i hit K5 J5;refine gC (fun t66=>?_) (fun t66=>?_)
 ·have hin : i < t := by simpa [aa] using t66
  have h3:2^i*val (D1.take p1)<=G:=by rw[hg1];exact mul_le_mul_right _ (nZ oz)
  have h4:(ofNat (2^i*val (D1.take p1))).length<=a.length:=eT oz;have ht:t<32*a.length:=ER pD1 (by rw[<- hg1];exact hGa) vla;refine gc (Af _ _ (dc _) (dc _) (by unfold aq;omega) (by unfold aq;omega)) ?_;refine ga (cU oz) ?_;exact aG J5 (i+1) hin (hw:=Wk.of (.cons rfl (Sub.of (by rw[b7,Nat.pow_succ];congr 2;grind)) (.k (.k .nil))) .nil)
 have hin:i=t:=by have:t<=i:=(by simpa[aa]using t66);omega
 subst hin;refine ae ?_;rw[hg1]
theorem Bn(a b:Wh)(ha:a.ok)(hb:b.ok)(la:a.mag.length+b.mag.length<aq):FP 280 [a.av,b.av] (zA (Int.gcd a.z b.z)):=by
 have h1:=Wh.m_le (w:=a);have h2:=Wh.m_le (w:=b);have h3:Int.gcd a.z b.z=Nat.gcd (val a.m) (val b.m):=by rw[Int.gcd,Wh.abs,Wh.abs]
 have h4:(ofNat (Nat.gcd (val a.m) (val b.m))).length<=a.m.length+b.m.length:=by
  rcases Nat.eq_zero_or_pos (val a.m)with h |h
  ·rw[h,Nat.gcd_zero_left,Wh.ofNat_m hb];omega
  ·exact le_trans (eT (lt_of_le_of_lt (Nat.gcd_le_left _ h) (bV _ (Wh.ws ha)))) oz
 refine af func280 ?_;refine gc (ku a ha) ?_;refine gc (ku b hb) ?_;refine gc (Tb a.m b.m (Wh.ws ha) (Wh.ws hb) a.nz b.nz oz) ?_;refine gc (jV false _ (dc _) oz) ?_;refine gD ?_;refine ae ?_;rw[b7,h3];rfl
theorem Nf(a b:Wh)(ha:a.ok)(hb:b.ok)(la:a.mag.length+1<aq)(lb:b.mag.length<aq)(h0:b.z≠0):FP 281 [a.av,b.av] (.tup [zA (a.z/b.z),zA (a.z%b.z),i64 0]):=by
 have hm1:=Wh.m_le (w:=a);have hm2:=Wh.m_le (w:=b);have hb1:val b.m≠0:=by have:=Wh.abs (w:=b);omega
 have hl1:(ofNat (val a.m/val b.m)).length<=a.m.length:=eT (lt_of_le_of_lt (Nat.div_le_self _ _) (bV _ (Wh.ws ha)));have hmod:=Nat.mod_lt (val a.m) (show 0<val b.m by omega);have hl2:(ofNat (val a.m%val b.m)).length<=b.m.length:=eT (Nat.lt_trans hmod (bV _ (Wh.ws hb)));have hl3:(ofNat (val a.m/val b.m+1)).length<=a.m.length+1:=eT (by have h7:=lt_of_le_of_lt (Nat.div_le_self (val a.m) (val b.m)) (bV _ (Wh.ws ha));rw[Nat.pow_succ];generalize val a.m/val b.m=m at *;omega);have hl4:(ofNat (val b.m-val a.m%val b.m)).length<=b.m.length:=eT (by have:=bV _ (Wh.ws hb);omega);have hv1:val [1]=1:=rfl;refine af func281 ?_;refine gc (xE b hb) ?_;refine gC (fun t11=>?_) (fun t11=>?_) (st1:=(2,0));exact absurd (Int.sign_eq_zero_iff_zero.1 (by simpa[aa]using t11)) h0;refine gc (ku a ha) ?_;refine gc (ku b hb) ?_;refine gc (Q2 a.m b.m (Wh.ws ha) (Wh.ws hb) a.nz hb1 oz oz) ?_;refine gD ?_;refine gc (iJ a ha) ?_;refine ci ?_;refine gC (fun t28=>?_) (fun t28=>?_)
 ·have h1:a.n = true /\ 0 < val a.m % val b.m:=uL.1 t28;obtain ⟨e1,e2⟩:=BB hb1 h1.1 h1.2;refine gc (Af (ofNat (val a.m / val b.m)) [1] (dc _) (sY oz) oz (by unfold aq; simp)) ?_;refine gc (ku b hb) ?_;refine gc (yr b.m (ofNat (val a.m % val b.m)) (Wh.ws hb) (dc _) oz (by rw [b7]; omega)) ?_;refine gD ?_ (6,0);refine gW (Wk.of (sl:=[(2,some (.ptr 2 0)),(3,some (.ptr 3 0)),(4,some (.ptr 4 0)),(5,some (.ptr 5 0)),(7,some (ws (ofNat (val a.m / val b.m + 1)))),(8,some (ws (ofNat (val b.m - val a.m % val b.m))))]) (hp:=[(2,some (.box [bl a.neg,ws a.mag])),(3,some (.box [bl b.neg,ws b.mag])),(4,some (.box [.v (.bool false),nS])),(5,some (.box [.v (.bool false),nS]))]) (.k (.k (.k (.k (.cons rfl (Sub.of (by rw [b7,hv1])) (.cons rfl (Sub.of (by rw [b7])) .nil)))))) (.k (.k (.k (.k .nil))))) ?_
  refine gc (iJ a ha) ?_;refine gc (iJ b hb) ?_;refine gc (by apply jV _ _ (dc _) oz) ?_;refine gc (by apply jV _ _ (dc _) oz) ?_;refine gD ?_;refine gR ?_;exact tv (by rw[b7,b7,e1,show sgn false _=_ from e2];rfl)
 have h1:¬(a.n=true/\0<val a.m%val b.m):=fun h=>Bool.eq_false_iff.1 t28 (uL.2 h)
 obtain⟨e1,e2⟩:=FJ hb1 h1;refine gc (iJ a ha) ?_;refine gc (iJ b hb) ?_;refine gc (by apply jV _ _ (dc _) oz) ?_;refine gc (by apply jV _ _ (dc _) oz) ?_;refine gD ?_;refine gR ?_;exact tv (by rw[b7,b7,e1,show sgn false _=_ from e2];rfl)
theorem rq{x:Int}(hx:Zs x):FP 320 [zA x] (i64 x.sign):=by
 have h:=AF (ofInt x) hx.ok;rw[dJ]at h;exact h
theorem wE{x:Int}(hx:Zs x):FP 350 [zA x] (zA (-x)):=by
 have h:=PA (ofInt x) hx.ok (by have:=hx.len;unfold aq;omega);rw[dJ]at h;exact h
theorem Ch{x y:Int}(hx:Zs x)(hy:Zs y):FP 317 [zA x,zA y] (i64 (f0 x y)):=by
 have h:=U0 (ofInt x) (ofInt y) hx.ok hy.ok;rw[dJ,dJ]at h;exact h
theorem OB{x y:Int}(hx:Zs x)(hy:Zs y):FP 331 [zA x,zA y] (zA (x+y)):=by
 have h:=Nn (ofInt x) (ofInt y) hx.ok hy.ok (by have:=hx.len;unfold aq;omega) (by have:=hy.len;unfold aq;omega);rw[dJ,dJ]at h;exact h
theorem me{x y:Int}(hx:Zs x)(hy:Zs y):FP 332 [zA x,zA y] (zA (x*y)):=by
 have h:=Si (ofInt x) (ofInt y) hx.ok hy.ok (by have:=hx.len;have:=hy.len;unfold aq;omega);rw[dJ,dJ]at h;exact h
theorem N9{x y:Int}(hx:Zs x)(hy:Zs y):FP 318 [zA x,zA y] (zA (Int.gcd x y)):=by
 have h:=CW (ofInt x) (ofInt y) hx.ok hy.ok (by have:=hx.len;unfold aq;omega) (by have:=hy.len;unfold aq;omega);rw[dJ,dJ]at h;exact h
theorem G0{x y:Int}(hx:Zs x)(hy:Zs y)(h0:y≠0):FP 351 [zA x,zA y] (.tup [zA (x/y),zA (x%y),.v .nilIface]):=by
 have h:=Lo (ofInt x) (ofInt y) hx.ok hy.ok (by have:=hx.len;unfold aq;omega) (by have:=hy.len;unfold aq;omega) (by rw[dJ];exact h0);rw[dJ,dJ]at h;exact h
theorem wC{x:Int}(hx:Zs x):FP 195 [zA x] (i64 x.sign):=by
 have h:=xE (ofInt x) hx.ok;rw[dJ]at h;exact h
theorem xW{x:Int}(hx:Zs x):FP 279 [zA x] (zA (-x)):=by
 have h:=Fn (ofInt x) hx.ok (by have:=hx.len;unfold aq;omega);rw[dJ]at h;exact h
theorem Je{x y:Int}(hx:Zs x)(hy:Zs y):FP 291 [zA x,zA y] (i64 (f0 x y)):=by
 have h:=SN (ofInt x) (ofInt y) hx.ok hy.ok (by have:=hx.len;unfold aq;omega) (by have:=hy.len;unfold aq;omega);rw[dJ,dJ]at h;exact h
theorem On{x y:Int}(hx:Zs x)(hy:Zs y):FP 196 [zA x,zA y] (zA (x+y)):=by
 have h:=D0 (ofInt x) (ofInt y) hx.ok hy.ok (by have:=hx.len;unfold aq;omega) (by have:=hy.len;unfold aq;omega);rw[dJ,dJ]at h;exact h
theorem oH{x y:Int}(hx:Zs x)(hy:Zs y):FP 197 [zA x,zA y] (zA (x*y)):=by
 have h:=MS (ofInt x) (ofInt y) hx.ok hy.ok (by have:=hx.len;have:=hy.len;unfold aq;omega);rw[dJ,dJ]at h;exact h
theorem IT{x y:Int}(hx:Zs x)(hy:Zs y):FP 280 [zA x,zA y] (zA (Int.gcd x y)):=by
 have h:=Bn (ofInt x) (ofInt y) hx.ok hy.ok (by have:=hx.len;have:=hy.len;unfold aq;omega);rw[dJ,dJ]at h;exact h
theorem DW{x y:Int}(hx:Zs x)(hy:Zs y)(h0:y≠0):FP 281 [zA x,zA y] (.tup [zA (x/y),zA (x%y),i64 0]):=by
 have h:=Nf (ofInt x) (ofInt y) hx.ok hy.ok (by have:=hx.len;unfold aq;omega) (by have:=hy.len;unfold aq;omega) (by rw[dJ];exact h0);rw[dJ,dJ]at h;exact h
def ko(e:Nat):Value:=match e with |0=>.nilIface |e+1=>.iface 60 (.int .i64 ((e+1:Nat):Int))
def bp(e:Nat):AV:=.v (ko e)
theorem N4(e:Nat):ko e=.nilIface\/∃T u,ko e=.iface T u:=by cases e;exact .inl rfl;exact .inr ⟨_,_,rfl⟩
theorem Df(e:Nat):fp (ko e)=decide (e=0):=by cases e <;> simp[ko,fp]
theorem Rd{e:Nat}(h:fp (ko e)=true):e=0:=by rw[Df]at h;exact of_decide_eq_true h
theorem TT{e:Nat}(h:fp (ko e)=false):e≠0:=by rw[Df]at h;exact of_decide_eq_false h
theorem de{e:Nat}(h:(!fp (ko e))=true):e≠0:=TT (by cases h':fp (ko e) <;> simp_all)
theorem cQ{e:Nat}(h:(!fp (ko e))=false):e=0:=Rd (by cases h':fp (ko e) <;> simp_all)
theorem xr:FP 248 [] (zA 1):=by
 refine af func248 ?_;refine gc (Fq 1 oz) ?_;refine ae ?_
 first |rfl |(simp;done)
theorem sK(r:Rt)(h:r.ok):FP 215 [r.av] (bl r.valid):=by
 have hn:=h.n0;have hd:=h.d0;refine af func215 ?_;refine gl ?_;refine ci ?_;refine gC (fun t14=>?_) (fun t14=>?_)
 ·have h0 : r.num = [] /\ r.den = [] := by simpa [aa] using t14
  refine ae ?_;unfold Rt.valid;rw[if_pos h0];rfl
 have h0:¬(r.num=[]/\r.den=[]):=by
  have:=t14;simp[aa]at this;exact fun h=>this h.1 h.2
 refine gD ?_;refine gl ?_;refine ci ?_;refine bI (fun _=>(ue r.n0 hn)) ?_;refine bI (fun _=>(ue r.d0 hd)) ?_;refine gC (fun t43=>?_) (fun t43=>?_)
 ·have h1:r.valid=false:=AJ h0 t43;refine ae ?_;rw[h1];rfl
 have h1:=Ck h0 t43;refine gc (CW r.n0 r.d0 hn hd h.n0l h.d0l) ?_;refine gc (by apply xr) ?_;refine gc (Ch (Rt.gcd_zs h) vB) ?_;refine ae ?_;rw[h1];rfl
theorem kX(r:Rt)(h:r.ok):FP 319 [r.av] (.tup [zA r.q.num,zA r.q.den]):=by
 have hl1:r.num.length<=137438953472:=h.2.2.1;have hl2:r.den.length<=137438953472:=h.2.2.2;refine af func319 ?_;refine gc (sK r h) ?_;refine ci ?_;refine gC (fun t12=>?_) (fun t12=>?_)
 ·have h0:¬(r.valid=true/\r.num≠[]):=by
   have:=t12;intro h';simp[aa,h'.1,h'.2]at this
  refine gc xr ?_;refine gR ?_;exact dp (by rw[Rt.zero h0];exact Sub.tup (.cons Ih (.cons (.refl _) .nil)))
 have h0:r.valid=true/\r.num≠[]:=by
  have:=t12;cases hv:r.valid
  ·rw[hv]at this;cases this
  ·rw[hv]at this;exact⟨rfl,by simpa[aa]using this⟩
 obtain⟨e1,e2,e3,e4,e5,e6⟩:=Rt.parts h h0.1 h0.2;refine gs (ju T43 rfl T349 rfl rfl rfl) ?_;refine gs (cq (.tmp rfl) rfl rfl (.tmp rfl) T43 rfl T349 rfl rfl (by simp only[length_map];omega) rfl rfl) ?_;refine gD ?_ (4,0);refine gW ((Wk.freeze (k:=20) rfl).trans<|Wk.of (sl:=[(1,some (.ptr 1 0)),(2,some (.ptr 2 0)),(3,some (.ptr 3 0))]) (hp:=[(1,some (.box [bl r.neg,ws r.num,ws r.den])),(2,some (.box [bl r.neg,ws r.num])),(3,some (.box [bl false,nS]))]) aY (.k (.cons rfl (BlkSub.bL (.cons (.refl _) (.cons (.of (bO (by simp))) .nil)) rfl) (.k .nil)))) ?_;refine gs (ju T43 rfl T349 rfl rfl rfl) ?_;refine gs (cq (.tmp rfl) rfl rfl (.tmp rfl) T43 rfl T349 rfl rfl (by simp only[length_map];omega) rfl rfl) ?_;refine gD ?_ (77777,0);refine gW ((Wk.freeze (k:=26) rfl).trans<|Wk.of (sl:=[(2,some (.ptr 2 0)),(3,some (.ptr 3 0))]) (hp:=[(2,some (.box [bl r.neg,ws r.num])),(3,some (.box [bl false,ws r.den]))]) aY (.k (.cons rfl (BlkSub.bL (.cons (.refl _) (.cons (.of (bO (by simp))) .nil)) rfl) .nil))) ?_;refine bj ?_;rw[e1,e2];exact GQ e3 e4 e5
theorem tk{n d:Int}(hn:Zs n)(hd:Zs d)(h0:d≠0):FP 246 [zA n,zA d] (qA (Rat.divInt n d)):=by
 refine af func246 ?_;refine gc (rq hn) ?_;refine gC (fun t9=>?_) (fun t9=>?_)
 ·have e0 : n=0 := Int.sign_eq_zero_iff_zero.1 (by simpa[aa]using t9);refine gR ?_;exact iV (by rw[e0,Rat.zero_divInt];exact gK)
 have e0:n≠0:=fun h=>by rw[h]at t9;cases t9
 refine gc (rq hd) ?_;refine yM [2,3,4] [4] (fun(n1 d1:Int)=>[]) (fun n1 d1=>[(2,some (.box (zA n1).cells)),(3,some (.box (zA d1).cells))]) (fun n1 d1=>0<d1/\n1≠0/\Zs n1/\Zs d1/\Rat.divInt n1 d1=Rat.divInt n d) ?_ ?_
 ·intro K1 J1;refine gC (fun t13=>?_) (fun t13=>?_)
  ·have e1 : d<0 := Int.sign_eq_neg_one_iff_neg.1 (by have := Int.sign_trichotomy d;have h9 : d.sign<0 := (by simpa[aa]using t13);omega);refine gc (wE hn) ?_;refine gc (wE hd) ?_;refine gD ?_;exact qv J1 (-n) (-d) ⟨by omega,by omega,hn.neg,hd.neg,DR n d⟩
  have e1:0<d:=by
   have h9:0<=d.sign:=by simpa[aa]using t13
   have:=Int.sign_nonneg_iff.1 h9;omega
  exact qv J1 n d ⟨e1,e0,hn,hd,rfl⟩
 rintro n1 d1 ⟨f1,f2,f3,f4,f5⟩;refine gc (N9 f3 f4) ?_;refine gc (rq f3) ?_;refine A9 [2,3,4,5] [3,4,5] (fun(n2:Int)=>[(6,some (bl (decide (n1<0))))]) (fun n2=>[(2,some (.box (zA n2).cells))]) (fun n2=>n2=(n1.natAbs:Int)) ?_ ?_
 ·intro K2 J2;refine gC (fun t24=>?_) (fun t24=>?_)
  ·have e2 : n1<0 := Int.sign_eq_neg_one_iff_neg.1 (by have := Int.sign_trichotomy n1;have h9 : n1.sign<0 := (by simpa[aa]using t24);omega);refine gc (wE f3) ?_;exact pE J2 (-n1) oz (hw:=Wk.of (.cons rfl (Sub.of (by rw[show aa .lss n1.sign 0=true from t24,decide_eq_true e2];rfl)) (.k (.k (.k (.k .nil))))) (.k (.k (.k (.k .nil)))))
  have e2:0<n1:=by
   have h9:0<=n1.sign:=by simpa[aa]using t24
   have:=Int.sign_nonneg_iff.1 h9;omega
  exact pE J2 n1 oz (hw:=Wk.of (.cons rfl (Sub.of (by rw[show aa .lss n1.sign 0=false from t24,decide_eq_false oz];rfl)) (.k (.k (.k (.k .nil))))) (.k (.k (.k (.k .nil)))))
 rintro n2 g1;have g2:Zs (Int.gcd n1 d1:Int):=f3.of_le (by rw[natAbs_natCast];exact Nat.le_of_dvd oz (Int.gcd_dvd_natAbs_left _ _));have g3:(Int.gcd n1 d1:Int)≠0:=by have:=Int.gcd_pos_of_ne_zero_left d1 f2;omega
 have g4:Zs n2:=f3.of_le oz;refine gc (G0 g4 g2 g3) ?_;refine gc (G0 f4 g2 g3) ?_;refine ae ?_;rw[<- f5,<- Ns f1 f2,<- g1];rfl
theorem S9{n d:Int}(hn:Zs n)(hd:Zs d):FP 409 [zA n,zA d] (.tup [qA (Rat.divInt n d),bp (if d=0 then 8 else 0)]):=by
 refine af func409 ?_;refine gc (rq hd) ?_;refine gC (fun t8=>?_) (fun t8=>?_)
 ·have h0 : d=0 := Int.sign_eq_zero_iff_zero.1 (by simpa[aa]using t8);refine gR ?_;exact dp (by rw[if_pos h0,h0,Rat.divInt_zero];exact Sub.tup (.cons gK (.cons (.refl _) .nil)))
 have h0:d≠0:=fun h=>by rw[h]at t8;cases t8
 refine gc (tk hn hd h0) ?_;refine bj ?_;rw[if_neg h0];rfl
theorem mo(n:Int)(h:-9223372036854775808<=n/\n<=9223372036854775807):FP 142 [i64 n] (qA n):=by
 have hz:Zs n:=⟨2,by omega,by unfold Lz;simp only[Nat.reducePow];omega⟩
 refine af func142 ?_;refine gc (Fq n h) ?_;refine gc xr ?_;refine gc (tk hz vB oz) ?_;refine ae ?_;exact congrArg qA (Rat.num_divInt_den (n:Rat))
theorem Ix(a:Rt)(ha:a.ok):FP 348 [a.av] (qA (-a.q)):=by
 have za:=ha.qs;refine af func348 ?_;refine gc (kX a ha) ?_;refine gc (wE za.num) ?_;refine gc (tk za.num.neg za.den (by have:=a.q.den_nz;omega)) ?_;refine gD ?_;refine ae ?_;rw[Do];rfl
theorem vC(a:Rt)(ha:a.ok):FP 216 [a.av] (i64 (bH a.q)):=by
 refine af func216 ?_;refine gc (kX a ha) ?_;refine gc (rq ha.qs.num) ?_;refine ae ?_;rw[GF]
theorem CL(a b:Rt)(ha:a.ok)(hb:b.ok):FP 370 [a.av,b.av] (i64 (bH (a.q-b.q))):=by
 have za:=ha.qs;have zb:=hb.qs;have m1:=za.mul zb;have m2:=zb.mul za;refine af func370 ?_;refine gc (kX a ha) ?_;refine gc (kX b hb) ?_;refine gc (me za.num zb.den) ?_;refine gc (me zb.num za.den) ?_;refine gc (Ch m1.1 m2.1) ?_;refine gD ?_;refine ae ?_;rw[Jq]
theorem ou(a b:Rt)(ha:a.ok)(hb:b.ok):FP 233 [a.av,b.av] (qA (a.q+b.q)):=by
 have za:=ha.qs;have zb:=hb.qs;have m1:=za.mul zb;have m2:=zb.mul za;refine af func233 ?_;refine gc (kX a ha) ?_;refine gc (kX b hb) ?_;refine gc (me za.num zb.den) ?_;refine gc (me zb.num za.den) ?_;refine gc (OB m1.1 m2.1) ?_;refine gc (me za.den zb.den) ?_;refine gc (tk (za.cross zb) m1.2.2.1 (Int.mul_ne_zero (by have:=a.q.den_nz;omega) (by have:=b.q.den_nz;omega))) ?_;refine gD ?_;refine ae ?_;rw[xh];rfl
theorem QC(a b:Rt)(ha:a.ok)(hb:b.ok):FP 252 [a.av,b.av] (qA (a.q-b.q)):=by
 refine af func252 ?_;refine gc (Ix b hb) ?_;refine gc (ou a (rt (-b.q)) ha hb.qs.neg.ok) ?_;refine gD ?_;refine ae ?_;rw[bA,<- Rat.sub_eq_add_neg];rfl
theorem De(a b:Rt)(ha:a.ok)(hb:b.ok):FP 274 [a.av,b.av] (qA (a.q*b.q)):=by
 have za:=ha.qs;have zb:=hb.qs;have m1:=za.mul zb;refine af func274 ?_;refine gc (kX a ha) ?_;refine gc (kX b hb) ?_;refine gc (me za.num zb.num) ?_;refine gc (me za.den zb.den) ?_;refine gc (tk m1.2.1 m1.2.2.1 (Int.mul_ne_zero (by have:=a.q.den_nz;omega) (by have:=b.q.den_nz;omega))) ?_;refine gD ?_;refine ae ?_;rw[AZ];rfl
theorem Bo(a b:Rt)(ha:a.ok)(hb:b.ok):FP 388 [a.av,b.av] (.tup [qA (a.q/b.q),bp (if b.q=0 then 8 else 0)]):=by
 have za:=ha.qs;have zb:=hb.qs;have m1:=za.mul zb;refine af func388 ?_;refine gc (kX a ha) ?_;refine gc (kX b hb) ?_;refine gc (me za.num zb.den) ?_;refine gc (me za.den zb.num) ?_;refine gc (S9 m1.1 m1.2.2.2) ?_;refine gD ?_;refine bj ?_
 have e1:((a.q.den:Int)*b.q.num=0)=(b.q=0):=by
  apply propext;rw[<- Rat.num_eq_zero,Int.mul_eq_zero];exact⟨fun h=>h.resolve_left (by have:=a.q.den_nz;omega),.inr⟩
 simp only[xU,e1];rfl
structure Pq where
  c:List Rat
  s:List Rat
  x:List Rat
  y:List Rat
def Pq.av(p:Pq):AV:=.agg [nA p.c,nA p.s,nA p.x,nA p.y]
structure Pq.ok(n e:Nat)(p:Pq):Prop where
  c:Nm n e p.c
  s:Nm n e p.s
  x:Nm n e p.x
  y:Nm n e p.y
def Hw(p:Pse):Pq:=⟨sh 0 (du p.turn.half p.turn.t.q:Rat),sh 0 (dw p.turn.half p.turn.t.q:Rat),sh 0 (p.at_.x.q:Rat),sh 0 (p.at_.y.q:Rat)⟩
def BW(ps:List Pse):Nat:=if ps.all Pse.ok=true then 0 else 2
def ofL(ps:List Pse):List Pq:=if ps.all Pse.ok=true then ps.map Hw else[]
theorem tE{half:Bool}{t:Rat}{e:Nat}(h:Qb e t):Qb (4*e+6) (du half t):=by
 unfold du;split
 ·exact Qb.one.neg.mono oz
 ·exact((Qb.one.sub (h.mul h)).div (Qb.one.add (h.mul h))).mono oz
theorem rU{half:Bool}{t:Rat}{e:Nat}(h:Qb e t):Qb (4*e+6) (dw half t):=by
 unfold dw;split
 ·exact Qb.zero.mono oz
 ·exact((h.add h).div (Qb.one.add (h.mul h))).mono oz
def TC(ts:LL)(b:Pl)(w:Pq):Bool :=
  gG ts (ad ts.length (lq b.c)) (ad ts.length w.c)&&gG ts (ad ts.length (lq b.s)) (ad ts.length w.s)&&gG ts (ad ts.length (lq b.x)) (ad ts.length w.x)&&gG ts (ad ts.length (lq b.y)) (ad ts.length w.y)
def mE(a:As)(ps:List Pse):Nat :=
  if a9 a.rs≠0 then a9 a.rs else if BW ps≠0 then BW ps else if a.bs.length≠ps.length then 10 else eF (a.bs.map (fun b=>aV a.rs b.l))
def mB(a:As)(ps:List Pse):Bool:=decide (mE a ps=0)&&(a.bs.zip ps).all (fun z=>TC (llq a.rs) z.1 (Hw z.2))
theorem DE{α:Type}{l:List α}{f:α->Nat}{i:Nat}{x:α}(hx:l[i]?=some x)(hb:∀y∈l.take i,f y=0)(hn:f x≠0):eF (l.map f)=f x:=by
 have e:l=l.take i++l.drop i:=(List.take_append_drop i l).symm;have hi:=(List.getElem?_eq_some_iff.1 hx).1
 have e2:l.drop i=x::l.drop (i+1):=by
  rw[List.drop_eq_getElem_cons hi,(List.getElem?_eq_some_iff.1 hx).2]
 rw[e,map_append,tG _ _ (ov (fun v hv=>by
  obtain⟨y,hy,rfl⟩:=List.mem_map.1 hv;exact hb y hy)),e2]
 show(if f x≠0 then f x else _)=_;rw[if_pos hn]
theorem Kn{rs:List (List Rt)}{b:Pl}{E:Nat}(h:aV rs b.l=0)(hb:∀x∈b.l,NR x E)(h5:rs.length<=5) :
  b.av=Pq.av ⟨lq b.c,lq b.s,lq b.x,lq b.y⟩/\Pq.ok rs.length E ⟨lq b.c,lq b.s,lq b.x,lq b.y⟩:=by
 have h1:=(jw h).2
 have g:∀x∈b.l,nR x=nA (lq x)/\Nm rs.length E (lq x):=fun x hx=>by
  obtain⟨e1,e2⟩:=(hb x hx).num (h1 x hx);exact⟨e1,h5,e2,(hb x hx).cb⟩
 have c:=g b.c (by simp[Pl.l]);have s:=g b.s (by simp[Pl.l]);have x:=g b.x (by simp[Pl.l]);have y:=g b.y (by simp[Pl.l]);exact⟨by unfold Pl.av Pq.av;rw[c.1,s.1,x.1,y.1],c.2,s.2,x.2,y.2⟩
instance:Inhabited Tn:=⟨⟨⟨false,[],[]⟩,false⟩⟩
def dG(n:Nat)(ok:Nat->Bool):Option Nat:=(List.range n).find? (fun i=>!ok i)
theorem iK{n i:Nat}{ok:Nat->Bool}(hi:i<n)(h:∀j,j<i->ok j=true)(he:ok i=false):dG n ok=some i:=by
 unfold dG;rw[List.find?_range_eq_some];exact⟨by rw[he];rfl,by simpa using hi,fun j hj=>by rw[h j hj];rfl⟩
theorem jl{n:Nat}{ok:Nat->Bool}(h:∀j,j<n->ok j=true):dG n ok=none:=by
 unfold dG;rw[List.find?_range_eq_none];exact fun j hj=>by rw[h j hj];rfl
theorem Kv{n:Nat}{ok:Nat->Bool}(h:dG n ok=none):∀j,j<n->ok j=true:=by
 unfold dG at h;rw[List.find?_range_eq_none]at h;intro j hj;have:=h j hj;simpa using this
def mw:Option Nat->Int
  |none=>-1
  |some i=>i
abbrev jq(ts:LL)(x:List Rt):T ts.length:=ad ts.length (lq x)
def oy(ts:LL)(b:Pl)(m:Mk):T ts.length×T ts.length:=(pN ts (jq ts b.c) (jq ts b.s) (jq ts b.x) m.x.q m.y.q,qB ts (jq ts b.c) (jq ts b.s) (jq ts b.y) m.x.q m.y.q)
def rz(l:Li)(a:As)(body pt:Int):T (llq a.rs).length×T (llq a.rs).length:=oy (llq a.rs) (a.bs.getD body.toNat default) ((cH l body).getD pt.toNat default)
theorem cW{l:Li}(h:aB l=0):io l=0/\eQ l=0/\f9 l=0/\l.bo.length<=8/\l.bo.length≠0:=by
 unfold aB at h;split at h
 ·cases h
 ·split at h
  ·cases h
  ·split at h
   ·cases h
   ·split at h
    ·rename_i h1;exact absurd h h1
    ·rename_i g1 _ h1;split at h
     ·rename_i h2;exact absurd h h2
     ·rename_i h2;exact⟨Decidable.not_not.1 h1,Decidable.not_not.1 h2,h,by omega,by omega⟩
theorem HT{l:Li}(h:aB l=0){i:Nat}{j:Jt}(hj:l.jo[i]?=some j):en l j=0:=by
 have h1:=(cW h).2.1;unfold eQ at h1;split at h1
 ·cases h1
 ·have h2:=rE h1 i (List.getElem?_eq_some_iff.1 hj).1;unfold fT at h2;rw[aD hj]at h2;split at h2
  ·cases h2
  ·split at h2
   ·cases h2
   ·exact h2
theorem dZ{l:Li}(h:aB l=0){i:Nat}{j:Jt}(hj:l.jo[i]?=some j) :
  bn j.a l.bo.length=true/\bn j.b l.bo.length=true/\bn j.point (cH l j.a).length=true/\bn j.on (cH l j.b).length=true/\(j.kind≠0->bn j.to (cH l j.b).length=true):=by
 have h1:=HT h hj;unfold en at h1;split at h1
 ·cases h1
 ·split at h1
  ·cases h1
  ·rename_i h2;split at h1
   ·cases h1
   ·split at h1
    ·cases h1
    ·rename_i h3;have a1:bn j.a l.bo.length = true:=by cases h:bn j.a l.bo.length <;> simp_all
     have a2:bn j.b l.bo.length=true:=by cases h:bn j.b l.bo.length <;> simp_all
     have a3:bn j.point (cH l j.a).length=true:=by cases h:bn j.point (cH l j.a).length <;> simp_all
     have a4:bn j.on (cH l j.b).length=true:=by cases h:bn j.on (cH l j.b).length <;> simp_all
     refine⟨a1,a2,a3,a4,fun hk=>?_⟩;rw[if_neg hk]at h1;split at h1
     ·cases h1
     ·rename_i h4;cases h:bn j.to (cH l j.b).length <;> simp_all
theorem lc{l:Li}(h:aB l=0){i:Nat}{d:Dr}(hd:l.dv[i]?=some d):bn d.body l.bo.length=true:=by
 have h1:=(cW h).2.2.1;unfold f9 at h1;split at h1
 ·cases h1
 ·have h2:=rE h1 i (List.getElem?_eq_some_iff.1 hd).1;unfold dU at h2;rw[aD hd]at h2;split at h2
  ·cases h2
  ·split at h2
   ·cases h2
   ·split at h2
    ·cases h2
    ·rename_i h3;cases h:bn d.body l.bo.length <;> simp_all
theorem Lx{l:Li}(h:aB l=0){n k:Nat}{b:Bd}{m:Mk}(hb:l.bo[n]?=some b)(hm:b.pts[k]?=some m):m.x.valid=true/\m.y.valid=true:=by
 have h2:=rE (cW h).1 n (List.getElem?_eq_some_iff.1 hb).1;unfold ef at h2;rw[aD hb]at h2;split at h2
 ·cases h2
 ·split at h2
  ·cases h2
  ·split at h2
   ·cases h2
   ·have h3:=rE h2 k (List.getElem?_eq_some_iff.1 hm).1;unfold dX at h3;rw[aD hm]at h3;split at h3
    ·cases h3
    ·split at h3
     ·cases h3
     ·split at h3
      ·assumption
      ·cases h3
theorem xK{ts:LL}{r e f:Nat}(tw:Tw ts r){b:Pl}{m:Mk}(hb:Pq.ok ts.length e ⟨lq b.c,lq b.s,lq b.x,lq b.y⟩)(hx:Qb f m.x.q)(hy:Qb f m.y.q) :
  Nm ts.length (3*e+2*f+2*kB r ts.length+10) (sh ts.length (oy ts b m).1)/\Nm ts.length (3*e+2*f+2*kB r ts.length+10) (sh ts.length (oy ts b m).2):=by
 have nx:=Nm.ofQ tw.five (Cb.one hx);have ny:=Nm.ofQ tw.five (Cb.one hy);have h1:=(qK tw hb.c hb.s nx ny).add hb.x;rw[rN]at h1;have h2:=(pX tw hb.c hb.s nx ny).add hb.y;rw[sI]at h2;exact⟨h1.mono oz,h2.mono oz⟩
structure Gr where
  kind:Int
  bo:List Int
  jo:List Int
  driver:Int
instance:Inhabited Gr:=⟨⟨0,[],[],0⟩⟩
def Gr.av(g:Gr):AV:=.agg [i64 g.kind,.lst 1 (g.bo.map i64),.lst 1 (g.jo.map i64),i64 g.driver]
def kn(k:List Bool)(i:Int):Bool:=k.getD i.toNat false
def cB(n:Nat)(b:Int):List Bool:=(List.replicate n false).set b.toNat true
def mX(l:Li)(b:Int):Bool:=l.dv.any (fun d=>decide (d.body=b))
def ep(l:Li)(kw:List Bool)(b:Int):Bool:=!kn kw b&&!mX l b
def kW(kind body:Int)(oth:List Bool)(j:Jt):Bool:=decide (j.kind=kind)&&(decide (j.a=body)&&kn oth j.b||decide (j.b=body)&&kn oth j.a)
def bQ(l:Li)(kind body:Int)(oth:List Bool):Int:=mw (dG l.jo.length (fun i=>!kW kind body oth (l.jo.getD i default)))
def fJ(l:Li)(kw:List Bool)(i:Nat):Bool:=!kn kw (l.dv.getD i default).body&&decide (0<=bQ l 0 (l.dv.getD i default).body kw)
def di(l:Li)(kw:List Bool):Option Gr :=
  (dG l.dv.length (fun i=>!fJ l kw i)).map fun i=>⟨0,[(l.dv.getD i default).body],[bQ l 0 (l.dv.getD i default).body kw],i⟩
def dz(l:Li)(kw:List Bool)(i k:Nat):Bool :=
  (ep l kw i&&ep l kw k)&&(decide (0<=bQ l 0 i kw)&&decide (0<=bQ l 0 k kw)&&decide (0<=bQ l 0 i (cB l.bo.length k)))
def gj(l:Li)(kw:List Bool)(i:Nat):Option Nat:=(dG (l.bo.length-(i+1)) (fun k=>!dz l kw i (i+1+k))).map (·+(i+1))
def gy(l:Li)(kw:List Bool)(i k:Nat):Gr:=⟨1,[i,k],[bQ l 0 i kw,bQ l 0 k kw,bQ l 0 i (cB l.bo.length k)],0⟩
def cM(l:Li)(kw:List Bool):Option Gr :=
  (dG l.bo.length (fun i=>(gj l kw i).isNone)).map fun i=>match gj l kw i with
    |some k=>gy l kw i k
    |none=>default
def fw(l:Li)(kw:List Bool)(i:Nat):Bool:=ep l kw i&&(decide (0<=bQ l 0 i kw)&&decide (0<=bQ l 1 i kw))
def gM(l:Li)(kw:List Bool)(i:Nat):Gr :=
  ⟨if(l.jo.getD (bQ l 1 i kw).toNat default).a=i then 2 else 3,[i],[bQ l 0 i kw,bQ l 1 i kw],0⟩
def d8(l:Li)(kw:List Bool):Option Gr:=(dG l.bo.length (fun i=>!fw l kw i)).map (gM l kw)
def bY(l:Li)(kw:List Bool):Option Gr:=(di l kw).or ((cM l kw).or (d8 l kw))
def bm(kw:List Bool)(bs:List Int):List Bool:=bs.foldl (fun k b=>k.set b.toNat true) kw
def co(l:Li):Nat->List Bool->List Gr->List Bool×List Gr
  |0,kw,out=>(kw,out)
  |n+1,kw,out=>match bY l kw with
    |none=>(kw,out)
    |some g=>co l n (bm kw g.bo) (out++[g])
def cr(l:Li):List Gr:=(co l l.bo.length (cB l.bo.length 0) []).2
def bM(l:Li):List Bool:=(cr l).foldl (fun k g=>bm k g.bo) (cB l.bo.length 0)
def d7(l:Li):List Bool:=(cr l).foldl (fun k g=>bm k g.jo) (List.replicate l.jo.length false)
def eD(k:List Bool):List Int:=((List.range k.length).filter (fun i=>!k.getD i false)).map (fun i:Nat=>((i:Nat):Int))
def cm(l:Li):Nat:=if(eD (bM l)).length+(eD (d7 l)).length=0 then 0 else 7
def aN(l:Li):List Gr:=if cm l=0 then cr l else[]
theorem FO{kind body:Int}{oth:List Bool}{j:Jt}{va vb:Bool}(ea:kn oth j.a=va)(eb:kn oth j.b=vb) :
  cond (aa .eql j.kind kind) (cond (cond (aa .eql j.a body) vb false) true (cond (aa .eql j.b body) va false)) false=kW kind body oth j:=by
 unfold kW;rw[sk,sk,sk,ea,eb,iS,iS,iS,iF]
theorem ia(n:Nat)(b:Int):(cB n b).length=n:=by unfold cB;simp
theorem i9:∀(bs:List Int)(k:List Bool),(bm k bs).length=k.length
 |[],k=>rfl
 |b::bs,k=>by
  show(bm (k.set b.toNat true) bs).length=_;rw[i9 bs];simp
theorem eU{n i:Nat}{ok:Nat->Bool}(h:dG n ok=some i):i<n/\ok i=false:=by
 unfold dG at h;rw[List.find?_range_eq_some]at h;exact⟨by simpa using h.2.1,by simpa using h.1⟩
theorem m9{l:Li}{kind body:Int}{oth:List Bool}:-1<=bQ l kind body oth/\bQ l kind body oth<l.jo.length:=by
 unfold bQ;cases h:dG l.jo.length (fun i=>!kW kind body oth (l.jo.getD i default))with
 |none=>exact⟨by decide,by show(-1:Int)<_;omega⟩
 |some i=>have:=(eU h).1;exact⟨by show(-1:Int)<=(i:Int);omega,by show(i:Int)<_;omega⟩
structure GrOk(l:Li)(g:Gr):Prop where
  b:∀x∈g.bo,0<=x/\x<l.bo.length
  j:∀x∈g.jo,0<=x/\x<l.jo.length
  lb:g.bo.length<=2
  lj:g.jo.length<=3
theorem MF{l:Li}(hl:aB l=0){kw:List Bool}{g:Gr}(h:di l kw=some g):GrOk l g:=by
 unfold di at h;rw[map_eq_some_iff]at h;obtain⟨i,hi,rfl⟩:=h;obtain⟨h1,h2⟩:=eU hi;obtain⟨d,hd⟩:=aw h1;have h3:=dj (lc hl hd);unfold fJ at h2;simp only[Bool.not_eq_false',and_eq_true,decide_eq_true_eq]at h2;rw[aD hd]at h2 ⊢;have h4:=m9 (l:=l) (kind:=0) (body:=d.body) (oth:=kw);refine⟨fun x hx=>?_,fun x hx=>?_,by simp,by simp⟩
 ·rw[List.mem_singleton.1 hx];exact h3
 ·rw[List.mem_singleton.1 hx];exact⟨h2.2,h4.2⟩
theorem JP{l:Li}{kw:List Bool}{g:Gr}(h:cM l kw=some g):GrOk l g:=by
 unfold cM at h;rw[map_eq_some_iff]at h;obtain⟨i,hi,h⟩:=h;obtain⟨h1,h2⟩:=eU hi;split at h
 ·rename_i k hk;subst h;unfold gj at hk;rw [map_eq_some_iff] at hk;obtain ⟨k',hk',rfl⟩:=hk;obtain ⟨h3,h4⟩:=eU hk';rw [show i + 1 + k' = k' + (i + 1) by omega] at h4;unfold dz at h4;simp only [Bool.not_eq_false',and_eq_true,decide_eq_true_eq] at h4;obtain ⟨_,⟨j1,j2⟩,j3⟩:=h4;refine ⟨fun x hx=>?_,fun x hx=>?_,by simp [gy],by simp [gy]⟩
  ·simp only[gy,mem_cons,not_mem_nil,or_false]at hx;rcases hx with rfl |rfl <;> constructor <;> omega
  ·simp only[gy,mem_cons,not_mem_nil,or_false]at hx;rcases hx with rfl |rfl |rfl
   ·exact⟨j1,m9.2⟩
   ·exact⟨j2,m9.2⟩
   ·exact⟨j3,m9.2⟩
 ·rename_i hk;rw[hk]at h2;cases h2
theorem UY{l:Li}{kw:List Bool}{g:Gr}(h:d8 l kw=some g):GrOk l g:=by
 unfold d8 at h;rw[map_eq_some_iff]at h;obtain⟨i,hi,rfl⟩:=h;obtain⟨h1,h2⟩:=eU hi;unfold fw at h2;simp only[Bool.not_eq_false',and_eq_true,decide_eq_true_eq]at h2;obtain⟨_,j1,j2⟩:=h2;refine⟨fun x hx=>?_,fun x hx=>?_,by simp[gM],by simp[gM]⟩
 ·simp only[gM,mem_cons,not_mem_nil,or_false]at hx;subst hx;constructor <;> omega
 ·simp only[gM,mem_cons,not_mem_nil,or_false]at hx;rcases hx with rfl |rfl
  ·exact⟨j1,m9.2⟩
  ·exact⟨j2,m9.2⟩
theorem uP{l:Li}(hl:aB l=0){kw:List Bool}{g:Gr}(h:bY l kw=some g):GrOk l g:=by
 unfold bY at h;cases h1:di l kw with
 |some g'=>rw[h1]at h;cases h;exact MF hl h1
 |none =>
  rw[h1]at h;cases h2:cM l kw with
  |some g'=>rw[h2]at h;cases h;exact JP h2
  |none=>rw[h2]at h;exact UY h
theorem Ho{l:Li}(hl:aB l=0):∀(n:Nat)(kw:List Bool)(out:List Gr),(∀g∈out,GrOk l g)->(∀g∈(co l n kw out).2,GrOk l g)/\(co l n kw out).2.length<=out.length+n
 |0,kw,out,h=>⟨h,by simp[co]⟩
 |n+1,kw,out,h=>by
  unfold co;cases hg:bY l kw with
  |none=>exact⟨h,by simp⟩
  |some g =>
   have h1:=Ho hl n (bm kw g.bo) (out++[g]) (fun x hx=>by
    rcases List.mem_append.1 hx with hx |hx
    ·exact h x hx
    ·rw[List.mem_singleton.1 hx];exact uP hl hg)
   refine⟨h1.1,?_⟩;have:=h1.2;rw[length_append]at this;show(co l n (bm kw g.bo) (out++[g])).2.length<=_;simp only[length_cons,length_nil]at this;omega
theorem rL{l:Li}(hl:aB l=0):(∀g∈cr l,GrOk l g)/\(cr l).length<=8:=by
 have h:=Ho hl l.bo.length (cB l.bo.length 0) [] (fun g hg=>by cases hg);have h8:=(cW hl).2.2.2.1;exact⟨h.1,by have:=h.2;simp only[length_nil]at this;unfold cr;omega⟩
def j4(j:Jt)(b:Int):Int:=if b=j.a then j.b else if b=j.b then j.a else -1
def vt(kind body:Int)(p:Int->Bool)(j:Jt):Bool:=decide (j.kind=kind)&&(decide (0<=j4 j body)&&p (j4 j body))
def gJ(l:Li)(kind body:Int)(p:Int->Bool):Int:=mw (dG l.jo.length (fun i=>!vt kind body p (l.jo.getD i default)))
theorem UZ{b:Bool}{z:Int}(h:cond b (aa .geq z 0) false=true):0<=z:=by
 cases b
 ·cases h
 ·exact of_decide_eq_true h
theorem MH{a k z:Int}{q:Bool}:cond (cond (aa .eql a k) (aa .geq z 0) false) q false=(decide (a=k)&&(decide (0<=z)&&q)):=by
 rw[sk,show aa .geq z 0=decide (0<=z)from rfl,iS,iS,Bool.and_assoc]
theorem Va{l:Li}(hli:aB l=0){i:Nat}{j:Jt}(hj:l.jo[i]?=some j)(b:Int):j4 j b<l.bo.length:=by
 obtain⟨i1,i2,_⟩:=dZ hli hj;have b1:=dj i1;have b2:=dj i2;unfold j4;split
 ·omega
 ·split <;> omega
theorem L6{n:Nat}{ok ok':Nat->Bool}(h:∀i,i<n->ok i=ok' i):dG n ok=dG n ok':=by
 unfold dG
 have:∀l:List Nat,(∀i∈l,i<n)->l.find? (fun i=>!ok i)=l.find? (fun i=>!ok' i):=by
  intro l
  induction l with
  |nil=>intro _;rfl
  |cons a l ih =>
   intro hl;simp only[List.find?_cons,h a (hl a (by simp)),ih (fun i hi=>hl i (by simp[hi]))]
 exact this _ (fun i hi=>List.mem_range.1 hi)
theorem yA{l:Li}(hli:aB l=0){kind body:Int}{p:Int->Bool}{oth:List Bool}(h:∀o:Int,0<=o->o<l.bo.length->p o=kn oth o):gJ l kind body p=bQ l kind body oth:=by
 unfold gJ bQ;rw[L6];intro i hi;obtain⟨j,hj⟩:=aw hi;rw[aD hj];obtain⟨i1,i2,_⟩:=dZ hli hj;have b1:=dj i1;have b2:=dj i2;congr 1;unfold vt kW;congr 1;unfold j4
 by_cases h1:body=j.a
 ·subst h1;rw[if_pos rfl,h _ b2.1 b2.2]
  by_cases h2:j.b=j.a
  ·simp[h2,b1.1]
  ·simp[h2,b2.1]
 ·rw[if_neg h1]
  by_cases h2:body=j.b
  ·subst h2;rw[if_pos rfl,h _ b1.1 b1.2];have h3:¬j.a=j.b:=fun e=>h1 e.symm
   simp[h3,b1.1]
  ·rw[if_neg h2];have h3:¬j.a=body:=fun e=>h1 e.symm
   have h4:¬j.b=body:=fun e=>h2 e.symm
   simp[h3,h4]
theorem EF{k:List Bool}{i:Nat}{b:Int}(h0:0<=b)(hi:i<k.length):kn (k.set i true) b=(decide (b=i)||kn k b):=by
 unfold kn;rw[getD_eq_getElem?_getD,List.getElem?_set,getD_eq_getElem?_getD]
 by_cases h:b=i
 ·rw[decide_eq_true h,Bool.true_or,if_pos oz];rw[if_pos oz];rfl
 ·rw[decide_eq_false h,Bool.false_or,if_neg oz]
theorem xH:∀{bs:List Int}{k:List Bool}{b:Int},0<=b->(∀x∈bs,0<=x/\x<k.length)->kn (bm k bs) b=(bs.any (fun x=>decide (x=b))||kn k b)
 |[],k,b,h0,h=>by simp[bm]
 |x::bs,k,b,h0,h=>by
  show kn (bm (k.set x.toNat true) bs) b=_;obtain⟨hx0,hx1⟩:=h x (by simp);rw[xH h0 (fun y hy=>by rw[length_set];exact h y (by simp[hy])),EF h0 oz,List.any_cons];have e:decide (b=(x.toNat:Int))=decide (x=b):=decide_eq_decide.2 oz;rw[e];cases decide (x=b) <;> simp
theorem wU(n:Nat)(b:Int):kn (List.replicate n false) b=false:=by
 unfold kn;rw[getD_eq_getElem?_getD,getElem?_replicate];split <;> rfl
def bU(l:Li):List Bool:=bm (List.replicate l.bo.length false) (l.dv.map Dr.body)
theorem s8(l:Li):(bU l).length=l.bo.length:=by unfold bU;rw[i9,length_replicate]
theorem Nc{l:Li}(hli:aB l=0){b:Int}(h0:0<=b):kn (bU l) b=mX l b:=by
 unfold bU mX;rw[xH h0,wU,Bool.or_false,List.any_map]
 ·rfl
 ·intro x hx;obtain⟨d,hd,rfl⟩:=List.mem_map.1 hx;obtain⟨i,hi⟩:=List.mem_iff_getElem?.1 hd;have:=dj (lc hli hi);rw[length_replicate];omega
theorem oM{n:Nat}{b o:Int}(h0:0<=o)(hb0:0<=b)(hb:b<n):kn (cB n b) o=decide (o=b):=by
 unfold cB;rw[EF h0 (by rw[length_replicate];omega),wU,Bool.or_false];exact decide_eq_decide.2 oz
def dK(k:List Bool):Nat:=k.countP (fun x=>!x)
theorem KV{k:List Bool}{i:Nat}(h:k[i]?=some false):dK (k.set i true)+1=dK k:=by
 unfold dK;have hi:=(List.getElem?_eq_some_iff.1 h).1;have he:=(List.getElem?_eq_some_iff.1 h).2;rw[List.countP_set hi,he];have:0<k.countP (fun x=>!x):=List.countP_pos_iff.2 ⟨false,mem_of_getElem? h,rfl⟩;simp;omega
theorem PW(k:List Bool)(i:Nat):dK (k.set i true)<=dK k:=by
 by_cases hi:i<k.length
 ·unfold dK;rw[List.countP_set hi];simp
 ·rw[List.set_eq_of_length_le oz];exact le_refl _
theorem Co:∀(bs:List Int)(k:List Bool),dK (bm k bs)<=dK k
 |[],k=>le_refl _
 |x::bs,k=>le_trans (Co bs (k.set x.toNat true)) (PW k _)
theorem MC{x:Int}{bs:List Int}{k:List Bool}(h:k[x.toNat]?=some false):dK (bm k (x::bs))<dK k:=by
 have h1:=Co bs (k.set x.toNat true);have h2:=KV h;show dK (bm (k.set x.toNat true) bs)<_;omega
theorem Ay{k:List Bool}{b:Int}(h:kn k b=false)(h1:b.toNat<k.length):k[b.toNat]?=some false:=by
 unfold kn at h;rw[getD_eq_getElem?_getD,getElem?_eq_getElem h1]at h;rw[getElem?_eq_getElem h1];simpa using h
theorem TM{l:Li}(hl:aB l=0){kw:List Bool}(hk:kw.length=l.bo.length){g:Gr}(h:bY l kw=some g):∃x bs,g.bo=x::bs/\kw[x.toNat]?=some false:=by
 unfold bY at h;cases h1:di l kw with
 |some g' =>
  rw[h1]at h;cases h
  unfold di at h1;rw[map_eq_some_iff]at h1;obtain⟨i,hi,rfl⟩:=h1;obtain⟨h2,h3⟩:=eU hi;obtain⟨d,hd⟩:=aw h2;have h4:=dj (lc hl hd);rw[aD hd]at *;unfold fJ at h3;rw[aD hd]at h3;simp only[Bool.not_eq_false',and_eq_true,Bool.not_eq_true',decide_eq_true_eq]at h3;exact⟨_,_,rfl,Ay h3.1 oz⟩
 |none =>
  rw[h1]at h;cases h2:cM l kw with
  |some g' =>
   rw[h2]at h;cases h
   unfold cM at h2;rw[map_eq_some_iff]at h2;obtain⟨i,hi,h2⟩:=h2;obtain⟨h3,h4⟩:=eU hi;split at h2
   ·rename_i k hk';subst h2;unfold gj at hk';rw[map_eq_some_iff]at hk';obtain⟨k',hk',rfl⟩:=hk';obtain⟨h5,h6⟩:=eU hk';unfold dz ep at h6;simp only[Bool.not_eq_false',and_eq_true,Bool.not_eq_true',decide_eq_true_eq]at h6;exact⟨_,_,rfl,Ay h6.1.1.1 oz⟩
   ·rename_i hk';rw[hk']at h4;cases h4
  |none =>
   rw[h2]at h;have h:d8 l kw=some g:=h;unfold d8 at h;rw[map_eq_some_iff]at h;obtain⟨i,hi,rfl⟩:=h;obtain⟨h3,h4⟩:=eU hi;unfold fw ep at h4;simp only[Bool.not_eq_false',and_eq_true,Bool.not_eq_true',decide_eq_true_eq]at h4;exact⟨_,_,rfl,Ay h4.1.1 oz⟩
theorem tc{l:Li}(hl:aB l=0){kw:List Bool}(hk:kw.length=l.bo.length){g:Gr}(h:bY l kw=some g):dK (bm kw g.bo)<dK kw:=by
 obtain⟨x,bs,e,h1⟩:=TM hl hk h;rw[e];exact MC h1
theorem zw{l:Li}(hl:aB l=0):∀(n m:Nat)(kw:List Bool)(out:List Gr),kw.length=l.bo.length->dK kw<=n->dK kw<=m->co l n kw out=co l m kw out
 |0,0,kw,out,hk,h1,h2=>rfl
 |0,m+1,kw,out,hk,h1,h2=>by
  unfold co;cases hg:bY l kw with
  |none=>rfl
  |some g=>have:=tc hl hk hg;omega
 |n+1,0,kw,out,hk,h1,h2=>by
  unfold co;cases hg:bY l kw with
  |none=>rfl
  |some g=>have:=tc hl hk hg;omega
 |n+1,m+1,kw,out,hk,h1,h2=>by
  unfold co;cases hg:bY l kw with
  |none=>rfl
  |some g =>
   have:=tc hl hk hg;exact zw hl n m _ _ (by rw[i9];exact hk) oz oz
theorem Ag{l:Li}:∀(n:Nat)(kw:List Bool)(out:List Gr),∃gs,co l n kw out=(gs.foldl (fun k g=>bm k g.bo) kw,out++gs)
 |0,kw,out=>⟨[],by simp[co]⟩
 |n+1,kw,out=>by
  unfold co;cases hg:bY l kw with
  |none=>exact⟨[],by simp⟩
  |some g =>
   obtain⟨gs,e⟩:=Ag n (bm kw g.bo) (out++[g]);exact⟨g::gs,by show co l n _ _=_;rw[e];simp⟩
theorem CP(l:Li):co l l.bo.length (cB l.bo.length 0) []=(bM l,cr l):=by
 obtain⟨gs,e⟩:=Ag (l:=l) l.bo.length (cB l.bo.length 0) [];unfold bM cr;rw[e];simp
theorem vA{k:List Bool}:(eD k).length=0↔k.contains false=false:=by
 unfold eD;rw[length_map,List.length_eq_zero_iff,List.filter_eq_nil_iff];constructor
 ·intro h;rw[<- Bool.not_eq_true,List.contains_iff_mem];intro hm;obtain⟨i,hi⟩:=List.mem_iff_getElem?.1 hm;have hlt:=(List.getElem?_eq_some_iff.1 hi).1;have:=h i (List.mem_range.2 hlt);rw[getD_eq_getElem?_getD,hi]at this;simp at this
 ·intro h i hi;rw[<- Bool.not_eq_true,List.contains_iff_mem]at h;intro hc;have hlt:=List.mem_range.1 hi;rw[getD_eq_getElem?_getD,getElem?_eq_getElem hlt]at hc;simp at hc;exact h (hc▸List.getElem_mem hlt)
theorem pP:Sub (.agg [.v (.int .i64 0),.v (.slice none 0 0),.v (.slice none 0 0),.v (.int .i64 0)]) (Gr.av default):=.agg (.cons (.refl _) (.cons (.nil _ _ _) (.cons (.nil _ _ _) (.cons (.refl _) .nil)))) rfl
theorem GA{z:Int}(h:aa .geq z 0=true):0<=z:=of_decide_eq_true h
theorem FI{z:Int}(h:aa .geq z 0=false):¬0<=z:=of_decide_eq_false h
theorem uU{a b c:Int}:cond (cond (aa .geq a 0) (aa .geq b 0) false) (aa .geq c 0) false=(decide (0<=a)&&decide (0<=b)&&decide (0<=c)):=by
 have e:∀z:Int,aa .geq z 0=decide (0<=z):=fun z=>rfl
 rw[e,e,e,iS,iS]
theorem Gc{a b:Int}:cond (aa .lss a 0) true (aa .lss b 0)=!(decide (0<=a)&&decide (0<=b)):=by
 have e:∀z:Int,aa .lss z 0=!decide (0<=z):=fun z=>by rw[<- decide_not];exact decide_eq_decide.2 oz
 rw[e,e,iF,Bool.not_and]
theorem Is{a b:Int}(h:cond (aa .lss a 0) true (aa .lss b 0)=true):(decide (0<=a)&&decide (0<=b))=false:=by rw[Gc]at h;exact dq h
theorem CM{a b:Int}(h:cond (aa .lss a 0) true (aa .lss b 0)=false):0<=a/\0<=b:=by
 rw[Gc]at h;have:=dD h;simpa using this
structure TieO(l:Li)(kind:Int)(bs:List Int)(z b:Int)(j:Jt):Prop where
  hz:0<=z
  hj:l.jo[z.toNat]?=some j
  kd:j.kind=kind
  tie:(j.a=b/\j.b∉bs)\/(j.b=b/\j.a∉bs)
inductive DyK(l:Li):Gr->Prop where
  |drv {b z d:Int} {j:Jt} {x:Dr} (t:TieO l 0 [b] z b j) (d0:0<=d) (hd:l.dv[d.toNat]?=some x) (hb:x.body=b):DyK l ⟨0,[b],[z],d⟩
  |rrr {i k z0 z1 z2:Int} {j0 j1 j2:Jt} (ne:i≠k) (t0:TieO l 0 [i,k] z0 i j0) (t1:TieO l 0 [i,k] z1 k j1) (h0:0<=z2) (h2:l.jo[z2.toNat]?=some j2) (kd:j2.kind=0)
      (tie:(j2.a=i/\j2.b=k)\/(j2.b=i/\j2.a=k)):DyK l ⟨1,[i,k],[z0,z1,z2],0⟩
  |pr {i z0 z1:Int} {j0 j1:Jt} (t0:TieO l 0 [i] z0 i j0) (t1:TieO l 1 [i] z1 i j1) (ha:j1.a=i):DyK l ⟨2,[i],[z0,z1],0⟩
  |rp {i z0 z1:Int} {j0 j1:Jt} (t0:TieO l 0 [i] z0 i j0) (t1:TieO l 1 [i] z1 i j1) (ha:j1.a≠i):DyK l ⟨3,[i],[z0,z1],0⟩
theorem um{l:Li}{kind b:Int}{oth:List Bool}(h:0<=bQ l kind b oth) :
  ∃(i:Nat)(j:Jt),bQ l kind b oth=(i:Int)/\l.jo[i]?=some j/\j.kind=kind/\((j.a=b/\kn oth j.b=true)\/(j.b=b/\kn oth j.a=true)):=by
 unfold bQ at h ⊢;cases hf:dG l.jo.length (fun i=>!kW kind b oth (l.jo.getD i default))with
 |none=>rw[hf]at h;exact absurd h (by decide)
 |some i =>
  obtain⟨h1,h2⟩:=eU hf;obtain⟨j,hj⟩:=aw h1;rw[aD hj]at h2;unfold kW at h2;simp only[Bool.not_eq_false',and_eq_true,or_eq_true,decide_eq_true_eq]at h2;exact⟨i,j,rfl,hj,h2.1,h2.2⟩
theorem q8{l:Li}{kind b:Int}{kw:List Bool}{bs:List Int}(hb:∀x∈bs,kn kw x=false)(h:0<=bQ l kind b kw):∃j,TieO l kind bs (bQ l kind b kw) b j:=by
 obtain⟨i,j,e,hj,hk,ht⟩:=um h;have hn:∀x,kn kw x=true->x∉bs:=fun x hx hm=>by rw[hb x hm]at hx;cases hx
 refine⟨j,h,by rw[e,toNat_natCast];exact hj,hk,?_⟩;rcases ht with⟨h1,h2⟩ |⟨h1,h2⟩
 ·exact .inl ⟨h1,hn _ h2⟩
 ·exact .inr ⟨h1,hn _ h2⟩
theorem qz{l:Li}{kw:List Bool}{b:Int}(h:ep l kw b=true):kn kw b=false:=by
 unfold ep at h;simp only[and_eq_true,Bool.not_eq_true']at h;exact h.1
theorem vL{kw:List Bool}{b:Int}(h:kn kw b=false):∀x∈[b],kn kw x=false:=fun x hx=>by rw[List.mem_singleton.1 hx];exact h
theorem KY{l:Li}(hl:aB l=0){kw:List Bool}{g:Gr}(h:di l kw=some g):DyK l g:=by
 unfold di at h;rw[map_eq_some_iff]at h;obtain⟨i,hi,rfl⟩:=h;obtain⟨h1,h2⟩:=eU hi;obtain⟨d,hd⟩:=aw h1;unfold fJ at h2;simp only[Bool.not_eq_false',and_eq_true,decide_eq_true_eq,Bool.not_eq_true']at h2;rw[aD hd]at h2 ⊢;obtain⟨j,hj⟩:=q8 (vL h2.1) h2.2;exact .drv hj oz (by rw[toNat_natCast];exact hd) rfl
theorem N3{l:Li}(hl:aB l=0){kw:List Bool}{g:Gr}(h:cM l kw=some g):DyK l g:=by
 unfold cM at h;rw[map_eq_some_iff]at h;obtain⟨i,hi,h⟩:=h;obtain⟨h1,h2⟩:=eU hi;split at h
 ·rename_i k hk;subst h;unfold gj at hk;rw [map_eq_some_iff] at hk;obtain ⟨k',hk',rfl⟩:=hk;obtain ⟨h3,h4⟩:=eU hk';rw [show i + 1 + k' = k' + (i + 1) by omega] at h4;unfold dz at h4;simp only [Bool.not_eq_false',and_eq_true,decide_eq_true_eq] at h4;obtain ⟨⟨f1,f2⟩,⟨j1,j2⟩,j3⟩:=h4
  have hb:∀x∈[(i:Int),((k'+(i+1):Nat):Int)],kn kw x=false:=fun x hx=>by
   simp only[mem_cons,not_mem_nil,or_false]at hx;rcases hx with rfl |rfl
   ·exact qz f1
   ·exact qz f2
  obtain⟨a0,t0⟩:=q8 hb j1;obtain⟨a1,t1⟩:=q8 hb j2;obtain⟨n,a2,e,hj,hkd,ht⟩:=um j3;obtain⟨i1,i2,_⟩:=dZ hl hj;have i1:=(dj i1).1;have i2:=(dj i2).1;refine .rrr oz t0 t1 j3 (by rw[e,toNat_natCast];exact hj) hkd ?_;rcases ht with⟨e1,e2⟩ |⟨e1,e2⟩
  ·rw[oM i2 oz oz]at e2;exact .inl ⟨e1,of_decide_eq_true e2⟩
  ·rw[oM i1 oz oz]at e2;exact .inr ⟨e1,of_decide_eq_true e2⟩
 ·rename_i hk;rw[hk]at h2;cases h2
theorem Ow{l:Li}{kw:List Bool}{g:Gr}(h:d8 l kw=some g):DyK l g:=by
 unfold d8 at h;rw[map_eq_some_iff]at h;obtain⟨i,hi,rfl⟩:=h;obtain⟨h1,h2⟩:=eU hi;unfold fw at h2;simp only[Bool.not_eq_false',and_eq_true,decide_eq_true_eq]at h2;obtain⟨f1,j1,j2⟩:=h2;obtain⟨a0,t0⟩:=q8 (vL (qz f1)) j1;obtain⟨a1,t1⟩:=q8 (vL (qz f1)) j2;unfold gM;rw[aD t1.hj]
 by_cases e:a1.a=i
 ·rw[if_pos e];exact .pr t0 t1 e
 ·rw[if_neg e];exact .rp t0 t1 e
theorem Kd{l:Li}(hl:aB l=0){kw:List Bool}{g:Gr}(h:bY l kw=some g):DyK l g:=by
 unfold bY at h;cases h1:di l kw with
 |some g'=>rw[h1]at h;cases h;exact KY hl h1
 |none =>
  rw[h1]at h;cases h2:cM l kw with
  |some g'=>rw[h2]at h;cases h;exact N3 hl h2
  |none=>rw[h2]at h;exact Ow h
theorem E3{l:Li}(hl:aB l=0):∀(n:Nat)(kw:List Bool)(out:List Gr),(∀g∈out,DyK l g)->∀g∈(co l n kw out).2,DyK l g
 |0,kw,out,h=>h
 |n+1,kw,out,h=>by
  unfold co;cases hg:bY l kw with
  |none=>exact h
  |some g=>exact E3 hl n (bm kw g.bo) (out++[g]) (fun x hx=>by
    rcases List.mem_append.1 hx with hx |hx
    ·exact h x hx
    ·rw[List.mem_singleton.1 hx];exact Kd hl hg)
theorem tL{l:Li}(hl:aB l=0){g:Gr}(h:g∈aN l):DyK l g/\GrOk l g:=by
 unfold aN at h;split at h
 ·exact⟨E3 hl _ _ _ (fun g hg=>by cases hg) g h,(rL hl).1 g h⟩
 ·cases h
open Lean.Grind
def E(r:(k:Nat)->T k)(n:Nat):Type:=T n
namespace T
theorem ofQ_zero:∀n,ofQ n 0=zero n
 |0=>rfl
 |n+1=>by simp only[ofQ,zero,ofQ_zero n]
theorem ofQ_add:∀n (p q:Rat),ofQ n (p+q)=add n (ofQ n p) (ofQ n q)
 |0,p,q=>rfl
 |n+1,p,q=>by simp only[ofQ,add,ofQ_add n,add_zero]
theorem ofQ_neg:∀n (p:Rat),ofQ n (-p)=neg n (ofQ n p)
 |0,p=>rfl
 |n+1,p=>by simp only[ofQ,neg,ofQ_neg n,neg_zero]
end T
structure Laws(r:(k:Nat)->T k)(n:Nat):Prop where
  assoc:∀x y z,T.mul r n (T.mul r n x y) z=T.mul r n x (T.mul r n y z)
  dist:∀x y z,T.mul r n x (T.add n y z)=T.add n (T.mul r n x y) (T.mul r n x z)
  one:∀x,T.mul r n (T.ofQ n 1) x=x
theorem T.neg_mul'{r:(k:Nat)->T k}{n:Nat}(h:Laws r n)(x y:T n):T.mul r n (T.neg n x) y=T.neg n (T.mul r n x y):=by
 have h1:T.add n (T.mul r n x y) (T.mul r n (T.neg n x) y)=T.zero n:=by
  rw[T.mul_comm r n x,T.mul_comm r n (T.neg n x),<- h.dist,T.add_neg,T.mul_zero]
 have h2:=congrArg (fun z=>T.add n (T.neg n (T.mul r n x y)) z) h1;simp only[T.add_zero]at h2;rw[<- T.add_assoc,T.add_comm n (T.neg n _),T.add_neg,T.zero_add]at h2;exact h2
theorem T.mul_addr{r:(k:Nat)->T k}{n:Nat}(h:Laws r n)(a b c:T n):T.mul r n (T.add n a b) c=T.add n (T.mul r n a c) (T.mul r n b c):=by
 rw[T.mul_comm r n _ c,h.dist,T.mul_comm r n c,T.mul_comm r n c]
instance (r:(k:Nat)->T k)(n:Nat):Add (E r n):=⟨T.add n⟩
instance (r:(k:Nat)->T k)(n:Nat):Mul (E r n):=⟨T.mul r n⟩
instance (r:(k:Nat)->T k)(n:Nat):Neg (E r n):=⟨T.neg n⟩
instance (r:(k:Nat)->T k)(n:Nat):_root_.Sub (E r n):=⟨fun x y=>T.add n x (T.neg n y)⟩
instance (r:(k:Nat)->T k)(n c:Nat):OfNat (E r n) c:=⟨T.ofQ n (c:Rat)⟩
instance (r:(k:Nat)->T k)(n:Nat):NatCast (E r n):=⟨fun c=>T.ofQ n (c:Rat)⟩
instance (r:(k:Nat)->T k)(n:Nat):IntCast (E r n):=⟨fun c=>T.ofQ n (c:Rat)⟩
instance (r:(k:Nat)->T k)(n:Nat):SMul Nat (E r n):=⟨fun c x=>T.mul r n (T.ofQ n (c:Rat)) x⟩
instance (r:(k:Nat)->T k)(n:Nat):SMul Int (E r n):=⟨fun c x=>T.mul r n (T.ofQ n (c:Rat)) x⟩
def E.pow{r:(k:Nat)->T k}{n:Nat}(x:E r n):Nat->E r n
  |0=>T.ofQ n 1
  |c+1=>T.mul r n (E.pow x c) x
instance (r:(k:Nat)->T k)(n:Nat):HPow (E r n) Nat (E r n):=⟨E.pow⟩
@[reducible] def Laws.ring {r:(k:Nat)->T k} {n:Nat} (h:Laws r n):CommRing (E r n) where
  add_zero a:=by
    show T.add n a (T.ofQ n ((0:Nat):Rat))=a;rw[show(((0:Nat):Rat))=0 from rfl,T.ofQ_zero];exact T.add_zero n a
  add_comm a b:=T.add_comm n a b
  add_assoc a b c:=T.add_assoc n a b c
  mul_assoc a b c:=h.assoc a b c
  mul_one a:=(T.mul_comm r n a _).trans (h.one a)
  one_mul a:=h.one a
  left_distrib a b c:=h.dist a b c
  right_distrib a b c:=T.mul_addr h a b c
  zero_mul a:=by
    show T.mul r n (T.ofQ n ((0:Nat):Rat)) a=T.ofQ n ((0:Nat):Rat);rw[show(((0:Nat):Rat))=0 from rfl,T.ofQ_zero];exact T.zero_mul r n a
  mul_zero a:=by
    show T.mul r n a (T.ofQ n ((0:Nat):Rat))=T.ofQ n ((0:Nat):Rat);rw[show(((0:Nat):Rat))=0 from rfl,T.ofQ_zero];exact T.mul_zero r n a
  pow_zero a:=rfl
  pow_succ a c:=rfl
  ofNat_succ c:=by
    show T.ofQ n ((c+1:Nat):Rat)=T.add n (T.ofQ n (c:Rat)) (T.ofQ n ((1:Nat):Rat));rw[<- T.ofQ_add];congr 1;exact Rat.natCast_add c 1
  ofNat_eq_natCast c:=rfl
  nsmul_eq_natCast_mul c a:=rfl
  neg_add_cancel a:=(T.add_comm n (T.neg n a) a).trans ((T.add_neg n a).trans (T.ofQ_zero n).symm)
  sub a b:=T.add n a (T.neg n b)
  sub_eq_add_neg a b:=rfl
  neg_zsmul i a:=(congrArg (fun z=>T.mul r n z a) (show T.ofQ n ((-i:Int):Rat)=T.neg n (T.ofQ n (i:Rat)) by rw[Rat.intCast_neg,T.ofQ_neg])).trans (T.neg_mul' h _ a)
  zsmul_natCast_eq_nsmul c a:=rfl
  intCast_ofNat c:=rfl
  intCast_neg i:=by
    show T.ofQ n ((-i:Int):Rat)=T.neg n (T.ofQ n (i:Rat));rw[Rat.intCast_neg,T.ofQ_neg]
  mul_comm a b:=T.mul_comm r n a b
section
variable{R:Type}[CommRing R](x y u v p q d:R)
theorem Kr:(x*u+y*v*d)*p+(x*v+y*u)*q*d=x*(u*p+v*q*d)+y*(u*q+v*p)*d:=by grind
theorem UC:(x*u+y*v*d)*q+(x*v+y*u)*p=x*(u*q+v*p)+y*(u*p+v*q*d):=by grind
theorem N7:x*(u+p)+y*(v+q)*d=(x*u+y*v*d)+(x*p+y*q*d):=by grind
theorem Mq:x*(v+q)+y*(u+p)=(x*v+y*u)+(x*q+y*p):=by grind
end
theorem mz(r:(k:Nat)->T k):∀n,Laws r n
 |0=>⟨fun x y z=>Rat.mul_assoc x y z,fun x y z=>Rat.mul_add x y z,fun x=>Rat.one_mul x⟩
 |n+1=>by
  have I:=(mz r n).ring;have h1:=(mz r n).one;refine⟨?_,?_,?_⟩
  ·rintro⟨x,y⟩ ⟨u,v⟩ ⟨p,q⟩;exact Prod.ext (@Kr (E r n) (mz r n).ring x y u v p q (r n)) (@UC (E r n) (mz r n).ring x y u v p q (r n))
  ·rintro⟨x,y⟩ ⟨u,v⟩ ⟨p,q⟩;exact Prod.ext (@N7 (E r n) (mz r n).ring x y u v p q (r n)) (@Mq (E r n) (mz r n).ring x y u v p q)
  ·rintro⟨u,v⟩;refine Prod.ext ?_ ?_
   ·show T.add n (T.mul r n (T.ofQ n 1) u) (T.mul r n (T.mul r n (T.zero n) v) (r n))=u;rw[h1,T.zero_mul,T.zero_mul,T.add_zero]
   ·show T.add n (T.mul r n (T.ofQ n 1) v) (T.mul r n (T.zero n) u)=v;rw[h1,T.zero_mul,T.add_zero]
instance eRing(r:(k:Nat)->T k)(n:Nat):CommRing (E r n):=(mz r n).ring
structure Sg(R:Type)[CommRing R](s:R->Int):Prop where
  cs:∀x,s x=-1\/s x=0\/s x=1
  one:s 1=1
  neg:∀x,s (-x)=-s x
  mul:∀x y,s (x*y)=s x*s y
  add:∀x y,0<=s x->0<=s y->0<=s (x+y)
namespace Sg
variable{R:Type}[CommRing R]{s:R->Int}
theorem zero(h:Sg R s):s 0=0:=by
 have h1:=h.neg 0;rw[show -(0:R)=0 by grind]at h1;omega
theorem zadd(h:Sg R s){x y:R}(hx:s x=0):s (x+y)=s y:=by
 have h1:=h.cs y;have h2:=h.cs (x+y);have n1:=h.neg x;have n2:=h.neg y;have n3:=h.neg (x+y);have a1:=h.add x y;have a2:=h.add (-x) (-y);have a3:=h.add (-x) (x+y);have a4:=h.add x (-(x+y));rw[show -x+-y=-(x+y) by grind]at a2;rw[show -x+(x+y)=y by grind]at a3;rw[show x+-(x+y)=-y by grind]at a4;omega
theorem padd(h:Sg R s){x y:R}(hx:s x=1)(hy:0<=s y):s (x+y)=1:=by
 have h2:=h.cs (x+y);have a1:=h.add x y;have n2:=h.neg y;have n3:=h.neg (x+y);have a4:=h.add (-(x+y)) y;have e:-(x+y)+y=-x:=by grind
 have n1:=h.neg x;rw[e]at a4;rcases h2 with h2 |h2 |h2
 ·omega
 ·have:=h.zadd (x:=-(x+y)) (y:=y) oz;rw[e]at this;omega
 ·exact h2
theorem sq(h:Sg R s)(x:R):0<=s (x*x):=by
 rw[h.mul];rcases h.cs x with e |e |e <;> rw[e] <;> decide
theorem sqle(h:Sg R s){a b:R}(ha:0<=s a)(hb:0<=s (a*a-b*b)):0<=s (a+b):=by
 have c1:=h.cs (a+b);rcases c1 with c1 |c1 |c1
 ·exfalso;have n1:=h.neg (a+b);have p1:s (-(a+b)+a)=1:=h.padd oz ha;rw[show -(a+b)+a=-b by grind]at p1;have p2:s (-b+a)=1:=h.padd p1 ha;have m:=h.mul (-b+a) (a+b);rw[show(-b+a)*(a+b)=a*a-b*b by grind,p2,c1]at m;omega
 ·omega
 ·omega
theorem cancel(h:Sg R s){p x:R}(hp:s p=1)(hx:0<=s (p*x)):0<=s x:=by
 rw[h.mul,hp]at hx;omega
end Sg
def bD{r:(k:Nat)->T k}{n:Nat}(x y:E r n):E r (n+1):=((x,y):T n×T n)
def sg(r:(k:Nat)->T k)(n:Nat)(x:E r n):Int:=T.sgn r n x
def bt(r:(k:Nat)->T k)(n:Nat):E r n:=r n
variable{r:(k:Nat)->T k}{n:Nat}
theorem jU(z:E r (n+1)):∃x y:E r n,z=bD x y:=⟨z.1,z.2,rfl⟩
theorem oa(x y u v:E r n):bD x y+bD u v=bD (x+u) (y+v):=rfl
theorem tK(x y:E r n):-bD x y=bD (-x) (-y):=rfl
theorem kD(x y u v:E r n):bD x y*bD u v=bD (x*u+y*v*bt r n) (x*v+y*u):=rfl
theorem E.zero_def:(0:E r n)=T.zero n:=T.ofQ_zero n
theorem uF:(1:E r (n+1))=bD 1 0:=by
 show T.ofQ (n+1) ((1:Nat):Rat)=(T.ofQ n ((1:Nat):Rat),T.ofQ n ((0:Nat):Rat));rw[show(((0:Nat):Rat))=0 from rfl,T.ofQ_zero];rfl
def aO(x y:E r n):E r n:=x*x+-(y*y*bt r n)
theorem ke(x y:E r n):sg r (n+1) (bD x y)=T.sgn3 (sg r n x) (sg r n y) (sg r n (bt r n)) (sg r n (aO x y)):=rfl
def PE(x y:E r n):Prop:=(0<=sg r n x/\0<=sg r n (aO x y))\/(0<=sg r n y/\0 <= -sg r n (aO x y))
theorem qg(h:Sg (E r n) (sg r n))(hd:sg r n (bt r n)=1)(x y:E r n):0<=sg r (n+1) (bD x y)↔PE x y:=by
 rw[ke,hd];unfold PE
 have f1:sg r n y=0->sg r n (aO x y)=sg r n x*sg r n x:=by
  intro hy;have h1:sg r n (-(y*y*bt r n))=0:=by rw[h.neg,h.mul,h.mul,hy];simp
  have:=h.zadd (y:=x*x) h1;unfold aO;rw[show x*x+-(y*y*bt r n)=-(y*y*bt r n)+x*x by grind,this,h.mul]
 have f2:sg r n x=0->sg r n (aO x y)=-(sg r n y*sg r n y):=by
  intro hx;have h1:sg r n (x*x)=0:=by rw[h.mul,hx];simp
  have:=h.zadd (y:=-(y*y*bt r n)) h1;unfold aO;rw[this,h.neg,h.mul,h.mul,hd];simp
 have c1:=h.cs x;have c2:=h.cs y;have c3:=h.cs (aO x y)
 revert f1 f2 c1 c2 c3
 generalize sg r n x=a;generalize sg r n y=b;generalize sg r n (aO x y)=c;intro f1 f2 c1 c2 c3;rcases c1 with rfl |rfl |rfl <;> rcases c2 with rfl |rfl |rfl <;> rcases c3 with rfl |rfl |rfl <;> first |decide |(exfalso;revert f1 f2;decide)
theorem ON(h:Sg (E r n) (sg r n))(hd:sg r n (bt r n)=1){x y u v:E r n}(h1:PE x y)(h2:PE u v):PE (x*u+y*v*bt r n) (x*v+y*u):=by
 have nm:aO (x*u+y*v*bt r n) (x*v+y*u)=aO x y*aO u v:=by unfold aO;grind
 have hn:=h.mul (aO x y) (aO u v);have d0:0<=sg r n (bt r n):=by omega
 unfold PE;rw[nm,hn];rcases h1 with⟨a1,a2⟩ |⟨a1,a2⟩ <;> rcases h2 with⟨b1,b2⟩ |⟨b1,b2⟩
 ·refine .inl ⟨h.sqle ?_ ?_,Int.mul_nonneg a2 b2⟩
  ·rw[h.mul];exact Int.mul_nonneg a1 b1
  ·have e : x * u * (x * u) - y * v * bt r n * (y * v * bt r n) = aO x y * (u * u) + y * y * bt r n * aO u v := by unfold aO; grind
   rw[e];refine h.add _ _ ?_ ?_
   ·rw[h.mul];exact Int.mul_nonneg a2 (h.sq u)
   ·rw[h.mul,h.mul];exact Int.mul_nonneg (Int.mul_nonneg (h.sq y) d0) b2
 ·refine .inr ⟨h.sqle ?_ ?_,?_⟩
  ·rw[h.mul];exact Int.mul_nonneg a1 b1
  ·have e : x * v * (x * v) - y * u * (y * u) = aO x y * (v * v) + y * y * -aO u v := by unfold aO; grind
   rw[e];refine h.add _ _ ?_ ?_
   ·rw[h.mul];exact Int.mul_nonneg a2 (h.sq v)
   ·rw[h.mul,h.neg];exact Int.mul_nonneg (h.sq y) b2
  ·rw[<- Int.mul_neg];exact Int.mul_nonneg a2 b2
 ·refine .inr ⟨?_,?_⟩
  ·rw [show x * v + y * u = y * u + x * v by grind];refine h.sqle ?_ ?_
   ·rw[h.mul];exact Int.mul_nonneg a1 b1
   ·have e : y * u * (y * u) - x * v * (x * v) = aO u v * (y * y) + v * v * -aO x y := by unfold aO; grind
    rw[e];refine h.add _ _ ?_ ?_
    ·rw[h.mul];exact Int.mul_nonneg b2 (h.sq y)
    ·rw[h.mul,h.neg];exact Int.mul_nonneg (h.sq v) a2
  ·rw[<- Int.neg_mul];exact Int.mul_nonneg a2 b2
 ·refine .inl ⟨?_,?_⟩
  ·rw [show x * u + y * v * bt r n = y * v * bt r n + x * u by grind];refine h.sqle ?_ ?_
   ·rw[h.mul,h.mul];exact Int.mul_nonneg (Int.mul_nonneg a1 b1) d0
   ·have e : y * v * bt r n * (y * v * bt r n) - x * u * (x * u) = -aO x y * (v * v * bt r n) + x * x * -aO u v := by unfold aO; grind
    rw[e];refine h.add _ _ ?_ ?_
    ·rw[h.mul,h.neg,h.mul];exact Int.mul_nonneg a2 (Int.mul_nonneg (h.sq v) d0)
    ·rw[h.mul,h.neg];exact Int.mul_nonneg (h.sq x) b2
  ·rw[<- Int.neg_mul_neg];exact Int.mul_nonneg a2 b2
theorem D5(h:Sg (E r n) (sg r n))(hd:sg r n (bt r n)=1){x y u v:E r n}(a1:0<=sg r n x)(a2:0<=sg r n (aO x y))(b1:0<=sg r n v)(b2:0 <= -sg r n (aO u v)):PE (x+u) (y+v):=by
  have cX:=h.cs (x+u);have cY:=h.cs (y+v);have cN:=h.cs (aO (x+u) (y+v));unfold PE
  by_cases hX:0<=sg r n (x+u)
  · by_cases hN:0<=sg r n (aO (x+u) (y+v))
    · exact .inl ⟨hX,hN⟩
    · by_cases hY:0<=sg r n (y+v)
      · exact .inr ⟨hY,by omega⟩
      · -- Y < 0: then N is at least 0
        exfalso;have hY':sg r n (-(y+v))=1:=by rw[h.neg];omega
        have ny:sg r n (-y)=1:=by
          have:=h.padd hY' b1
          rwa [show -(y+v)+v=-y by grind]at this
        have k1:0<=sg r n (x*v+y*u):=by
          refine h.sqle (by rw[h.mul];exact Int.mul_nonneg a1 b1) ?_;have e:x*v*(x*v)-y*u*(y*u)=aO x y*(v*v)+y*y*-aO u v:=by unfold aO;grind
          rw[e];refine h.add _ _ ?_ ?_
          · rw[h.mul];exact Int.mul_nonneg a2 (h.sq v)
          · rw[h.mul,h.neg];exact Int.mul_nonneg (h.sq y) b2
        have k2:0<=sg r n (x*v+-(y*u)):=by
          refine h.sqle (by rw[h.mul];exact Int.mul_nonneg a1 b1) ?_;have e:x*v*(x*v) - -(y*u)*-(y*u)=aO x y*(v*v)+y*y*-aO u v:=by unfold aO;grind
          rw[e];refine h.add _ _ ?_ ?_
          · rw[h.mul];exact Int.mul_nonneg a2 (h.sq v)
          · rw[h.mul,h.neg];exact Int.mul_nonneg (h.sq y) b2
        have k3:0<=sg r n (-y*(x+u)-x*-(y+v)):=by
          rw[show -y*(x+u)-x*-(y+v)=x*v+-(y*u) by grind];exact k2
        have k4:0<=sg r n (-y*(x+u)+x*-(y+v)):=by
          rw[show -y*(x+u)+x*-(y+v)=(-y*(x+u)-x*-(y+v))+(x*-(y+v)+x*-(y+v)) by grind];refine h.add _ _ k3 (h.add _ _ ?_ ?_) <;> (rw[h.mul,hY'];omega)
        have k5:0<=sg r n ((y*y)*aO (x+u) (y+v)):=by
          have e:(y*y)*aO (x+u) (y+v)=(-y*(x+u)-x*-(y+v))*(-y*(x+u)+x*-(y+v))+aO x y*(-(y+v)*-(y+v)):=by unfold aO;grind
          rw[e];refine h.add _ _ (by rw[h.mul];exact Int.mul_nonneg k3 k4) (by rw[h.mul];exact Int.mul_nonneg a2 (h.sq _))
        have k6 := h.cancel (by rw [h.mul]; rw [h.neg] at ny; have : sg r n y = -1 := by omega
                                rw[this];rfl) k5
        exact hN k6
  · have hX' : sg r n (-(x + u)) = 1 := by rw [h.neg]; omega
    have nu:sg r n (-u)=1:=by
      have:=h.padd hX' a1
      rwa [show -(x+u)+x=-u by grind]at this
    have su:sg r n u=-1:=by rw[h.neg]at nu;omega
    have hv:sg r n v=1:=by
      rcases h.cs v with e |e |e
      · omega
      · exfalso
        have h1:sg r n (-(v*v*bt r n))=0:=by rw[h.neg,h.mul,h.mul,e];simp
        have:=h.zadd (y:=u*u) h1;rw[show -(v*v*bt r n)+u*u=aO u v by unfold aO;grind,h.mul,su]at this;omega
      · exact e
    have k1:0<=sg r n (x*v+y*-u):=by
      refine h.sqle (by rw[h.mul];exact Int.mul_nonneg a1 b1) ?_;have e:x*v*(x*v)-y*-u*(y*-u)=aO x y*(v*v)+y*y*-aO u v:=by unfold aO;grind
      rw[e];refine h.add _ _ ?_ ?_
      · rw[h.mul];exact Int.mul_nonneg a2 (h.sq v)
      · rw[h.mul,h.neg];exact Int.mul_nonneg (h.sq y) b2
    have k3:0<=sg r n (-u*(y+v)-v*-(x+u)):=by
      rw[show -u*(y+v)-v*-(x+u)=x*v+y*-u by grind];exact k1
    have k4:0<=sg r n (v*-(x+u)):=by rw[h.mul,hv,hX'];decide
    have kY:0<=sg r n (y+v):=by
      refine h.cancel nu ?_;rw[show -u*(y+v)=(-u*(y+v)-v*-(x+u))+v*-(x+u) by grind];exact h.add _ _ k3 k4
    refine .inr ⟨kY,?_⟩
    have k5:0<=sg r n ((v*v)*-aO (x+u) (y+v)):=by
      have e:(v*v)*-aO (x+u) (y+v)=(-u*(y+v)-v*-(x+u))*(-u*(y+v)+v*-(x+u))+-aO u v*((y+v)*(y+v)):=by unfold aO;grind
      rw[e];have k6:0<=sg r n (-u*(y+v)+v*-(x+u)):=h.add _ _ (by rw[h.mul,nu];omega) k4;refine h.add _ _ (by rw[h.mul];exact Int.mul_nonneg k3 k6) (by rw[h.mul,h.neg];exact Int.mul_nonneg b2 (h.sq _))
    have k7:=h.cancel (by rw[h.mul,hv];rfl) k5
    rwa [h.neg]at k7
theorem P5(h:Sg (E r n) (sg r n))(hd:sg r n (bt r n)=1){x y u v:E r n}(h1:PE x y)(h2:PE u v):PE (x+u) (y+v):=by
 have d0:0<=sg r n (bt r n):=by omega
 rcases h1 with⟨a1,a2⟩ |⟨a1,a2⟩ <;> rcases h2 with⟨b1,b2⟩ |⟨b1,b2⟩
 ·refine .inl ⟨h.add _ _ a1 b1,?_⟩
  have k:0<=sg r n (x*u+-(y*v*bt r n)):=by
   refine h.sqle (by rw[h.mul];exact Int.mul_nonneg a1 b1) ?_;have e:x*u*(x*u) - -(y*v*bt r n)*-(y*v*bt r n)=aO x y*(u*u)+y*y*bt r n*aO u v:=by unfold aO;grind
   rw[e];refine h.add _ _ ?_ ?_
   ·rw[h.mul];exact Int.mul_nonneg a2 (h.sq u)
   ·rw[h.mul,h.mul];exact Int.mul_nonneg (Int.mul_nonneg (h.sq y) d0) b2
  rw[show aO (x+u) (y+v)=(aO x y+aO u v)+((x*u+-(y*v*bt r n))+(x*u+-(y*v*bt r n))) by unfold aO;grind];exact h.add _ _ (h.add _ _ a2 b2) (h.add _ _ k k)
 ·exact D5 h hd a1 a2 b1 b2
 ·rw[show x+u=u+x by grind,show y+v=v+y by grind];exact D5 h hd b1 b2 a1 a2
 ·refine .inr ⟨h.add _ _ a1 b1,?_⟩
  have k:0<=sg r n (y*v*bt r n+-(x*u)):=by
   refine h.sqle (by rw[h.mul,h.mul];exact Int.mul_nonneg (Int.mul_nonneg a1 b1) d0) ?_;have e:y*v*bt r n*(y*v*bt r n) - -(x*u)*-(x*u)=-aO x y*(v*v*bt r n)+x*x*-aO u v:=by unfold aO;grind
   rw[e];refine h.add _ _ ?_ ?_
   ·rw[h.mul,h.neg,h.mul];exact Int.mul_nonneg a2 (Int.mul_nonneg (h.sq v) d0)
   ·rw[h.mul,h.neg];exact Int.mul_nonneg (h.sq x) b2
  have k2:0<=sg r n (-aO (x+u) (y+v)):=by
   rw[show -aO (x+u) (y+v)=(-aO x y+-aO u v)+((y*v*bt r n+-(x*u))+(y*v*bt r n+-(x*u))) by unfold aO;grind];exact h.add _ _ (h.add _ _ (by rw[h.neg];exact a2) (by rw[h.neg];exact b2)) (h.add _ _ k k)
  rwa [h.neg]at k2
theorem ML(a b c d:Int):T.sgn3 (-a) (-b) c d=-T.sgn3 a b c d:=by
 unfold T.sgn3;have e:(-a=-b \/ -b=0)↔(a=b\/b=0):=by omega
 simp only[e];split
 ·rfl
 ·split
  ·rfl
  ·by_cases h:a=0
   ·rw[if_pos oz,if_pos h]
   ·rw[if_neg oz,if_neg h,Int.neg_mul]
theorem IY(h:Sg (E r n) (sg r n))(hd:0<=sg r n (bt r n)):Sg (E r (n+1)) (sg r (n+1)):=by
 have hcs:∀z:E r (n+1),sg r (n+1) z=-1\/sg r (n+1) z=0\/sg r (n+1) z=1:=fun z=>T.sgn_cases r (n+1) z
 have hone:sg r (n+1) 1=1:=by
  rw[uF,ke,h.one,h.zero];unfold T.sgn3;split
  ·rfl
  ·simp
 have hneg:∀z:E r (n+1),sg r (n+1) (-z)=-sg r (n+1) z:=by
  intro z;obtain⟨x,y,rfl⟩:=jU z;rw[tK,ke,ke,h.neg,h.neg,show aO (-x) (-y)=aO x y by unfold aO;grind,ML]
 by_cases hd0:sg r n (bt r n)=0
 ·have e0:∀x y:E r n,sg r (n+1) (bD x y)=sg r n x:=by
   intro x y;rw[ke,hd0];unfold T.sgn3;rw[if_pos rfl]
  refine⟨hcs,hone,hneg,?_,?_⟩
  ·intro z w;obtain ⟨x,y,rfl⟩:=jU z;obtain ⟨u,v,rfl⟩:=jU w;rw [kD,e0,e0,e0];have h1:sg r n (y * v * bt r n) = 0:=by rw [h.mul,hd0]; simp
   have:=h.zadd (y:=x*u) h1;rw[show x*u+y*v*bt r n=y*v*bt r n+x*u by grind,this,h.mul]
  ·intro z w;obtain⟨x,y,rfl⟩:=jU z;obtain⟨u,v,rfl⟩:=jU w;rw[oa,e0,e0,e0];exact h.add x u
 ·have hd1 : sg r n (bt r n) = 1 := by rcases h.cs (bt r n) with e | e | e <;> omega
  have hadd:∀z w:E r (n+1),0<=sg r (n+1) z->0<=sg r (n+1) w->0<=sg r (n+1) (z+w):=by
   intro z w;obtain⟨x,y,rfl⟩:=jU z;obtain⟨u,v,rfl⟩:=jU w;rw[oa,qg h hd1,qg h hd1,qg h hd1];exact P5 h hd1
  have hpm:∀z w:E r (n+1),0<=sg r (n+1) z->0<=sg r (n+1) w->0<=sg r (n+1) (z*w):=by
   intro z w;obtain⟨x,y,rfl⟩:=jU z;obtain⟨u,v,rfl⟩:=jU w;rw[kD,qg h hd1,qg h hd1,qg h hd1];exact ON h hd1
  have hzm:∀z w:E r (n+1),sg r (n+1) z=0->sg r (n+1) (w*z)=0:=by
   intro z w hz;have n1:=hneg z;have n2:=hneg w;have n3:=hneg (w*z);have m1:=hpm w z;have m2:=hpm w (-z);have m3:=hpm (-w) z;have m4:=hpm (-w) (-z);rw[show w*-z=-(w*z) by grind]at m2;rw[show -w*z=-(w*z) by grind]at m3;rw[show -w*-z=w*z by grind]at m4;rcases hcs w with e |e |e <;> omega
  have hsc:∀(a u v:E r n),sg r (n+1) (bD (a*u) (a*v))=sg r n a*sg r (n+1) (bD u v):=by
   intro a u v;rw[ke,ke,show aO (a*u) (a*v)=a*a*aO u v by unfold aO;grind,h.mul,h.mul,h.mul,h.mul,hd1]
   have f1:sg r n v=0->sg r n (aO u v)=sg r n u*sg r n u:=by
    intro hy;have h1:sg r n (-(v*v*bt r n))=0:=by rw[h.neg,h.mul,h.mul,hy];simp
    have:=h.zadd (y:=u*u) h1;unfold aO;rw[show u*u+-(v*v*bt r n)=-(v*v*bt r n)+u*u by grind,this,h.mul]
   have c1:=h.cs u;have c2:=h.cs v;have c3:=h.cs (aO u v);have c4:=h.cs a
   revert c1 c2 c3 c4
   generalize sg r n u=a1;generalize sg r n v=b1;generalize sg r n (aO u v)=c1;generalize sg r n a=e1;intro c1 c2 c3 c4;rcases c1 with rfl |rfl |rfl <;> rcases c2 with rfl |rfl |rfl <;> rcases c3 with rfl |rfl |rfl <;> rcases c4 with rfl |rfl |rfl <;> decide
  have hpadd:∀z w:E r (n+1),sg r (n+1) z=1->0<=sg r (n+1) w->sg r (n+1) (z+w)=1:=by
   intro z w hz hw;have a1:=hadd z w oz hw;rcases hcs (z+w)with e |e |e
   ·omega
   ·exfalso;have n1:=hneg z;have n2:=hneg (z+w);have a2:=hadd (-(z+w)) w oz hw;rw[show -(z+w)+w=-z by grind]at a2;omega
   ·exact e
  have hpp:∀z w:E r (n+1),sg r (n+1) z=1->sg r (n+1) w=1->sg r (n+1) (z*w)=1:=by
   intro z w hz hw;obtain⟨x,y,rfl⟩:=jU z;obtain⟨u,v,rfl⟩:=jU w;have p0:=hpm _ _ (by omega:0<=sg r (n+1) (bD x y)) (by omega:0<=sg r (n+1) (bD u v));rcases hcs (bD x y*bD u v)with e |e |e
   ·omega
   ·exfalso
    by_cases hN:sg r n (aO x y)=0
    ·have hxy:sg r n x=1/\sg r n y=1:=by
      rw[ke,hd1,hN]at hz
      have f1:sg r n y=0->sg r n (aO x y)=sg r n x*sg r n x:=by
       intro hy;have h1:sg r n (-(y*y*bt r n))=0:=by rw[h.neg,h.mul,h.mul,hy];simp
       have:=h.zadd (y:=x*x) h1;unfold aO;rw[show x*x+-(y*y*bt r n)=-(y*y*bt r n)+x*x by grind,this,h.mul]
      have f2:sg r n x=0->sg r n (aO x y)=-(sg r n y*sg r n y):=by
       intro hx;have h1:sg r n (x*x)=0:=by rw[h.mul,hx];simp
       have:=h.zadd (y:=-(y*y*bt r n)) h1;unfold aO;rw[this,h.neg,h.mul,h.mul,hd1];simp
      rw[hN]at f1 f2;have c1:=h.cs x;have c2:=h.cs y
      revert hz f1 f2 c1 c2
      generalize sg r n x=a;generalize sg r n y=b;intro hz f1 f2 c1 c2;rcases c1 with rfl |rfl |rfl <;> rcases c2 with rfl |rfl |rfl <;> revert hz f1 f2 <;> decide
     have k1:sg r (n+1) (bD (x*u) (x*v))=1:=by rw[hsc,hxy.1,hw];rfl
     have k2:0<=sg r (n+1) (bD 0 y):=by
      rw[ke,h.zero,hxy.2,hd1];unfold T.sgn3;simp
     have k3:=hpm _ _ k2 (by omega:0<=sg r (n+1) (bD u v));have k4:=hpadd _ _ k1 k3;rw[kD,oa]at k4;rw[kD]at e;rw[show x*u+(0*u+y*v*bt r n)=x*u+y*v*bt r n by grind,show x*v+(0*v+y*u)=x*v+y*u by grind]at k4;omega
    ·have k1:=hzm _ (bD x (-y)) e;rw[show bD x (-y)*(bD x y*bD u v)=bD (aO x y*u) (aO x y*v) by rw[kD,kD];unfold aO;congr 1 <;> grind,hsc,hw]at k1;omega
   ·exact e
  refine⟨hcs,hone,hneg,?_,hadd⟩;intro z w;rcases hcs w with e |e |e
  ·rcases hcs z with e' |e' |e'
   ·have := hpp (-z) (-w) (by rw[hneg];omega) (by rw[hneg];omega);rw[show -z*-w=z*w by grind]at this;rw[this,e,e'];rfl
   ·have:=hzm z w e';rw[show w*z=z*w by grind]at this;rw[this,e'];simp
   ·have := hpp z (-w) e' (by rw[hneg];omega);rw[show z*-w=-(z*w) by grind,hneg]at this;rw[e,e'];omega
  ·rw[hzm w z e,e];simp
  ·rcases hcs z with e' |e' |e'
   ·have := hpp (-z) w (by rw[hneg];omega) e;rw[show -z*w=-(z*w) by grind,hneg]at this;rw[e,e'];omega
   ·have:=hzm z w e';rw[show w*z=z*w by grind]at this;rw[this,e'];simp
   ·rw[hpp z w e' e,e,e'];rfl
theorem mu(q:Rat):bH q=-1/\q<0\/bH q=0/\q=0\/bH q=1/\0<q:=by
 unfold bH;split
 ·exact .inl ⟨rfl,by assumption⟩
 ·split
  ·exact .inr (.inr ⟨rfl,by assumption⟩)
  ·exact .inr (.inl ⟨rfl,by grind⟩)
theorem vX{q:Rat}(h:0<q):bH q=1:=by
 rcases mu q with⟨_,h'⟩ |⟨_,h'⟩ |⟨e,_⟩
 ·grind
 ·grind
 ·exact e
theorem w7{q:Rat}(h:q<0):bH q=-1:=by
 rcases mu q with⟨e,_⟩ |⟨_,h'⟩ |⟨_,h'⟩
 ·exact e
 ·grind
 ·grind
theorem QF(q:Rat):bH (-q)=-bH q:=by
 rcases mu q with⟨e,h⟩ |⟨e,h⟩ |⟨e,h⟩
 ·rw[e,vX (by grind)];rfl
 ·rw[h];rfl
 ·rw[e,w7 (by grind)]
theorem SU(p q:Rat):bH (p*q)=bH p*bH q:=by
 have h0:bH 0=0:=rfl;rcases mu p with⟨e,h⟩ |⟨e,h⟩ |⟨e,h⟩ <;> rcases mu q with⟨e',h'⟩ |⟨e',h'⟩ |⟨e',h'⟩
 ·have := Rat.mul_pos (a := -p) (b := -q) (by grind) (by grind);rw[e,e',vX (by grind)];rfl
 ·rw[h',Rat.mul_zero,h0];simp
 ·have := Rat.mul_pos (a := -p) (b := q) (by grind) h';rw[e,e',w7 (by grind)];rfl
 ·rw[h,Rat.zero_mul,h0];simp
 ·rw[h,Rat.zero_mul,h0];simp
 ·rw[h,Rat.zero_mul,h0];simp
 ·have := Rat.mul_pos (a := p) (b := -q) h (by grind);rw[e,e',w7 (by grind)];rfl
 ·rw[h',Rat.mul_zero,h0];simp
 ·rw[e,e',vX (Rat.mul_pos h h')];rfl
theorem Tm(p q:Rat)(h1:0<=bH p)(h2:0<=bH q):0<=bH (p+q):=by
 rcases mu (p+q)with⟨e,h⟩ |⟨e,h⟩ |⟨e,h⟩
 ·exfalso;rcases mu p with⟨e1,g1⟩ |⟨e1,g1⟩ |⟨e1,g1⟩ <;> rcases mu q with⟨e2,g2⟩ |⟨e2,g2⟩ |⟨e2,g2⟩ <;> first |omega |grind
 ·omega
 ·omega
theorem Pm(r:(k:Nat)->T k):Sg (E r 0) (sg r 0) :=
 ⟨fun q=>T.sgnQ_cases q,rfl,fun q=>QF q,fun p q=>SU p q,fun p q=>Tm p q⟩
def eV(r:(k:Nat)->T k)(n:Nat):Prop:=∀j,j<n->0<=T.sgn r j (r j)
theorem gN(r:(k:Nat)->T k):∀n,eV r n->Sg (E r n) (sg r n)
 |0,_=>Pm r
 |n+1,h=>IY (gN r n (fun j hj=>h j oz)) (h n oz)
end Go.Lw
namespace Go.Lw
def xA{r:(k:Nat)->T k}{n:Nat}(x:E r n):AV:=nA (sh n x)
abbrev Pn(r:(k:Nat)->T k)(n:Nat):Type:=E r n×E r n
def lY(r:(k:Nat)->T k)(n:Nat):LL:=(List.range n).map fun k=>enc k (r k)
def qE{r:(k:Nat)->T k}{n:Nat}(q:Rat):E r n:=T.ofQ n q
theorem yN:∀(n:Nat)(q:Rat),sh n (T.ofQ n q)=sh 0 (q:Rat)
 |0,q=>rfl
 |n+1,q=>by
  show(if T.isZ n (T.zero n)=true then sh n (T.ofQ n q)else _)=_;rw[if_pos ((T.isZ_iff n _).2 rfl),yN n q]
theorem Gt:∀n:Nat,sh n (T.zero n)=[]
 |0=>rfl
 |n+1=>by
  show(if T.isZ n (T.zero n)=true then sh n (T.zero n)else _)=_;rw[if_pos ((T.isZ_iff n _).2 rfl),Gt n]
theorem sH(r:(k:Nat)->T k)(n:Nat):(lY r n).length=n:=by simp[lY]
theorem D9{r:(k:Nat)->T k}{n j:Nat}(h:j<n):(lY r n).getD j []=enc j (r j):=by
 unfold lY;rw[getD_eq_getElem?_getD,getElem?_map,List.getElem?_range h];rfl
theorem Jb{r:(k:Nat)->T k}{n j:Nat}(h:j<n):aj (lY r n) j=r j:=by
 unfold aj;rw[D9 h,v9]
theorem CN{ts:LL}{R:Nat}(tw:Tw ts R):ts=lY (aj ts) ts.length:=by
 apply List.ext_getElem?;intro j
 by_cases hj:j<ts.length
 ·have h1:=D9 (r:=aj ts) hj;have h2:=tw.len j hj;rw[getD_eq_getElem?_getD]at h1;rw[getElem?_eq_getElem (show j<(lY (aj ts) ts.length).length by rw[sH];exact hj)]at h1 ⊢;rw[Option.getD_some]at h1;rw[h1,getElem?_eq_getElem hj];unfold aj;rw[pu _ _ h2,getD_eq_getElem?_getD,getElem?_eq_getElem hj];rfl
 ·rw[getElem?_eq_none oz,getElem?_eq_none (by rw[sH];omega)]
class Cx(r:(k:Nat)->T k)(n:Nat)(u k:outParam Nat):Prop where
  ex:∃R,Tw (lY r n) R/\eB R n<=k
  k1:1<=k
  u3:3<=u
class Zu(u k:Nat){r:(k:Nat)->T k}{n:Nat}(x:E r n)(w v:outParam Nat):Prop where
  nm:Nm n (w*u+v*k) (sh n x)
class Zp(u k:Nat){r:(k:Nat)->T k}{n:Nat}(p:Pn r n)(w v:outParam Nat):Prop where
  x:Nm n (w*u+v*k) (sh n p.1)
  y:Nm n (w*u+v*k) (sh n p.2)
class Qz(u:Nat)(q:Rat)(w:outParam Nat):Prop where
  cb:Cb (w*u) [q]
section
variable{r:(k:Nat)->T k}{n u k:Nat}
theorem Cx.five(c:Cx r n u k):n<=5:=by obtain⟨R,tw,_⟩:=c.ex;have:=tw.five;rwa [sH]at this
theorem Cx.three(c:Cx r n u k):n<=3:=by obtain⟨R,tw,_⟩:=c.ex;have:=tw.three;rwa [sH]at this
theorem wD(w v w' v' u k:Nat):(w*u+v*k)+(w'*u+v'*k)=(w+w')*u+(v+v')*k:=by
 rw[Nat.add_mul,Nat.add_mul];omega
theorem Nm.eq{n e f:Nat}{l:List Rat}(h:Nm n e l)(hf:e=f):Nm n f l:=hf▸h
theorem Nm.addT{e f:Nat}{x y:T n}(hx:Nm n e (sh n x))(hy:Nm n f (sh n y)):Nm n (e+f+1) (sh n (T.add n x y)):=by
 have h:=hx.add hy
 rwa [a6,a6]at h
theorem Nm.subT{e f:Nat}{x y:T n}(hx:Nm n e (sh n x))(hy:Nm n f (sh n y)):Nm n (e+f+1) (sh n (T.add n x (T.neg n y))):=by
 have h:=hx.sub hy
 rwa [a6,a6]at h
theorem Nm.negT{e:Nat}{x:T n}(hx:Nm n e (sh n x)):Nm n e (sh n (T.neg n x)):=by
 have h:=hx.neg
 rwa [a6]at h
theorem Nm.mulT{R e f:Nat}(tw:Tw (lY r n) R){x y:T n}(hx:Nm n e (sh n x))(hy:Nm n f (sh n y)):Nm n (e+f+eB R n) (sh n (T.mul r n x y)):=by
 have h:=Nm.mul tw (sH r n).symm hx hy
 rwa [a6,a6,T.mul_congr n (fun j hj=>Jb hj)]at h
instance Zu.add[c:Cx r n u k]{x y:E r n}{w v w' v':Nat}[hx:Zu u k x w v][hy:Zu u k y w' v']:Zu u k (x+y) (w+w') (v+v'+1) :=
  ⟨(Nm.addT hx.nm hy.nm).mono (by rw[wD,Nat.add_mul _ 1];have:=c.k1;omega)⟩
instance Zu.sub[c:Cx r n u k]{x y:E r n}{w v w' v':Nat}[hx:Zu u k x w v][hy:Zu u k y w' v']:Zu u k (x-y) (w+w') (v+v'+1) :=
  ⟨(Nm.subT hx.nm hy.nm).mono (by rw[wD,Nat.add_mul _ 1];have:=c.k1;omega)⟩
instance Zu.neg{x:E r n}{w v:Nat}[hx:Zu u k x w v]:Zu u k (-x) w v:=⟨Nm.negT hx.nm⟩
instance Zu.mul[c:Cx r n u k]{x y:E r n}{w v w' v':Nat}[hx:Zu u k x w v][hy:Zu u k y w' v']:Zu u k (x*y) (w+w') (v+v'+1):=by
  obtain⟨R,tw,hk⟩:=c.ex;exact⟨(Nm.mulT tw hx.nm hy.nm).mono (by rw[wD,Nat.add_mul _ 1];omega)⟩
instance Zu.qE[c:Cx r n u k]{q:Rat}{w:Nat}[h:Qz u q w]:Zu u k (qE q:E r n) w 0:=⟨by
  show Nm n _ (sh n (T.ofQ n q));rw[yN];exact(Nm.ofQ c.five h.cb).eq oz⟩
theorem Cb.int{e:Nat}{z:Int}(h:z.natAbs<=2^e):Cb e [(z:Rat)] :=
 ⟨1,z.natAbs,⟨by omega,fun q hq=>⟨z,by rw[List.mem_singleton.1 hq];exact Rat.mul_one _,le_refl _⟩⟩,Nat.one_le_two_pow,h⟩
theorem Qz.int[c:Cx r n u k]{z:Int}(h:z.natAbs<=8):Qz u (z:Rat) 1:=⟨Cb.int (le_trans h (show 2^3<=_ from b8 (by have:=c.u3;omega)))⟩
instance Zu.c0[c:Cx r n u k]:Zu u k (0:E r n) 0 0:=⟨by
  show Nm n _ (sh n (T.ofQ n ((0:Nat):Rat)));rw[show(((0:Nat):Rat))=0 from rfl,T.ofQ_zero,Gt];exact⟨c.five,.inl rfl,Cb.nil.mono (zero_le _)⟩⟩
instance Zu.c1[c:Cx r n u k]:Zu u k (1:E r n) 1 0:=by
  haveI:Qz u ((1:Nat):Rat) 1:=Qz.int (c:=c) (z:=1) (by decide);exact(inferInstance:Zu u k (Go.Lw.qE ((1:Nat):Rat):E r n) 1 0)
instance Zu.c2[c:Cx r n u k]:Zu u k (2:E r n) 1 0:=by
  haveI:Qz u ((2:Nat):Rat) 1:=Qz.int (c:=c) (z:=2) (by decide);exact(inferInstance:Zu u k (Go.Lw.qE ((2:Nat):Rat):E r n) 1 0)
instance Zu.c4[c:Cx r n u k]:Zu u k (4:E r n) 1 0:=by
  haveI:Qz u ((4:Nat):Rat) 1:=Qz.int (c:=c) (z:=4) (by decide);exact(inferInstance:Zu u k (Go.Lw.qE ((4:Nat):Rat):E r n) 1 0)
instance Zu.px{p:Pn r n}{w v:Nat}[h:Zp u k p w v]:Zu u k p.1 w v:=⟨h.x⟩
instance Zu.py{p:Pn r n}{w v:Nat}[h:Zp u k p w v]:Zu u k p.2 w v:=⟨h.y⟩
theorem yX{w v w' v' u k:Nat}(h:w<=w')(h':v<=v'):w*u+v*k<=w'*u+v'*k:=Nat.add_le_add (mul_le_mul_right _ h) (mul_le_mul_right _ h')
instance Zp.mk'{x y:E r n}{w v w' v':Nat}[hx:Zu u k x w v][hy:Zu u k y w' v']:Zp u k ((x,y):Pn r n) (max w w') (max v v') :=
  ⟨hx.nm.mono (yX (Nat.le_max_left ..) (Nat.le_max_left ..)),hy.nm.mono (yX (Nat.le_max_right ..) (Nat.le_max_right ..))⟩
def R9(p q:Pn r n):Pn r n:=(p.1+q.1,p.2+q.2)
def Px(p q:Pn r n):Pn r n:=(p.1-q.1,p.2-q.2)
def OK(c:E r n)(p:Pn r n):Pn r n:=(c*p.1,c*p.2)
def Jy(p q:Pn r n):E r n:=p.1*q.1+p.2*q.2
def Rw(p q:Pn r n):E r n:=p.1*q.2-p.2*q.1
def Kf(c s:E r n)(p:Pn r n):Pn r n:=(c*p.1-s*p.2,s*p.1+c*p.2)
def pQ(x y:Rat):Pn r n:=(qE x,qE y)
def ME(p:Pn r n):Pn r n:=(-p.2,p.1)
instance Zp.add[c:Cx r n u k]{p q:Pn r n}{w v w' v':Nat}[hp:Zp u k p w v][hq:Zp u k q w' v']:Zp u k (R9 p q) (w+w') (v+v'+1) :=
  ⟨(inferInstance:Zu u k (p.1+q.1) (w+w') (v+v'+1)).nm,(inferInstance:Zu u k (p.2+q.2) (w+w') (v+v'+1)).nm⟩
instance Zp.sub[c:Cx r n u k]{p q:Pn r n}{w v w' v':Nat}[hp:Zp u k p w v][hq:Zp u k q w' v']:Zp u k (Px p q) (w+w') (v+v'+1) :=
  ⟨(inferInstance:Zu u k (p.1-q.1) (w+w') (v+v'+1)).nm,(inferInstance:Zu u k (p.2-q.2) (w+w') (v+v'+1)).nm⟩
instance Zp.scale[c:Cx r n u k]{a:E r n}{q:Pn r n}{w v w' v':Nat}[hp:Zu u k a w v][hq:Zp u k q w' v']:Zp u k (OK a q) (w+w') (v+v'+1) :=
  ⟨(inferInstance:Zu u k (a*q.1) (w+w') (v+v'+1)).nm,(inferInstance:Zu u k (a*q.2) (w+w') (v+v'+1)).nm⟩
instance Zu.dot[c:Cx r n u k]{p q:Pn r n}{w v w' v':Nat}[hp:Zp u k p w v][hq:Zp u k q w' v']:Zu u k (Jy p q) (w+w'+(w+w')) (v+v'+1+(v+v'+1)+1) :=
  (inferInstance:Zu u k (p.1*q.1+p.2*q.2) _ _)
instance Zu.cross[c:Cx r n u k]{p q:Pn r n}{w v w' v':Nat}[hp:Zp u k p w v][hq:Zp u k q w' v']:Zu u k (Rw p q) (w+w'+(w+w')) (v+v'+1+(v+v'+1)+1) :=
  (inferInstance:Zu u k (p.1*q.2-p.2*q.1) _ _)
instance Zp.turn[c:Cx r n u k]{a b:E r n}{p:Pn r n}{w v w' v' w2 v2:Nat}[ha:Zu u k a w v][hb:Zu u k b w' v'][hp:Zp u k p w2 v2] :
    Zp u k (Kf a b p) (w+w2+(w'+w2)) (v+v2+1+(v'+v2+1)+1) :=
  ⟨(inferInstance:Zu u k (a*p.1-b*p.2) _ _).nm,by
    have h:=(inferInstance:Zu u k (b*p.1+a*p.2) _ _).nm;exact h.eq (by rw[Nat.add_comm (w'+w2),Nat.add_comm (v'+v2+1)])⟩
instance Zp.ofQ[c:Cx r n u k]{x y:Rat}{w w':Nat}[hx:Qz u x w][hy:Qz u y w']:Zp u k (pQ x y:Pn r n) (max w w') (max 0 0) :=
  (inferInstance:Zp u k ((qE x,qE y):Pn r n) _ _)
instance Zp.quart{p:Pn r n}{w v:Nat}[hp:Zp u k p w v]:Zp u k (ME p) w v:=⟨(inferInstance:Zu u k (-p.2) w v).nm,hp.x⟩
end
theorem z4(rs:List (List Rt)):(llq rs).length=rs.length:=by simp[llq]
abbrev Et(ts:LL):Type:=E (aj ts) ts.length
def dE(ts:LL)(a:List Rat):Et ts:=ad ts.length a
def sX{ts:LL}(x:Et ts):List Rat:=sh ts.length x
def ak{ts:LL}(x:Et ts):Int:=T.sgn (aj ts) ts.length x
class Ct(ts:LL)(u k:outParam Nat):Prop where
  ex:∃R,Tw ts R/\eB R ts.length<=k
  k1:1<=k
  u3:3<=u
  ub:u<=1000000
  kb:k<=1000000
instance Ct.cx{ts:LL}{u k:Nat}[c:Ct ts u k]:Cx (aj ts) ts.length u k:=by
  obtain⟨R,tw,h⟩:=c.ex;exact⟨⟨R,CN tw▸tw,h⟩,c.k1,c.u3⟩
class Zl(ts:LL)(u k:Nat)(a:List Rat)(x:outParam (Et ts))(w v:outParam Nat):Prop where
  eq:ad ts.length a=x
  nm:Nm ts.length (w*u+v*k) a
section
variable{ts:LL}{u k:Nat}
instance Zl.sX{x:Et ts}{w v:Nat}[h:Zu u k x w v]:Zl ts u k (sX x) x w v:=⟨a6 _ _,h.nm⟩
instance Zl.q[c:Ct ts u k]{q:Rat}{w:Nat}[h:Qz u q w]:Zl ts u k (sh 0 (q:Rat)) (qE q:Et ts) w 0:=⟨jK _ q,by
  obtain⟨R,tw,_⟩:=c.ex;exact(Nm.ofQ tw.five h.cb).eq oz⟩
instance Zl.nil [c : Ct ts u k] : Zl ts u k [] (0 : Et ts) 0 0 := ⟨by rw [gQ]; exact E.zero_def.symm, by
  obtain⟨R,tw,_⟩:=c.ex;exact⟨tw.five,.inl rfl,Cb.nil.mono (zero_le _)⟩⟩
theorem Zl.zu{a:List Rat}{x:Et ts}{w v:Nat}(h:Zl ts u k a x w v):Zu u k x w v:=⟨by
 have h1:=h.nm;have h2:=Cb.sh h1.cb h1.nl;rw[h.eq]at h2;exact⟨h1.five,eM _ _,h2⟩⟩
theorem Zl.at{a:List Rat}{e:Nat}(h:Nm ts.length e a)(he:e<=u):Zl ts u k a (dE ts a) 1 0:=⟨rfl,h.mono oz⟩
theorem DZ(c:Ct ts u k){w v m:Nat}(h:w+v<=m):w*u+v*k<=m*1000000:=by
 have h1:w*u<=w*1000000:=mul_le_mul_left _ c.ub;have h2:v*k<=v*1000000:=mul_le_mul_left _ c.kb;omega
theorem Zl.up(c:Ct ts u k){a:List Rat}{x:Et ts}{w v m:Nat}(h:Zl ts u k a x w v)(hm:w+v<=m):Nm ts.length (m*1000000) a:=h.nm.mono (DZ c hm)
theorem Ct.kk(c:Ct ts u k){R:Nat}(h:eB R ts.length<=k):kB R ts.length<=1000000:=le_trans h c.kb
def dotE(x y z t:Et ts):Et ts:=x*z+y*t
def crsE(x y z t:Et ts):Et ts:=x*t-y*z
instance Zu.dotE[c:Ct ts u k]{x y z t:Et ts}{w1 v1 w2 v2 w3 v3 w4 v4:Nat}[Zu u k x w1 v1][Zu u k y w2 v2][Zu u k z w3 v3][Zu u k t w4 v4]:Zu u k (dotE x y z t) (w1+w3+(w2+w4)) (v1+v3+1+(v2+v4+1)+1) :=
  (inferInstance:Zu u k (x*z+y*t) _ _)
instance Zu.crsE[c:Ct ts u k]{x y z t:Et ts}{w1 v1 w2 v2 w3 v3 w4 v4:Nat}[Zu u k x w1 v1][Zu u k y w2 v2][Zu u k z w3 v3][Zu u k t w4 v4]:Zu u k (crsE x y z t) (w1+w4+(w2+w3)) (v1+v4+1+(v2+v3+1)+1) :=
  (inferInstance:Zu u k (x*t-y*z) _ _)
end
def eA(xs:List Int):List Int:=xs.mergeSort (fun a b=>decide (a<=b))
theorem yi(xs:List Int):(eA xs).Perm xs:=List.mergeSort_perm _ _
theorem IS(xs:List Int):(eA xs).Pairwise (· <= ·):=by
 have h:=List.pairwise_mergeSort (le:=fun a b:Int=>decide (a<=b)) (fun a b c h1 h2=>by simp only[decide_eq_true_eq]at *;omega) (fun a b=>by simp only[or_eq_true,decide_eq_true_eq];omega) xs;exact h.imp (fun h=>of_decide_eq_true h)
theorem LM{xs ys:List Int}(hp:ys.Perm xs)(hs:ys.Pairwise (· <= ·)):ys=eA xs :=
 List.Perm.eq_of_pairwise (le:=fun a b:Int=>a<=b) (fun a b _ _ h1 h2=>by omega) hs (IS xs) (hp.trans (yi xs).symm)
theorem In(xs:List Int):(eA xs).length=xs.length:=(yi xs).length_eq
theorem zI{xs:List Int}{b:Int}:b∈eA xs↔b∈xs:=(yi xs).mem_iff
theorem EY(e:Nat)(l:List Nat):eF (e::l)=if e≠0 then e else eF l:=rfl
theorem oA{α:Type}{f:α->Nat}{L:List α}(h:∀x∈L,f x=0):eF (L.map f)=0:=by
 induction L with
 |nil=>rfl
 |cons x L ih =>
  rw[map_cons,EY,if_neg (by rw[h x (mem_cons_self ..)];simp)];exact ih (fun y hy=>h y (mem_cons_of_mem _ hy))
def jv(g:Gr)(j:Jt):Int:=if g.bo.contains j.a=true then(if g.bo.contains j.b=true then -1 else j.b)else j.a
def fB(l:Li)(g:Gr):List Int:=g.jo.map (fun j=>jv g (l.jo.getD j.toNat default))
theorem o0(l:Li)(g:Gr):(fB l g).length=g.jo.length:=by unfold fB;rw[length_map]
theorem Po{l:Li}(hl:aB l=0){g:Gr}(hg:GrOk l g):∀b∈fB l g,b<l.bo.length:=by
 intro b hb;unfold fB at hb;obtain⟨z,hz,rfl⟩:=List.mem_map.1 hb;obtain⟨z0,z1⟩:=hg.j z hz;obtain⟨j,hj⟩:=aw (l:=l.jo) (i:=z.toNat) oz;rw[aD hj];obtain⟨i1,i2,_⟩:=dZ hl hj;have i1:=dj i1;have i2:=dj i2;unfold jv;split
 ·split
  ·omega
  ·omega
 ·omega
def cK(l:Li)(g:Gr)(own:Bool):List Int:=fB l g++(if own=true then g.bo else[])
theorem Aa{l:Li}(hl:aB l=0){g:Gr}(hg:GrOk l g){own:Bool}:∀b∈cK l g own,b<l.bo.length:=by
 intro b hb;rcases List.mem_append.1 hb with hb |hb
 ·exact Po hl hg b hb
 ·split at hb
  ·exact(hg.b b hb).2
  ·cases hb
theorem Pe{l:Li}{g:Gr}(hg:GrOk l g){own:Bool}:(cK l g own).length<=5:=by
 unfold cK;have h1:=hg.lb;have h2:=hg.lj;rw[length_append,o0];split
 ·omega
 ·simp only[length_nil];omega
def gf(a:As)(b:Int):Nat:=if b<0 then 0 else aV a.rs (a.bs.getD b.toNat default).l
def ja(l:Li)(k:Int):Gr:=(aN l).getD k.toNat default
def jL(l:Li)(k:Int)(a:As)(own:Bool):Nat :=
  if cm l≠0 then cm l else if k<0\/((aN l).length:Int)<=k then 9 else if a.bs.length≠l.bo.length then 10 else if a9 a.rs≠0 then a9 a.rs
  else eF ((eA (cK l (ja l k) own)).map (gf a))
def fC(l:Li)(k:Int)(a:As)(own:Bool):Nat:=if aB l≠0 then aB l else jL l k a own
section
variable{l:Li}{k:Int}{a:As}{own:Bool}
theorem qj(h:aB l=0):fC l k a own=jL l k a own:=by unfold fC;rw[if_neg oz]
theorem OY{e:Nat}(he:(if aB l=0 then cm l else aB l)=e)(h:e≠0):fC l k a own=e:=by
 by_cases h1:aB l=0
 ·rw[if_pos h1]at he;rw[qj h1];unfold jL;rw[if_pos oz];exact he
 ·rw[if_neg h1]at he;unfold fC;rw[if_pos h1];exact he
theorem B8(h:(if aB l=0 then cm l else aB l)=0):aB l=0/\cm l=0:=by
 by_cases h1:aB l=0
 ·rw[if_pos h1]at h;exact⟨h1,h⟩
 ·rw[if_neg h1]at h;exact absurd h h1
theorem KR(hs:cm l=0)(hk:k<0\/((aN l).length:Int)<=k):jL l k a own=9:=by unfold jL;rw[if_neg oz,if_pos hk]
theorem UA(hs:cm l=0)(hk:¬(k<0\/((aN l).length:Int)<=k))(hb:a.bs.length≠l.bo.length):jL l k a own=10:=by
 unfold jL;rw[if_neg oz,if_neg hk,if_pos hb]
theorem Tr(hs:cm l=0)(hk:¬(k<0\/((aN l).length:Int)<=k))(hb:a.bs.length=l.bo.length)(hc:a9 a.rs≠0):jL l k a own=a9 a.rs:=by
 unfold jL;rw[if_neg oz,if_neg hk,if_neg oz,if_pos hc]
theorem EB(hs:cm l=0)(hk:¬(k<0\/((aN l).length:Int)<=k))(hb:a.bs.length=l.bo.length)(hc:a9 a.rs=0):jL l k a own=eF ((eA (cK l (ja l k) own)).map (gf a)):=by
 unfold jL;rw[if_neg oz,if_neg hk,if_neg oz,if_neg oz]
end
structure DyOk(E:Nat)(l:Li)(k:Int)(a:As)(own:Bool)(i:Nat)(g:Gr):Prop where
  li:aB l=0
  sp:cm l=0
  hk:k=(i:Int)
  hg:(aN l)[i]?=some g
  ok:GrOk l g
  dy:DyK l g
  ln:a.bs.length=l.bo.length
  chk:a9 a.rs=0
  nd:∀b∈cK l g own,gf a b=0
  sm:∀b∈cK l g own,0<=b->∀p,a.bs[b.toNat]?=some p->∀x∈p.l,NR x E
def ry(E:Nat)(l:Li)(k:Int)(a:As)(own:Bool):Prop:=∀b∈cK l (ja l k) own,0<=b->∀p,a.bs[b.toNat]?=some p->∀x∈p.l,NR x E
theorem BA{l:Li}{k:Int}{a:As}{own:Bool}{E:Nat}(hs:ry E l k a own)(h:fC l k a own=0):∃i g,DyOk E l k a own i g:=by
 unfold fC at h;split at h
 ·rename_i h1;exact absurd h h1
 ·rename_i h1;have h1:=Decidable.not_not.1 h1;unfold jL at h;split at h
  ·rename_i h2;exact absurd h h2
  ·rename_i h2;split at h
   ·cases h
   ·rename_i h3;split at h
    ·cases h
    ·rename_i h4;split at h
     ·rename_i h5;exact absurd h h5
     ·rename_i h5;obtain⟨g,hg⟩:=aw (l:=aN l) (i:=k.toNat) oz;have e:ja l k=g:=aD hg;rw[e]at h;obtain⟨d1,d2⟩:=tL h1 (mem_of_getElem? hg);refine⟨k.toNat,g,h1,by omega,by omega,hg,d2,d1,by omega,by omega,fun b hb=>?_,e▸hs⟩;exact nV h _ (List.mem_map.2 ⟨b,zI.2 hb,rfl⟩)
theorem DyOk.body{E:Nat}{l:Li}{k:Int}{a:As}{own:Bool}{i:Nat}{g:Gr}(h:DyOk E l k a own i g){b:Int}(hb:b∈cK l g own)(h0:0<=b):∃p,a.bs[b.toNat]?=some p/\aV a.rs p.l=0/\∀x∈p.l,NR x E:=by
 have h1:=Aa h.li h.ok b hb;obtain⟨p,hp⟩:=aw (l:=a.bs) (i:=b.toNat) (by have:=h.ln;omega);have h2:=h.nd b hb;unfold gf at h2;rw[if_neg oz,aD hp]at h2;exact⟨p,hp,h2,h.sm b hb h0 p hp⟩
theorem LH(n:Nat):50000000000<=lm n:=km n
theorem G5{k:Int}{n:Nat}(h:cond (aa .lss k 0) true (aa .geq k (n:Int))=true):k<0\/(n:Int)<=k:=by
 by_cases h1:k<0
 ·exact .inl h1
 ·refine .inr ?_;have h2:aa .lss k 0=false:=decide_eq_false h1;rw[h2]at h;exact of_decide_eq_true (p:=k>=n) h
theorem Gu{k:Int}{n:Nat}(h:cond (aa .lss k 0) true (aa .geq k (n:Int))=false):¬(k<0\/(n:Int)<=k):=by
 intro h1
 by_cases h2:k<0
 ·rw[show aa .lss k 0=true from decide_eq_true h2]at h;cases h
 ·rw[show aa .lss k 0=false from decide_eq_false h2]at h;have h3:¬(k>=n):=of_decide_eq_false h;omega
theorem D4{k:Int}{n:Nat}(h:¬(k<0\/(n:Int)<=k)):∃i:Nat,k=i/\i<n:=⟨k.toNat,by omega,by omega⟩
theorem yt{a b:Nat}(h:aa .neq (a:Int) (b:Int)=true):a≠b:=by
 have h1:((a:Int) != (b:Int))=true:=h;have h2:=bne_iff_ne.1 h1;omega
theorem y7{a b:Nat}(h:aa .neq (a:Int) (b:Int)=false):a=b:=by
 have h1:((a:Int) != (b:Int))=false:=h;have h2:(a:Int)=b:=by simpa only[bne_eq_false_iff_eq]using h1
 omega
theorem qG{r:(k:Nat)->T k}{n:Nat}(p q:Rat):(qE (p+q):E r n)=qE p+qE q:=T.ofQ_add n p q
theorem Js{r:(k:Nat)->T k}{n:Nat}(p:Rat):(qE (-p):E r n)=-qE p:=T.ofQ_neg n p
theorem rv{r:(k:Nat)->T k}{n:Nat}(p q:Rat):(qE (p-q):E r n)=qE p-qE q:=by
 rw[Rat.sub_eq_add_neg,qG,Js];grind
theorem mf{r:(k:Nat)->T k}{n:Nat}(p q:Rat):(qE (p*q):E r n)=qE p*qE q:=(T.mul_ofQ r n p q).symm
def a5(l:Li)(body pt:Int):Rat×Rat:=(((cH l body).getD pt.toNat default).x.q,((cH l body).getD pt.toNat default).y.q)
abbrev qC(p:Rat×Rat):List AV:=[bl (rt p.1).neg,ws (rt p.1).num,ws (rt p.1).den,bl (rt p.2).neg,ws (rt p.2).num,ws (rt p.2).den]
abbrev qP(p:Rat×Rat):AV:=.agg (qC p)
structure Sm(e:Nat)(p:Rat×Rat):Prop where
  x:Qb e p.1
  y:Qb e p.2
structure MkP(l:Li)(body pt:Int)(n k:Nat)(bd:Bd)(m:Mk):Prop where
  hn:body=n
  hk:pt=k
  gbd:l.bo[n]?=some bd
  gm:bd.pts[k]?=some m
  ex:m.x=rt (a5 l body pt).1
  ey:m.y=rt (a5 l body pt).2
  sm:Sm 1000 (a5 l body pt)
theorem qS{l:Li}(hl:l.ok)(hli:aB l=0){body pt:Int}(h1:bn body l.bo.length=true)(h2:bn pt (cH l body).length=true):∃n k bd m,MkP l body pt n k bd m:=by
 obtain⟨bd,g1,g2,g3,g4⟩:=o4 h1;rw[g2]at h2;obtain⟨m,g5,g6,g7,g8⟩:=s6 h2;have hv:=Lx hli g1 g5;have ho:=(hl.bo bd g3).pts m g7;have e:a5 l body pt=(m.x.q,m.y.q):=by unfold a5;rw[g2,g6]
 exact⟨body.toNat,pt.toNat,bd,m,by omega,by omega,g1,g5,by rw[e];exact Rt.eq_rt ho.x hv.1,by rw[e];exact Rt.eq_rt ho.y hv.2,by rw[e];exact⟨ho.qx.mono oz,ho.qy.mono oz⟩⟩
theorem kQ{l:Li}(hl:l.ok)(hli:aB l=0){body pt:Int}(h1:bn body l.bo.length=true)(h2:bn pt (cH l body).length=true):Sm 1000 (a5 l body pt):=by
 obtain⟨n,k,bd,m,h⟩:=qS hl hli h1 h2;exact h.sm
def bJ(l:Li)(a:As)(body pt:Int):Et (llq a.rs)×Et (llq a.rs):=rz l a body pt
structure PlP(E:Nat)(l:Li)(a:As)(body pt:Int)(n k:Nat)(bd:Bd)(m:Mk)(b:Pl):Prop where
  mp:MkP l body pt n k bd m
  gb:a.bs[n]?=some b
  eq:rz l a body pt=oy (llq a.rs) b m
  av:b.av=Pq.av ⟨lq b.c,lq b.s,lq b.x,lq b.y⟩
  ok:Pq.ok (llq a.rs).length E ⟨lq b.c,lq b.s,lq b.x,lq b.y⟩
def Pd(E:Nat)(a:As)(body:Int):Prop:=∃p,a.bs[body.toNat]?=some p/\aV a.rs p.l=0/\∀x∈p.l,NR x E
theorem v6{E:Nat}{l:Li}(hl:l.ok)(hli:aB l=0){a:As}(al:AB a)(hc:a9 a.rs=0){body pt:Int}(h1:bn body l.bo.length=true)(h2:bn pt (cH l body).length=true)(hb:Pd E a body):∃n k bd m b,PlP E l a body pt n k bd m b:=by
 obtain⟨n,k,bd,m,h⟩:=qS hl hli h1 h2;obtain⟨b,gb,hb,hbn⟩:=hb;obtain⟨tw,_⟩:=cA al.tr hc;have h5:a.rs.length<=5:=by have:=tw.five;rwa [z4]at this
 have h9:=Kn hb hbn h5;have e:body.toNat=n:=by have:=h.hn;omega
 have e2:pt.toNat=k:=by have:=h.hk;omega
 rw[e]at gb;obtain⟨bd',g1,g2,_,_⟩:=o4 h1;rw[e]at g1;have:bd'=bd:=Option.some.inj (g1.symm.trans h.gbd);subst this;refine⟨n,k,bd',m,b,h,gb,?_,h9.1,by rw[z4];exact h9.2⟩;unfold rz;rw[e,e2,aD gb,g2,aD h.gm]
structure DyS(a:As):Prop where
  tr:TR a.rs 64990
  one:a9 a.rs=0->(llq a.rs).length<=1
theorem DyS.ct{a:As}(h:DyS a)(hc:a9 a.rs=0):Ct (llq a.rs) 310000 65000:=by
 obtain⟨tw,_⟩:=cA h.tr hc;refine⟨⟨64990,tw,?_⟩,by omega,by omega,by omega,by omega⟩;have h1:=g9 64990 (h.one hc);have h2:eB 64990 1=64992:=by simp only[eB]
 omega
theorem mD{l:Li}(hl:l.ok)(hli:aB l=0){a:As}(al:AB a)(S:DyS a)(hc:a9 a.rs=0){body pt:Int}(h1:bn body l.bo.length=true)(h2:bn pt (cH l body).length=true)(hb:Pd 3900000 a body) :
  Zu 310000 65000 (bJ l a body pt).1 40 40/\Zu 310000 65000 (bJ l a body pt).2 40 40:=by
 obtain⟨n,k,bd,m,b,hp⟩:=v6 hl hli al hc h1 h2 hb;obtain⟨tw,_⟩:=cA S.tr hc
 have kb:kB 64990 (llq a.rs).length<=65000:=by
  have h1:=g9 64990 (S.one hc);have h2:eB 64990 1=64992:=by simp only[eB]
  show eB 64990 _<=_;omega
 have qx:Qb 1000 m.x.q:=by rw[hp.mp.ex,bA];exact hp.mp.sm.x
 have qy:Qb 1000 m.y.q:=by rw[hp.mp.ey,bA];exact hp.mp.sm.y
 have h:=xK tw hp.ok qx qy;unfold bJ;rw[hp.eq];exact⟨⟨h.1.mono oz⟩,⟨h.2.mono oz⟩⟩
theorem oT{rs:List (List Rt)}{r:Nat}(h:TR rs r)(hc:a9 rs=0):aI (llq rs)=.agg [.lst 1 (rs.map nR)]:=(cA h hc).2.symm
theorem OS{x y:Option Blk}{k:Nat}{z:Blk}(h:lk [(1000,x),(1001,y)] k=some z):1000<=k:=by
 rw[aK]at h;split at h
 ·omega
 ·rw[aK]at h;split at h
  ·omega
  ·cases h
theorem mc{s:AS}{k k':Nat}{x y:Blk}(h:lk s.hp k=some x)(h':lk s.hp k'=some y):∀q z,lk [(k,some x),(k',some y)] q=some z->lk s.hp q=some z:=by
 intro q z hz;rw[aK]at hz;split at hz
 ·rename_i e;cases hz;rw[e];exact h
 ·rw[aK]at hz;split at hz
  ·rename_i e;cases hz;rw[e];exact h'
  ·cases hz
def b9(p q:Rat×Rat):Rat×Rat:=(p.1-q.1,p.2-q.2)
def bW(p q:Rat×Rat):Rat:=p.1*q.1+p.2*q.2
def zj(p q:Rat×Rat):Rat:=p.1*q.2-p.2*q.1
theorem Sm.sub{e f:Nat}{p q:Rat×Rat}(hp:Sm e p)(hq:Sm f q):Sm (e+f+1) (b9 p q):=⟨hp.x.sub hq.x,hp.y.sub hq.y⟩
theorem Sm.dot{e f:Nat}{p q:Rat×Rat}(hp:Sm e p)(hq:Sm f q):Qb (e+f+(e+f)+1) (bW p q):=(hp.x.mul hq.x).add (hp.y.mul hq.y)
theorem Sm.cross{e f:Nat}{p q:Rat×Rat}(hp:Sm e p)(hq:Sm f q):Qb (e+f+(e+f)+1) (zj p q):=(hp.x.mul hq.y).sub (hp.y.mul hq.x)
theorem Sm.mono{e f:Nat}{p:Rat×Rat}(hp:Sm e p)(h:e<=f):Sm f p:=⟨hp.x.mono h,hp.y.mono h⟩
theorem tO{q:Rat}{e w:Nat}(h:Qb e q)(he:e<=w*310000):Qz 310000 q w:=⟨(Cb.one h).mono he⟩
def ai(l:Li)(j:Jt)(b:Int):Rat×Rat:=if j.a=b then a5 l b j.point else a5 l b j.on
def aP(l:Li)(a:As)(j:Jt)(b:Int):Et (llq a.rs)×Et (llq a.rs):=if j.a=b then bJ l a j.b j.on else bJ l a j.a j.point
structure PinP(E:Nat)(l:Li)(a:As)(j:Jt)(b:Int):Prop where
  tie:(j.a=b/\Pd E a j.b)\/(j.a≠b/\j.b=b/\Pd E a j.a)
theorem PinP.or{E:Nat}{l:Li}{a:As}{j:Jt}{b:Int}(h:PinP E l a j b):j.a=b\/j.b=b:=by
 rcases h.tie with h9 |h9
 ·exact .inl h9.1
 ·exact .inr h9.2.1
theorem ma{l:Li}(hl:l.ok)(hli:aB l=0){a:As}(al:AB a)(S:DyS a)(hc:a9 a.rs=0){i:Nat}{j:Jt}(hj:l.jo[i]?=some j){b:Int}(h:PinP 3900000 l a j b) :
  Zu 310000 65000 (aP l a j b).1 40 40/\Zu 310000 65000 (aP l a j b).2 40 40:=by
 obtain⟨i1,i2,i3,i4,_⟩:=dZ hli hj;unfold aP;rcases h.tie with⟨e,hb⟩ |⟨e,e2,hb⟩
 ·rw[if_pos e];exact mD hl hli al S hc i2 i4 hb
 ·rw[if_neg e];exact mD hl hli al S hc i1 i3 hb
theorem ig{l:Li}(hl:l.ok)(hli:aB l=0){i:Nat}{j:Jt}(hj:l.jo[i]?=some j){b:Int}(h:j.a=b\/j.b=b):Sm 1000 (ai l j b):=by
 obtain⟨i1,i2,i3,i4,_⟩:=dZ hli hj;unfold ai
 by_cases e:j.a=b
 ·rw[if_pos e];subst e;exact kQ hl hli i1 i3
 ·rw[if_neg e];rcases h with h |h
  ·exact absurd h e
  ·subst h;exact kQ hl hli i2 i4
theorem RE{bs:List Int}{b:Int}(h:b∈bs):bs.contains b=true:=List.contains_iff_mem.2 h
theorem Cl{bs:List Int}{b:Int}(h:b∉bs):bs.contains b=false:=by
 cases hc:bs.contains b with
 |false=>rfl
 |true=>exact absurd (List.contains_iff_mem.1 hc) h
theorem DyOk.ancs{E:Nat}{l:Li}{k:Int}{a:As}{own:Bool}{n:Nat}{g:Gr}(h:DyOk E l k a own n g){z b:Int}{j:Jt}(hz:z∈g.jo)(hj:l.jo[z.toNat]?=some j)(hb:jv g j=b)(h0:0<=b):Pd E a b:=by
 refine h.body ?_ h0;unfold cK fB;refine List.mem_append_left _ (List.mem_map.2 ⟨z,hz,?_⟩);rw[aD hj];exact hb
theorem DyOk.pin{E:Nat}{l:Li}{k:Int}{a:As}{own:Bool}{n:Nat}{g:Gr}(h:DyOk E l k a own n g){kd z b:Int}{j:Jt}{bs:List Int}(hbs:g.bo=bs)(t:TieO l kd bs z b j)(hz:z∈g.jo)(hb:b∈bs):PinP E l a j b:=by
 subst hbs;obtain⟨i1,i2,_⟩:=dZ h.li t.hj;have i1:=dj i1;have i2:=dj i2;rcases t.tie with⟨e,hn⟩ |⟨e,hn⟩
 ·refine⟨.inl ⟨e,h.ancs hz t.hj ?_ i2.1⟩⟩;unfold jv;rw[if_pos (RE (e▸hb)),if_neg (by rw[Cl hn];simp)]
 ·refine⟨.inr ⟨fun e2=>hn (e2▸hb),e,h.ancs hz t.hj ?_ i1.1⟩⟩;unfold jv;rw[if_neg (by rw[Cl hn];simp)]
theorem DyOk.own{E:Nat}{l:Li}{k:Int}{a:As}{n:Nat}{g:Gr}(h:DyOk E l k a true n g){b:Int}(hb:b∈g.bo):Pd E a b:=by
 refine h.body ?_ (h.ok.b b hb).1;unfold cK;rw[if_pos rfl];exact List.mem_append_right _ hb
structure RrrP(E:Nat)(l:Li)(a:As)(g:Gr)(i k z0 z1 z2:Int)(j0 j1 j2:Jt):Prop where
  eq:g=⟨1,[i,k],[z0,z1,z2],0⟩
  h0:l.jo[z0.toNat]?=some j0
  h1:l.jo[z1.toNat]?=some j1
  h2:l.jo[z2.toNat]?=some j2
  p0:PinP E l a j0 i
  p1:PinP E l a j1 k
  t1:j2.a=i\/j2.b=i
  t2:j2.a=k\/j2.b=k
structure SlP(E:Nat)(l:Li)(a:As)(g:Gr)(kd i z0 z1:Int)(j0 j:Jt):Prop where
  eq:g=⟨kd,[i],[z0,z1],0⟩
  h0:l.jo[z0.toNat]?=some j0
  h1:l.jo[z1.toNat]?=some j
  p0:PinP E l a j0 i
  p1:PinP E l a j i
  hk:j.kind≠0
theorem DyOk.rrr{E:Nat}{l:Li}{k:Int}{a:As}{own:Bool}{n:Nat}{g:Gr}(h:DyOk E l k a own n g)(hk:g.kind=1):∃i k z0 z1 z2 j0 j1 j2,RrrP E l a g i k z0 z1 z2 j0 j1 j2:=by
 have hd:=h.dy;cases hd with
 |drv _ _ _ _=>exact absurd hk (by simp)
 |pr _ _ _=>exact absurd hk (by simp)
 |rp _ _ _=>exact absurd hk (by simp)
 | @rrr i k z0 z1 z2 j0 j1 j2 ne t0 t1 h0 h2 kd tie =>
  refine⟨i,k,z0,z1,z2,j0,j1,j2,rfl,t0.hj,t1.hj,h2,h.pin rfl t0 (by simp) (by simp),h.pin rfl t1 (by simp) (by simp),?_,?_⟩
  ·rcases tie with h9 |h9
   ·exact .inl h9.1
   ·exact .inr h9.1
  ·rcases tie with h9 |h9
   ·exact .inr h9.2
   ·exact .inl h9.2
theorem DyOk.pr{E:Nat}{l:Li}{k:Int}{a:As}{own:Bool}{n:Nat}{g:Gr}(h:DyOk E l k a own n g)(hk:g.kind=2):∃i z0 z1 j0 j,SlP E l a g 2 i z0 z1 j0 j/\j.a=i/\Pd E a j.b:=by
 have hd:=h.dy;cases hd with
 |drv _ _ _ _=>exact absurd hk (by simp)
 |rrr _ _ _ _ _ _ _=>exact absurd hk (by simp)
 |rp _ _ _=>exact absurd hk (by simp)
 | @pr i z0 z1 j0 j1 t0 t1 ha =>
  have p1:PinP E l a j1 i:=h.pin rfl t1 (by simp) (by simp);refine⟨i,z0,z1,j0,j1,⟨rfl,t0.hj,t1.hj,h.pin rfl t0 (by simp) (by simp),p1,by rw[t1.kd];decide⟩,ha,?_⟩;rcases p1.tie with h9 |h9
  ·exact h9.2
  ·exact absurd ha h9.1
theorem DyOk.rp{E:Nat}{l:Li}{k:Int}{a:As}{own:Bool}{n:Nat}{g:Gr}(h:DyOk E l k a own n g)(h0:g.kind≠0)(h1:g.kind≠1)(h2:g.kind≠2):∃i z0 z1 j0 j,SlP E l a g 3 i z0 z1 j0 j/\j.a≠i/\j.b=i/\Pd E a j.a:=by
 have hd:=h.dy;cases hd with
 |drv _ _ _ _=>exact absurd rfl h0
 |rrr _ _ _ _ _ _ _=>exact absurd rfl h1
 |pr _ _ _=>exact absurd rfl h2
 | @rp i z0 z1 j0 j1 t0 t1 ha =>
  have p1:PinP E l a j1 i:=h.pin rfl t1 (by simp) (by simp);refine⟨i,z0,z1,j0,j1,⟨rfl,t0.hj,t1.hj,h.pin rfl t0 (by simp) (by simp),p1,by rw[t1.kd];decide⟩,ha,?_⟩;rcases p1.tie with h9 |h9
  ·exact absurd h9.1 ha
  ·exact⟨h9.2.1,h9.2.2⟩
theorem I7{ts:LL}{r e f:Nat}(tw:Tw ts r){b:Pl}{q:Rat×Rat}(hb:Pq.ok ts.length e ⟨lq b.c,lq b.s,lq b.x,lq b.y⟩)(hq:Sm f q) :
  Nm ts.length (3*e+2*f+2*kB r ts.length+10) (sh ts.length (pN ts (jq ts b.c) (jq ts b.s) (jq ts b.x) q.1 q.2))/\Nm ts.length (3*e+2*f+2*kB r ts.length+10) (sh ts.length (qB ts (jq ts b.c) (jq ts b.s) (jq ts b.y) q.1 q.2)):=by
 have nx:=Nm.ofQ tw.five (Cb.one hq.x);have ny:=Nm.ofQ tw.five (Cb.one hq.y);have h1:=(qK tw hb.c hb.s nx ny).add hb.x;rw[rN]at h1;have h2:=(pX tw hb.c hb.s nx ny).add hb.y;rw[sI]at h2;exact⟨h1.mono oz,h2.mono oz⟩
def bT(c p:Rat×Rat):Rat:=bW (b9 c p) (b9 c p)
theorem KZ{e f:Nat}{c p:Rat×Rat}(hc:Sm e c)(hp:Sm f p):Qb (e+f+1+(e+f+1)+(e+f+1+(e+f+1))+1) (bT c p):=(hc.sub hp).dot (hc.sub hp)
def dA(l:Li)(g:Gr)(n:Nat):Jt:=l.jo.getD (g.jo.getD n 0).toNat default
def eW(g:Gr)(n:Nat):Int:=g.bo.getD n 0
section
variable(l:Li)(a:As)
def dh(i:Int)(j:Jt):Rat×Rat:=b9 (a5 l i j.to) (a5 l i j.on)
def cP(i:Int)(j0 j:Jt):Rat:=zj (dh l i j) (b9 (a5 l i j.on) (ai l j0 i))
def jE(i:Int)(j:Jt):Rat:=bW (dh l i j) (dh l i j)
def bu{ts:LL}(p q:Et ts×Et ts):Et ts×Et ts:=(p.1-q.1,p.2-q.2)
def oS{ts:LL}(p q:Et ts×Et ts):Et ts:=dotE p.1 p.2 q.1 q.2
def vz{ts:LL}(p q:Et ts×Et ts):Et ts:=crsE p.1 p.2 q.1 q.2
def dt(i:Int)(j0 j:Jt):Et (llq a.rs)×Et (llq a.rs):=bu (bJ l a j.a j.point) (aP l a j0 i)
def cJ(i:Int)(j0 j:Jt):Et (llq a.rs):=oS (dt l a i j0 j) (dt l a i j0 j)
end
section
variable{E:Nat}{l:Li}{a:As}{g:Gr}
theorem RrrP.at{i k z0 z1 z2:Int}{j0 j1 j2:Jt}(h:RrrP E l a g i k z0 z1 z2 j0 j1 j2):dA l g 0=j0/\dA l g 1=j1/\dA l g 2=j2/\eW g 0=i/\eW g 1=k/\g.kind=1:=by
 rw[h.eq];exact⟨aD h.h0,aD h.h1,aD h.h2,rfl,rfl,rfl⟩
theorem SlP.at{kd i z0 z1:Int}{j0 j:Jt}(h:SlP E l a g kd i z0 z1 j0 j):dA l g 0=j0/\dA l g 1=j/\eW g 0=i/\g.kind=kd:=by
 rw[h.eq];exact⟨aD h.h0,aD h.h1,rfl,rfl⟩
end
section
variable{ts:LL}
def aC(p q:Et ts×Et ts):Et ts:=oS (bu p q) (bu p q)
theorem BV(q:Rat):ak (qE q:Et ts)=bH q:=T.sgn_ofQ _ _ q
theorem oe(x:Rat):0<=x*x:=by
 rcases(Rat.le_total:0<=x\/x<=0)with h |h
 ·exact Rat.mul_nonneg h h
 ·have h1 : 0 <= -x := by grind
  have h2:=Rat.mul_nonneg h1 h1;grind
theorem Sf(p q:Rat×Rat):0<=bT p q:=by
 unfold bT bW b9;have h1:=oe (p.1-q.1);have h2:=oe (p.2-q.2);dsimp only;grind
theorem A6(p q:Rat×Rat):0<=ak (qE (bT p q):Et ts):=by
 rw[BV];have h:=Sf p q;unfold bH;split
 ·grind
 ·split <;> omega
def bC(p:Et ts×Et ts)(r:Et ts)(q:Et ts×Et ts)(s:Et ts):Et ts:=qE 4*(r*aC p q)-((r+aC p q)-s)*((r+aC p q)-s)
end
section
variable{E:Nat}{l:Li}{a:As}{g:Gr}
end
theorem DyOk.ne{E:Nat}{l:Li}{k:Int}{a:As}{own:Bool}{n:Nat}{i k2 z0 z1 z2:Int}(h:DyOk E l k a own n ⟨1,[i,k2],[z0,z1,z2],0⟩):i≠k2:=by
 have hd:=h.dy;generalize hg:(⟨1,[i,k2],[z0,z1,z2],0⟩:Gr)=g at hd;cases hd with
 |drv _ _ _ _=>simp at hg
 |pr _ _ _=>simp at hg
 |rp _ _ _=>simp at hg
 |rrr ne _ _ _ _ _ _=>simp at hg;obtain⟨⟨rfl,rfl⟩,_⟩:=hg;exact ne
structure Bulk{H:Type}(bk:DataW H->Nat)(bka:List (DataW H)->Nat):Prop where
  one:∀d,1<=bk d
  nil:bka []=0
  cons:∀d l,bka (d::l)=bk d+bka l
  slice:∀e s,bka e+1<=bk (.slice e s)
  agg:∀l,bka l<=bk (.agg l)
section
variable{P:Program}{W:World}{H:Type}{enc:TypeId×Value->H}{bk:DataW H->Nat}{bka:List (DataW H)->Nat}
theorem Bulk.pick(B:Bulk bk bka){α:Type}{m:α->Nat}:∀{l:List α}{xs:List (DataW H)},l.length<=xs.length->(∀(i:Nat)(a:α),l[i]?=some a->∃x,xs[i]?=some x/\m a<=bk x)->(l.map m).sum<=bka xs
 |[],xs,_,_=>by simp
 |a::l,[],hl,_=>by simp at hl
 |a::l,x::xs,hl,h=>by
  obtain⟨y,hy,h1⟩:=h 0 a rfl;cases hy;have h2:=B.pick (l:=l) (xs:=xs) (by simpa using hl) (fun i b hb=>h (i+1) b hb);rw[B.cons,map_cons,List.sum_cons];omega
def rF(P:Program)(W:World)(enc:TypeId×Value->H)(bk:DataW H->Nat)(t:TypeId){α:Type}(f:α->AV)(p:α->Prop)(m:α->Nat):Prop :=
  ∀(sp:Nat->Bool)(fuel:Nat)(cs:List Value)(x:DataW H×List MemPlace),DataW.trod enc P W 0 sp true fuel t cs=some x->(∀n∈x.1.weights P t,n<=reachBytes)->∃a,p a/\nv W cs (f a).cells/\m a<=bk x.1
theorem dm.m{t:TypeId}{α:Type}{f:α->AV}{p:α->Prop}(h:dm P W enc t f p):rF P W enc bk t f p (fun _=>0):=by
 intro sp fuel cs x hx hw;obtain⟨a,h1,h2⟩:=h sp fuel cs x hx hw;exact⟨a,h1,h2,zero_le _⟩
theorem dm.m1(B:Bulk bk bka){t:TypeId}{α:Type}{f:α->AV}{p:α->Prop}(h:dm P W enc t f p):rF P W enc bk t f p (fun _=>1):=by
 intro sp fuel cs x hx hw;obtain⟨a,h1,h2⟩:=h sp fuel cs x hx hw;exact⟨a,h1,h2,B.one _⟩
theorem rF.map{α β:Type}{t:TypeId}{f:α->AV}{p:α->Prop}{m:α->Nat}(h:rF P W enc bk t f p m)(g:α->β)(f':β->AV)(p':β->Prop)(m':β->Nat)(hg:∀a,p a->p' (g a)/\f' (g a)=f a/\m' (g a)<=m a):rF P W enc bk t f' p' m':=by
 intro sp fuel cs x hx hwt;obtain⟨a,ha,hc,hm⟩:=h sp fuel cs x hx hwt;obtain⟨h1,h2,h3⟩:=hg a ha;exact⟨g a,h1,by rw[h2];exact hc,le_trans h3 hm⟩
end
open Go.Proofs
section
variable{W:World}{H:Type}{enc:TypeId×Value->H}
theorem Ub:dm prog W enc 349 (fun n:Nat=>u32 n) (fun n=>n<4294967296) :=
 (Eh (k:=.u32) Tryz.underlying349).map Int.toNat _ _ (fun n h=>by
  have h1:0<=n/\n<=4294967295:=by simpa[Lit.wf,IntKind.min,IntKind.max,IntKind.signed,IntKind.bits]using h
  have h2:((n.toNat:Nat):Int)=n:=by omega
  exact⟨by omega,by unfold u32;rw[h2]⟩)
theorem Dz:dm prog W enc 43 ws (fun l=>Ws l/\l.length<=281474976710656) :=
 (oR Tryz.underlying43 (n:=1) (by kernel_rfl) oz (by kernel_rfl) Ub (fun _=>rfl)).map id _ _ (fun l h=>⟨⟨fun x hx=>h.1 x hx,h.2⟩,rfl⟩)
theorem FM:dm prog W enc 4 bl (fun _=>True):=OF Tryz.underlying4
theorem nE:dm prog W enc 3 i64 (fun _=>True):=(Eh (k:=.i64) Tryz.underlying3).map id _ _ (fun n h=>⟨trivial,rfl⟩)
theorem tj:dm prog W enc 9 (fun s:ByteArray=>AV.v (.string s)) (fun s=>s.size<=281474976710656):=QX Tryz.underlying9
theorem yG:dm prog W enc 45 Rt.av Rt.wok :=
 (nI (n := 3) Tryz.underlying45 (by kernel_rfl)
  (.cons rfl (n:=1) (by kernel_rfl) FM (fun _=>rfl) (.cons rfl (n:=1) (by kernel_rfl) Dz (fun _=>rfl) (.cons rfl (n:=1) (by kernel_rfl) Dz (fun _=>rfl) (.nil _)))) (fun _=>rfl)).map
  (fun z=>⟨z.1,z.2.1,z.2.2.1⟩) _ _ (fun z h=>⟨⟨h.2.1.1,h.2.2.1.1⟩,rfl⟩)
theorem OQ:dm prog W enc 47 Tn.av (fun x=>x.t.wok) :=
 (nI (n := 4) Tryz.underlying47 (by kernel_rfl) (.cons rfl (n := 3) (by kernel_rfl) yG (fun _ => rfl) (.cons rfl (n := 1) (by kernel_rfl) FM (fun _ => rfl) (.nil _))) (fun _ => rfl)).map
  (fun z=>⟨z.1,z.2.1⟩) _ _ (fun z h=>⟨h.1,rfl⟩)
theorem Lm:dm prog W enc 122 Mk.av (fun m=>m.name.size<=281474976710656/\m.x.wok/\m.y.wok) :=
 (nI (n := 7) Tryz.underlying122 (by kernel_rfl)
  (.cons rfl (n:=1) (by kernel_rfl) tj (fun _=>rfl) (.cons rfl (n:=3) (by kernel_rfl) yG (fun _=>rfl) (.cons rfl (n:=3) (by kernel_rfl) yG (fun _=>rfl) (.nil _)))) (fun _=>rfl)).map
  (fun z=>⟨z.1,z.2.1,z.2.2.1⟩) _ _ (fun z h=>⟨⟨h.1,h.2.1,h.2.2.1⟩,rfl⟩)
theorem PG:dm prog W enc 120 Bd.av (fun b=>b.name.size<=281474976710656/\b.pts.length<=281474976710656/\∀m∈b.pts,m.name.size<=281474976710656/\m.x.wok/\m.y.wok) :=
 (nI (n := 2) Tryz.underlying120 (by kernel_rfl)
  (.cons rfl (n:=1) (by kernel_rfl) tj (fun _=>rfl) (.cons rfl (n:=1) (by kernel_rfl) (oR Tryz.underlying118 (n:=7) (by kernel_rfl) oz (by kernel_rfl) Lm (fun _=>rfl)) (fun _=>rfl) (.nil _))) (fun _=>rfl)).map
  (fun z=>⟨z.1,z.2.1⟩) _ _ (fun z h=>⟨⟨h.1,h.2.1.2,h.2.1.1⟩,rfl⟩)
theorem MQ:dm prog W enc 75 Jt.av (fun j=>j.name.size<=281474976710656) :=
 (nI (n := 7) Tryz.underlying75 (by kernel_rfl)
  (.cons rfl (n := 1) (by kernel_rfl) tj (fun _ => rfl) (.cons rfl (n := 1) (by kernel_rfl) nE (fun _ => rfl) (.cons rfl (n := 1) (by kernel_rfl) nE (fun _ => rfl) (.cons rfl (n := 1) (by kernel_rfl) nE (fun _ => rfl)
   (.cons rfl (n:=1) (by kernel_rfl) nE (fun _=>rfl) (.cons rfl (n:=1) (by kernel_rfl) nE (fun _=>rfl) (.cons rfl (n:=1) (by kernel_rfl) nE (fun _=>rfl) (.nil _)))))))) (fun _=>rfl)).map
  (fun z=>⟨z.1,z.2.1,z.2.2.1,z.2.2.2.1,z.2.2.2.2.1,z.2.2.2.2.2.1,z.2.2.2.2.2.2.1⟩) _ _ (fun z h=>⟨h.1,rfl⟩)
theorem Jk:dm prog W enc 94 Dr.av (fun d=>d.name.size<=281474976710656) :=
 (nI (n := 2) Tryz.underlying94 (by kernel_rfl) (.cons rfl (n := 1) (by kernel_rfl) tj (fun _ => rfl) (.cons rfl (n := 1) (by kernel_rfl) nE (fun _ => rfl) (.nil _))) (fun _ => rfl)).map
  (fun z=>⟨z.1,z.2.1⟩) _ _ (fun z h=>⟨h.1,rfl⟩)
abbrev Jr(l:Li):List AV:=[.v (.string l.name),.lst 2 (l.bo.map Bd.av),.lst 7 (l.jo.map Jt.av),.lst 2 (l.dv.map Dr.av)]
theorem KU:dm prog W enc 26 (fun l:Li=>.agg (Jr l)) Li.okw :=
 (nI (n := 4) Tryz.underlying26 (by kernel_rfl)
  (.cons rfl (n := 1) (by kernel_rfl) tj (fun _ => rfl)
   (.cons rfl (n := 1) (by kernel_rfl) (oR Tryz.underlying22 (n := 2) (by kernel_rfl) oz (by kernel_rfl) PG (fun _ => rfl)) (fun _ => rfl)
    (.cons rfl (n := 1) (by kernel_rfl) (oR Tryz.underlying23 (n := 7) (by kernel_rfl) oz (by kernel_rfl) MQ (fun _ => rfl)) (fun _ => rfl)
     (.cons rfl (n:=1) (by kernel_rfl) (oR Tryz.underlying24 (n:=2) (by kernel_rfl) oz (by kernel_rfl) Jk (fun _=>rfl)) (fun _=>rfl) (.nil _))))) (fun _=>rfl)).map
  (fun z=>⟨z.1,z.2.1,z.2.2.1,z.2.2.2.1⟩) _ _ (fun z h=>⟨⟨h.1,h.2.1.1,h.2.2.1.1,h.2.2.2.1.1,h.2.1.2,h.2.2.1.2,h.2.2.2.1.2⟩,rfl⟩)
theorem IK:dm prog W enc 84 (fun l:List Tn=>.lst 4 (l.map Tn.av)) (fun l=>(∀x∈l,x.t.wok)/\l.length<=281474976710656) :=
 oR Tryz.underlying84 (n:=4) (by kernel_rfl) oz (by kernel_rfl) OQ (fun _=>rfl)
end
open Go.Proofs Go.Proofs.YtlilpljpajeafaaGreat
open Go.ChangeShapes Go.WideShapes Go.ChangeAt Go.RowKit
theorem own:ownKnob prog.godebug=none:=by kernel_rfl
theorem Bq:laidOutB prog=true:=by kernel_rfl
theorem Us:prog.stopsHeard=true:=by kernel_rfl
theorem S5:prog.plainKeys=true:=by kernel_rfl
theorem I5:mapsRowed prog=true:=by kernel_rfl
theorem NY:prog.mayEnter=true:=by kernel_rfl
theorem Ko:prog.liftsFinal=false:=by kernel_rfl
theorem Ni{v:Value}(h:∀cs,v≠.agg cs):v.cells=#[v]:=by
 cases v <;> first |rfl |exact absurd rfl (h _)
theorem P6{P:Program}{W:World}{r:Reach}{b0:Nat}{t e:TypeId}{v:Value}(ht:P.underlying t=some (.slice e))(hval:Value.okWide P W r b0 t v):v.cells=#[v]:=by
 refine Ni (fun cs h=>?_);subst h;unfold Value.okWide at hval;rw[ht]at hval;unfold Cell.okWide at hval;rw[ht]at hval;unfold Cell.ok at hval;rw[ht]at hval;exact hval
theorem GY{H:Type}{enc:TypeId×Value->H}{W W':World}{t:TypeId}{v:Value}{d:DataW H}{ps:List MemPlace}{sp':Nat->Bool}(hr:prog.readableRec t=true)(ht:t<prog.types.size)
  (h:DataW.Trod enc prog W 0 (fun _=>true) true t v d ps) (hb:Below W.heap.size W W') (hlt:∀x∈ps,x.block<W.heap.size) (hs:∀p∈ps,sp' p.block=true):DataW.Trod enc prog W' 0 sp' true t v d ps :=
 WideElems.Trod_stays Bq hr ht h (fun x hx=>hb.same (hlt x hx)) hs
end Go.Lw
namespace Go.Lw
open Go.Proofs
theorem Ia(m:List Nat)(hm:Ws m)(hl:m.length<=fv):FP 290 [ws m] (bl (!decide (m=[])&&(⟨false,m⟩:Wh).valid)):=by
 refine af func290 ?_;refine gl ?_;refine ci ?_;refine om (fun h=>(iZ (by simp[aa]at h;omega) (by unfold fv at hl;unfold aS;exact le_trans hl oz))) ?_;refine ka (fun h=>(bZ (i:=m.length-1) (by simp[aa]at h;omega))) ?_;refine ae ?_
 by_cases h:m=[]
 ·subst h;rfl
 ·have h1:0 < m.length:=List.length_pos_iff.2 h;have h2:aa .gtr (m.length:Int) 0 = true:=by simp [aa,h1]
  simp only[bl,h,decide_false,Bool.not_false,Bool.true_and,Wh.valid,List.getLast?_eq_getElem?,jD (show m.length-1<m.length by omega),aa];congr 2;generalize ah m _=x;rw[Bool.eq_iff_iff];simp[h1]
theorem yK:FP 176 [] (zA 1):=by
 refine af func176 ?_;refine gc (D7 1 oz) ?_;refine ae ?_
 first |rfl |(simp;done)
theorem rC(r:Rt)(h:r.ok):FP 193 [r.av] (bl r.valid):=by
 have hr:=h;have hn:=h.n0;have hd:=h.d0;have hl1:r.num.length<=137438953472:=h.2.2.1;have hl2:r.den.length<=137438953472:=h.2.2.2;refine af func193 ?_;refine gl ?_;refine ci ?_;refine gC (fun t12=>?_) (fun t12=>?_)
 ·have h0 : r.num = [] /\ r.den = [] := by simpa [aa] using t12
  refine ae ?_;unfold Rt.valid;rw[if_pos h0];rfl
 have h0:¬(r.num=[]/\r.den=[]):=by
  have:=t12;simp[aa]at this;exact fun h=>this h.1 h.2
 refine gc (Ia r.num hr.1 hr.2.2.1) ?_;refine bI (fun _=>(Ia r.den hr.2.1 hr.2.2.2)) ?_;refine bI (fun _=>(Bn r.n0 r.d0 hn hd (by show r.num.length+r.den.length<_;unfold aq;omega))) ?_;refine bI (fun _=>yK) ?_;refine bI (fun _=>(Je (Rt.gcd_zs hr) vB)) ?_;refine ae ?_;exact congrArg bl (Qt h0).symm
theorem mS(r:Rt)(h:r.ok):FP 194 [r.av] (.tup [zA r.q.num,zA r.q.den]):=by
 have hl1:r.num.length<=137438953472:=h.2.2.1;have hl2:r.den.length<=137438953472:=h.2.2.2;refine af func194 ?_;refine gc (rC r h) ?_;refine ci ?_;refine gC (fun t12=>?_) (fun t12=>?_)
 ·have h0:¬(r.valid=true/\r.num≠[]):=by
   have:=t12;intro h';simp[aa,h'.1,h'.2]at this
  refine gc yK ?_;refine gR ?_;exact dp (by rw[Rt.zero h0];exact Sub.tup (.cons Ih (.cons (.refl _) .nil)))
 have h0:r.valid=true/\r.num≠[]:=by
  have:=t12;cases hv:r.valid
  ·rw[hv]at this;cases this
  ·rw[hv]at this;exact⟨rfl,by simpa[aa]using this⟩
 obtain⟨e1,e2,e3,e4,e5,e6⟩:=Rt.parts h h0.1 h0.2;refine gD ?_;refine bj ?_;rw[e1,e2];exact GQ e3 e4 e5
theorem rY{n d:Int}(hn:Zs n)(hd:Zs d)(h0:d≠0):FP 174 [zA n,zA d] (qA (Rat.divInt n d)):=by
 refine af func174 ?_;refine gc (wC hn) ?_;refine gC (fun t14=>?_) (fun t14=>?_)
 ·have e0 : n=0 := Int.sign_eq_zero_iff_zero.1 (by simpa[aa]using t14);refine gR ?_;exact iV (by rw[e0,Rat.zero_divInt];exact gK)
 have e0:n≠0:=fun h=>by rw[h]at t14;cases t14
 refine gc (wC hd) ?_;refine yM [2,3,4] [4] (fun(n1 d1:Int)=>[]) (fun n1 d1=>[(2,some (.box (zA n1).cells)),(3,some (.box (zA d1).cells))]) (fun n1 d1=>0<d1/\n1≠0/\Zs n1/\Zs d1/\Rat.divInt n1 d1=Rat.divInt n d) ?_ ?_
 ·intro K1 J1;refine gC (fun t18=>?_) (fun t18=>?_)
  ·have e1 : d<0 := Int.sign_eq_neg_one_iff_neg.1 (by have := Int.sign_trichotomy d;have h9 : d.sign<0 := (by simpa[aa]using t18);omega);refine gc (xW hn) ?_;refine gc (xW hd) ?_;refine gD ?_;exact qv J1 (-n) (-d) ⟨by omega,by omega,hn.neg,hd.neg,DR n d⟩
  have e1:0<d:=by
   have h9:0<=d.sign:=by simpa[aa]using t18
   have:=Int.sign_nonneg_iff.1 h9;omega
  exact qv J1 n d ⟨e1,e0,hn,hd,rfl⟩
 rintro n1 d1 ⟨f1,f2,f3,f4,f5⟩;have g2:Zs (Int.gcd n1 d1:Int):=f3.of_le (by rw[natAbs_natCast];exact Nat.le_of_dvd oz (Int.gcd_dvd_natAbs_left _ _));have g3:(Int.gcd n1 d1:Int)≠0:=by have:=Int.gcd_pos_of_ne_zero_left d1 f2;omega
 refine gc (IT f3 f4) ?_;refine gc (DW f3 g2 g3) ?_;refine gc (DW f4 g2 g3) ?_;refine ae ?_;rw[<- f5,<- OM f1 f2];rfl
theorem Ug{n d:Int}(hn:Zs n)(hd:Zs d):FP 298 [zA n,zA d] (.tup [qA (Rat.divInt n d),i64 (if d=0 then 8 else 0)]):=by
 refine af func298 ?_;refine gc (wC hd) ?_;refine gC (fun t8=>?_) (fun t8=>?_)
 ·have h0 : d=0 := Int.sign_eq_zero_iff_zero.1 (by simpa[aa]using t8);refine gR ?_;exact dp (by rw[if_pos h0,h0,Rat.divInt_zero];exact Sub.tup (.cons gK (.cons (.refl _) .nil)))
 have h0:d≠0:=fun h=>by rw[h]at t8;cases t8
 refine gc (rY hn hd h0) ?_;refine bj ?_;rw[if_neg h0];rfl
theorem mv(n:Int)(h:-9223372036854775808<=n/\n<=9223372036854775807):FP 85 [i64 n] (qA n):=by
 have hz:Zs n:=⟨2,by omega,by unfold Lz;simp only[Nat.reducePow];omega⟩
 refine af func85 ?_;refine gc (D7 n h) ?_;refine gc yK ?_;refine gc (rY hz vB oz) ?_;refine ae ?_;exact congrArg qA (Rat.num_divInt_den (n:Rat))
theorem D6(a:Rt)(ha:a.ok):FP 199 [a.av] (qA (-a.q)):=by
 have za:=ha.qs;refine af func199 ?_;refine gc (mS a ha) ?_;refine gc (xW za.num) ?_;refine gc (rY za.num.neg za.den (by have:=a.q.den_nz;omega)) ?_;refine gD ?_;refine ae ?_;rw[Do];rfl
theorem uW(a:Rt)(ha:a.ok):FP 103 [a.av] (i64 (bH a.q)):=by
 refine af func103 ?_;refine gc (mS a ha) ?_;refine gc (wC ha.qs.num) ?_;refine ae ?_;rw[GF]
theorem wg(a b:Rt)(ha:a.ok)(hb:b.ok):FP 104 [a.av,b.av] (qA (a.q+b.q)):=by
 have za:=ha.qs;have zb:=hb.qs;have m1:=za.mul zb;have m2:=zb.mul za;refine af func104 ?_;refine gc (mS a ha) ?_;refine gc (mS b hb) ?_;refine gc (oH za.num zb.den) ?_;refine gc (oH zb.num za.den) ?_;refine gc (On m1.1 m2.1) ?_;refine gc (oH za.den zb.den) ?_;refine gc (rY (za.cross zb) m1.2.2.1 (Int.mul_ne_zero (by have:=a.q.den_nz;omega) (by have:=b.q.den_nz;omega))) ?_;refine gD ?_;refine ae ?_;rw[xh];rfl
theorem Fk(a b:Rt)(ha:a.ok)(hb:b.ok):FP 107 [a.av,b.av] (qA (a.q-b.q)):=by
 refine af func107 ?_;refine gc (D6 b hb) ?_;refine gc (wg a (rt (-b.q)) ha hb.qs.neg.ok) ?_;refine gD ?_;refine ae ?_;rw[bA,<- Rat.sub_eq_add_neg];rfl
theorem Ip(a b:Rt)(ha:a.ok)(hb:b.ok):FP 105 [a.av,b.av] (qA (a.q*b.q)):=by
 have za:=ha.qs;have zb:=hb.qs;have m1:=za.mul zb;refine af func105 ?_;refine gc (mS a ha) ?_;refine gc (mS b hb) ?_;refine gc (oH za.num zb.num) ?_;refine gc (oH za.den zb.den) ?_;refine gc (rY m1.2.1 m1.2.2.1 (Int.mul_ne_zero (by have:=a.q.den_nz;omega) (by have:=b.q.den_nz;omega))) ?_;refine gD ?_;refine ae ?_;rw[AZ];rfl
theorem LP(a b:Rt)(ha:a.ok)(hb:b.ok):FP 198 [a.av,b.av] (.tup [qA (a.q/b.q),i64 (if b.q=0 then 8 else 0)]):=by
 have za:=ha.qs;have zb:=hb.qs;have m1:=za.mul zb;refine af func198 ?_;refine gc (mS a ha) ?_;refine gc (mS b hb) ?_;refine gc (oH za.num zb.den) ?_;refine gc (oH za.den zb.num) ?_;refine gc (Ug m1.1 m1.2.2.2) ?_;refine gD ?_;refine bj ?_
 have e1:((a.q.den:Int)*b.q.num=0)=(b.q=0):=by
  apply propext;rw[<- Rat.num_eq_zero,Int.mul_eq_zero];exact⟨fun h=>h.resolve_left (by have:=a.q.den_nz;omega),.inr⟩
 simp only[xU,e1];rfl
theorem Bt(a b:Rt)(ha:a.ok)(hb:b.ok)(hs:Qs (a.q-b.q)):FP 51 [a.av,b.av] (i64 (bH (a.q-b.q))):=by
 refine af func51 ?_;refine gc (Fk a b ha hb) ?_;refine gc (uW (rt (a.q-b.q)) hs.ok) ?_;refine ae ?_;rw[bA]
theorem r5{α:Type}(f:α->AV)(l:List α)(hl:l.length<=281474976710656):FP 326 [.lst 3 (l.map f)] (i64 (cF l.length)):=by
 refine af func326 ?_;refine aM [0] [] (fun(k:Nat)=>[(3,some (i64 k))]) (fun _=>[]) (fun k=>k<=48/\∀j,j<k->2^j<l.length) (fun k=>48-k) 0 ⟨by omega,fun j h=>by omega⟩ ?_;rintro k ⟨hk,hj⟩ K1 J1;refine gs (gk (.const _) (.tmp rfl) oz (mt oz) rfl) ?_;refine gl ?_;refine gC (fun t8=>?_) (fun t8=>?_)
 ·have h1 : 2 ^ k < l.length := by have := t8; simp only [aa, decide_eq_true_eq] at this; omega
  have h2:k<48:=by
   rcases lt_or_ge k 48 with h |h
   ·exact h
   ·have:2 ^ 48 <= 2 ^ k:=b8 h;have:(2:Nat) ^ 48 = 281474976710656:=by decide
    omega
  refine ga (cU oz) ?_;exact aG J1 (k+1) ⟨by omega,fun j h=>by rcases lt_or_ge j k with h3 |h3;exact hj j h3;(have:j=k:=by omega);subst this;exact h1⟩
 have h1:l.length<=2^k:=by have:=t8;simp only[aa,decide_eq_false_iff_not]at this;omega
 have h2:=ID hj h1;refine gs (gk (.const _) (.tmp rfl) oz (mt oz) rfl) ?_;refine gl ?_;refine gC (fun t15=>?_) (fun t15=>?_)
 ·have h3 : 2 ^ k ≠ l.length := by have := t15; simp only [aa, bne_iff_ne, ne_eq] at this; omega
  refine ae ?_;unfold cF;rw[h2,if_neg h3];rfl
 have h3:2^k=l.length:=by have:=t15;simp only[aa,bne_eq_false_iff_eq]at this;omega
 refine ae ?_;unfold cF;rw[h2,if_pos h3]
theorem BU(ts:List (List Rt))(a:List Rt)(ha:∀r∈a,r.ok)(hl:a.length<=281474976710656)(ht:ts.length<=281474976710656):FP 227 [cf ts,nR a] (bp (bN ts.length a)):=by
 refine af func227 ?_;refine gl ?_;refine Dw [1,4] [] [] [] (¬(a≠[]/\(cF a.length<0\/(ts.length:Int)<cF a.length))) ?_ ?_
 ·intro K1 J1;refine gC (fun t10=>?_) (fun t10=>?_)
  ·have h0 : a ≠ [] := fun h => by rw [h] at t10; simp [aa] at t10
   refine gc (r5 Rt.av a hl) ?_;refine ci ?_;refine gC (fun t21=>?_) (fun t21=>?_)
   ·have h1:cF a.length<0\/(ts.length:Int)<cF a.length:=by
     have h9:=t21
     by_cases h:cF a.length<0
     ·exact .inl h
     ·simp only[aa,decide_eq_false h,cond_false,decide_eq_true_eq]at h9;exact .inr h9
    refine ae ?_;unfold bN;rw[if_pos ⟨h0,h1⟩];rfl
   have h1:¬(cF a.length<0\/(ts.length:Int)<cF a.length):=by
    have h9:=t21
    by_cases h:cF a.length<0
    ·simp only[aa,decide_eq_true h,cond_true]at h9;cases h9
    ·simp only[aa,decide_eq_false h,cond_false,decide_eq_false_iff_not]at h9;exact fun h'=>h'.elim h h9
   exact wn J1 (fun h=>h1 h.2)
  have h0:a=[]:=by
   cases a with
   |nil=>rfl
   |cons c l=>simp[aa]at t10
  exact wn J1 (fun h=>h.1 h0)
 rintro hn;refine gl ?_;refine aM [23,24] [] (fun(i:Nat)=>[(25,some (i64 i))]) (fun _=>[]) (fun i=>i<=a.length/\(a.take i).all Rt.valid=true) (fun i=>a.length-i) 0 ⟨zero_le _,by simp⟩ ?_;rintro i ⟨hi,hv⟩ K2 J2;refine gC (fun t26=>?_) (fun t26=>?_)
 ·have hin : i < a.length := by simpa [aa] using t26
  obtain⟨r,hr⟩:=aw hin;have hrok:=ha r (mem_of_getElem? hr);refine gi (ax hr) ?_;refine gc (sK r hrok) ?_;refine gC (fun t31=>?_) (fun t31=>?_)
  ·have hrv : r.valid = false := by simpa using t31
   refine ae ?_;unfold bN;rw[if_neg hn,if_neg]
   ·rfl
   ·rw[all_eq_true];intro h;rw[h r (mem_of_getElem? hr)]at hrv;cases hrv
  have hrv:r.valid=true:=by simpa using t31
  refine ga aH ?_;exact aG J2 (i+1) ⟨by omega,by rw[dl hr,all_append,hv];simp[hrv]⟩
 have hin:i=a.length:=by have:a.length<=i:=(by simpa[aa]using t26);omega
 subst hin;rw[take_length]at hv;refine ae ?_;unfold bN;rw[if_neg hn,if_pos hv];rfl
theorem Fa(a:List Rat)(ha:∀q∈a,Qs q)(hl:a.length<=281474976710656):FP 357 [nA a] (bl (bh a)):=by
 refine af func357 ?_;refine gl ?_;refine aM [5,6] [] (fun(i:Nat)=>[(7,some (i64 i))]) (fun _=>[]) (fun i=>i<=a.length/\bh (a.take i)=true) (fun i=>a.length-i) 0 ⟨zero_le _,by simp[bh]⟩ ?_;rintro i ⟨hi,hv⟩ K1 J1;refine gC (fun t8=>?_) (fun t8=>?_)
 ·have hin : i < a.length := by simpa [aa] using t8
  obtain⟨q,hq⟩:=aw hin;have hqs:=ha q (mem_of_getElem? hq);refine gi (ax hq) ?_;refine gc (vC (rt q) hqs.ok) ?_;refine gC (fun t13=>?_) (fun t13=>?_)
  ·have h0:q≠0:=by
    intro h;have h9:=t13;rw[bA,h]at h9;cases h9
   refine ae ?_
   have:bh a=false:=by
    rw[Bool.eq_false_iff];intro h;exact h0 (by simpa using List.all_eq_true.1 h q (mem_of_getElem? hq))
   rw[this];rfl
  have h0:q=0:=by
   have h9:bH q=0:=by have:=t13;rw[bA]at this;simpa[aa]using this
   exact oG h9
  refine ga aH ?_;exact aG J1 (i+1) ⟨by omega,by rw[dl hq];simp only[bh,all_append,and_eq_true];exact⟨hv,by simp[h0]⟩⟩
 have hin:i=a.length:=by have:a.length<=i:=(by simpa[aa]using t8);omega
 subst hin;rw[take_length]at hv;refine ae ?_;rw[hv];rfl
theorem EK(a:List Rat)(hl:a.length<=281474976710656):FP 330 [nA a] (bl (bh a)):=by
 refine af func330 ?_;refine gl ?_;refine aM [5,6] [] (fun(i:Nat)=>[(7,some (i64 i))]) (fun _=>[]) (fun i=>i<=a.length/\bh (a.take i)=true) (fun i=>a.length-i) 0 ⟨zero_le _,by simp[bh]⟩ ?_;rintro i ⟨hi,hv⟩ K1 J1;refine gC (fun t8=>?_) (fun t8=>?_)
 ·have hin : i < a.length := by simpa [aa] using t8
  obtain⟨q,hq⟩:=aw hin;refine gi (ax hq) ?_;refine ci ?_;refine ci ?_;refine gC (fun t24=>?_) (fun t24=>?_)
  ·have h0:q≠0:=Dy t24;refine ae ?_
   have:bh a=false:=by
    rw[Bool.eq_false_iff];intro h;exact h0 (by simpa using List.all_eq_true.1 h q (mem_of_getElem? hq))
   rw[this];rfl
  have h0:q=0:=FV t24;refine ga aH ?_;exact aG J1 (i+1) ⟨by omega,by rw[dl hq];simp only[bh,all_append,and_eq_true];exact⟨hv,by simp[h0]⟩⟩
 have hin:i=a.length:=by have:a.length<=i:=(by simpa[aa]using t8);omega
 subst hin;rw[take_length]at hv;refine ae ?_;rw[hv];rfl
theorem y9(a:List Rat)(ha:∀q∈a,Qs q)(hl:a.length<=1099511627776):FP 269 [nA a] (nA a):=by
 refine af func269 ?_;refine gl ?_;refine gW (Wk.virt 900 3 rfl) ?_;refine aM [6,7] [] (fun(i:Nat)=>[(3,some (.ms 900 3 0 i)),(8,some (i64 i))]) (fun i=>[(900,some (.row 3 ((a.take i).map qA)))]) (fun i=>i<=a.length) (fun i=>a.length-i) 0 (zero_le _) ?_;rintro i hi K1 J1;refine gC (fun t9=>?_) (fun t9=>?_) (st2:=(7,0))
 ·have hin : i < a.length := by simpa [aa] using t9
  obtain⟨q,hq⟩:=aw hin;have hqs:=(ha q (mem_of_getElem? hq)).ok;have hl1:(rt q).num.length<=137438953472:=hqs.2.2.1;have hl2:(rt q).den.length<=137438953472:=hqs.2.2.2;refine gi (ax hq) ?_;refine gs (ju T43 rfl T349 rfl rfl rfl) ?_;refine gs (qi (.tmp rfl) rfl rfl (.tmp rfl) T43 rfl T349 rfl rfl (by simp only[length_map];omega) rfl rfl) ?_;refine gs (ju T43 rfl T349 rfl rfl rfl) ?_;refine gs (qi (.tmp rfl) rfl rfl (.tmp rfl) T43 rfl T349 rfl rfl (by simp only[length_map];omega) rfl rfl) ?_;refine gs (cq (.tmp rfl) rfl (by simp;omega) (.tmp rfl) T67 rfl T45 rfl rfl (by simp;omega) rfl rfl) ?_;refine gD ?_ (6,0);refine gW (Wk.of (sl:=[(3,some (.ms 25 3 0 (i+1))),(6,some (nA a)),(7,some (i64 a.length)),(8,some (i64 i))]) (hp:=[(25,some (.row 3 ((a.take (i+1)).map qA)))]) aY (.cons rfl (BlkSub.of (by rw[dl hq,map_append];rfl)) .nil)) ?_ (6,0);refine gW (Wk.rk (k:=25) (d:=900) rfl rfl) ?_;refine ga aH ?_;exact aG J1 (i+1) hin
 have hin:i=a.length:=by have:a.length<=i:=(by simpa[aa]using t9);omega
 subst hin;refine gW ((Wk.freeze (k:=900) rfl).trans<|Wk.of (sl:=[(3,some (nA a))]) (hp:=[]) (.cons rfl (Sub.of (by rw[bO (by simp),take_length];rfl)) .nil) .nil) ?_;refine ae ?_;rfl
theorem lH{n:Nat}(a:List Rat)(hn:n<=5)(ha:Nl n a)(hs:∀q∈a,Qs q):FP 232 [nA a] (nA (sh n (ad n a))):=by
 have hl:=ha.len5 hn;rw[<- rX ha hn];refine af func232 ?_;refine gc (r5 qA a oz) ?_;refine gl ?_;refine gC (fun t17=>?_) (fun t17=>?_) (st1:=(3,0));exact absurd t17 (by rcases ha with rfl |⟨j,hj,h⟩;(simp[aa]);(rw[h,o6];simp[aa];omega));refine gl ?_;refine aM [0] [] (fun(m:Nat)=>[(4,some (i64 m))]) (fun _=>[]) (fun m=>lO a m) (fun m=>m) a.length (Hl (ha.mono hn)) ?_;rintro m hm K1 J1;refine gs (er rfl rfl rfl (fun h=>eH (.opt rfl (o1 h)) (.const _) oz (fL (by have:=hm.le;omega)) rfl)) ?_;refine gs (er rfl rfl rfl (fun h=>cR (.opt rfl (o1 h)) (.some _ (.opt rfl (o1 h)) oz) (.some _ (.opt rfl (o1 h)) oz) T67 rfl T45 rfl oz (by have:=hm.le;simp;omega) rfl)) ?_;refine bI (fun _=>(by have h9:=EK ((a.drop (m/2)).take (m-m/2)) (by simp;omega);rw[<- ra]at h9;exact h9)) ?_;refine gC (fun t31=>?_) (fun t31=>?_)
 ·have h1:1<m/\bh ((a.drop (m/2)).take (m-m/2))=true:=by
   have h9:=t31
   by_cases h:(m:Int)>1
   ·simp only[aa,decide_eq_true h,cond_true]at h9;exact⟨by omega,h9⟩
   ·simp only[aa,decide_eq_false h,cond_false]at h9;cases h9
  refine gs (eH (.tmp rfl) (.const _) oz (fL (by have:=hm.le;omega)) rfl) ?_;exact aG J1 (m/2) (BK hm h1.1 h1.2)
 have h1:1<m->bh ((a.drop (m/2)).take (m-m/2))=false:=by
  intro h;have h9:=t31;simp only[aa,decide_eq_true (show(m:Int)>1 by omega),cond_true]at h9;exact h9
 refine gs (er rfl rfl rfl (fun h=>cR (.opt rfl (o1 h)) (.none _) (.some _ (.const _) oz) T67 rfl T45 rfl oz (by have h8:(m:Int)=1:=(by simpa[aa]using h);have:=hm.le;simp only[length_map];omega) rfl)) ?_;refine bI (fun _=>(by have h9:=EK ((a.drop 0).take 1) (by simp;omega);rw[<- ra]at h9;exact h9)) ?_;refine gC (fun t40=>?_) (fun t40=>?_)
 ·have h2:m=1/\bh (a.take 1)=true:=by
   have h9:=t40
   by_cases h:m=1
   ·rw[h]at h9;exact⟨h,h9⟩
   ·rw[show aa .eql (m:Int) 1=false by simp[aa];omega]at h9;cases h9
  obtain⟨rfl,h3⟩:=h2;refine gR ?_;exact iV (by rw[Ej hm h3];exact Sub.nil _ _ _)
 have h2:m=1->bh (a.take 1)=false:=by
  intro h;have h9:=t40;rw[h]at h9;exact h9
 have h3:=Fu hm h1 h2;refine gs (cR (.tmp rfl) (.none _) (.some _ (.tmp rfl) oz) T67 rfl T45 rfl oz (by have:=hm.le;simp;omega) rfl) ?_;refine gc (by have h9:=y9 ((a.drop 0).take m) (fun q hq=>hs q (List.mem_of_mem_drop (mem_of_mem_take hq))) (by simp;omega);have h8:=h9;rw[<- ra]at h9;exact h9) ?_;refine ae ?_;rw[h3];simp[nA,map_take]
theorem AY(d:Nat)(hd:Nat.blt d 1000=true)(a:List Rat)(n:Nat)(hl:a.length<=n)(hn:n<=1099511627776) :
  Con prog 355 [nA a,i64 n] [] (.ms d 3 0 n) [(d,some (.row 3 ((aQ a n).map qA)))]:=by
 refine gF func355 (fun k z h=>by cases h) ?_;refine gs (gV (.tmp rfl) T67 rfl T45 rfl rfl oz (by dsimp only;omega) rfl) ?_;refine gs (UJ (.tmp rfl) rfl (by simp) (.tmp rfl) T67 rfl T45 rfl rfl (by simp;omega) rfl) ?_ (3,0);refine gW (Wk.of (sl:=[(5,some (.ms 7 3 0 n))]) (hp:=[(7,some (.row 3 ((aQ a n).map qA)))]) (.cons rfl (Sub.of (by simp)) .nil) (.cons rfl (BF a n hl) .nil)) ?_;refine gR ?_;exact ao.own1 rfl hd rfl
theorem xg(a:List Rat)(n:Nat)(hl:a.length<=n)(hn:n<=1099511627776):FP 355 [nA a,i64 n] (nA (aQ a n)):=by
 have h:=Con.freeze (by rw[length_map,dI hl];omega) (AY 0 rfl a n hl hn);rw[drop_zero,take_of_length_le (by rw[length_map,dI hl];exact le_refl _)]at h;exact h
theorem qL(a b:List Rat)(ha:∀q∈a,Qs q)(hb:∀q∈b,Qs q)(la:a.length<=1099511627776)(lb:b.length<=1099511627776):FP 272 [nA a,nA b] (nA (bX a b)):=by
 obtain⟨n,hn⟩:∃n,n=max a.length b.length:=⟨_,rfl⟩
 have hwa:=dI (show a.length<=n by omega);have hwb:=dI (show b.length<=n by omega);have hp:=d9 (a:=a) (b:=b);rw[<- hn]at hp;have qa:∀q∈aQ a n,Qs q:=fun q hq=>by rcases List.mem_append.1 hq with h |h;exact ha q h;(rw[(List.mem_replicate.1 h).2];exact Qs.zero)
 have qb:∀q∈aQ b n,Qs q:=fun q hq=>by rcases List.mem_append.1 hq with h |h;exact hb q h;(rw[(List.mem_replicate.1 h).2];exact Qs.zero)
 refine af func272 ?_;refine gl ?_;refine gl ?_;refine gs (qD (.tmp rfl) (.tmp rfl) rfl) ?_ (2,0);refine gW (Wk.of (sl:=[(0,some (nA a)),(1,some (nA b)),(5,some (i64 n))]) (hp:=[]) (.k (.k (.cons rfl (Sub.int oz) .nil))) .nil) ?_;refine go ?_;refine gt (ay (AY 900 rfl a n oz oz) (bB rfl rfl) aE rfl rfl) ?_;refine gc (xg b n oz oz) ?_;refine aM [1,19] [] (fun(i:Nat)=>[(0,some (.ms 900 3 0 n)),(20,some (i64 i))]) (fun i=>[(900,some (.row 3 (((bX a b).take i++(aQ a n).drop i).map qA)))]) (fun i=>i<=n) (fun i=>n-i) 0 (zero_le _) ?_;rintro i hi K1 J1;refine gC (fun t21=>?_) (fun t21=>?_) (st2:=(8,0))
 ·have hin : i < n := by simpa [aa] using t21
  have hmx:=zE (p:=bX a b) (w:=aQ a n) (i:=i) oz oz;have hqa:=(qa _ (sR (i:=i) oz)).ok;have hqb:=(qb _ (sR (i:=i) oz)).ok;refine gs (bR (n:=i) (.tmp rfl) (.tmp rfl) T67 rfl T45 rfl oz oz rfl) ?_;refine gs (d6 (.tmp rfl) rfl (ax hmx) T45 rfl rfl rfl) ?_;refine gi (ax (getD_some (i:=i) (l:=aQ b n) oz)) ?_;refine gc (ou (rt ((aQ a n).getD i 0)) (rt ((aQ b n).getD i 0)) hqa hqb) ?_;refine gs (bR (n:=i) (.tmp rfl) (.tmp rfl) T67 rfl T45 rfl oz oz rfl) ?_;refine gs (dF (.tmp rfl) rfl (ax hmx) rfl (.tmp rfl) rfl rfl T45 rfl rfl) ?_;refine gD ?_ (7,0);refine gW (Wk.of (sl:=[(0,some (.ms 900 3 0 n)),(1,some (nA (aQ b n))),(19,some (i64 n)),(20,some (i64 i))]) (hp:=[(900,some (.row 3 (((bX a b).take (i+1)++(aQ a n).drop (i+1)).map qA)))]) aY (.cons rfl (BlkSub.of (by rw[xP oz oz (by rw[H3,<- hn,bA,bA])])) .nil)) ?_;refine ga aH ?_;exact aG J1 (i+1) hin
 have hin:i=n:=by have:n<=i:=(by simpa[aa]using t21);omega
 refine gW ((Wk.freeze (k:=900) rfl).trans<|Wk.of (sl:=[(0,some (nA (bX a b)))]) (hp:=[]) (.cons rfl (Sub.of (by rw[bO (by simp;omega),hin,List.drop_of_length_le oz,take_of_length_le oz,append_nil];rfl)) .nil) .nil) ?_;refine ae ?_;rfl
theorem vK(a:List Rat)(ha:∀q∈a,Qs q)(la:a.length<=1099511627776):FP 244 [nA a] (nA (cD a)):=by
 obtain⟨n,hn⟩:∃n,n=a.length:=⟨_,rfl⟩
 refine af func244 ?_;refine gl ?_;refine gs (gV (.tmp rfl) T67 rfl T45 rfl rfl oz (by dsimp only;omega) rfl) ?_ (2,0);refine gW (Wk.of (sl:=[(0,some (nA a)),(3,some (.ms 7 3 0 n))]) (hp:=[(7,some (.row 3 ((aQ [] n).map qA)))]) (.k (.cons rfl (Sub.of (by simp[hn])) .nil)) (.cons rfl (BlkSub.of_ (BF [] n (by simp)) (by rw[hn];rfl)) .nil)) ?_;refine gl ?_;refine aM [0] [] (fun(i:Nat)=>[(3,some (.ms 7 3 0 n)),(9,some (i64 n)),(10,some (i64 i))]) (fun i=>[(7,some (.row 3 (((cD a).take i++(aQ [] n).drop i).map qA)))]) (fun i=>i<=n) (fun i=>n-i) 0 (zero_le _) ?_ (h1:=(.k (.cons rfl (Sub.int oz) (.k .nil))));rintro i hi K1 J1;refine gC (fun t11=>?_) (fun t11=>?_) (st2:=(7,0))
 ·have hin : i < n := by simpa [aa] using t11
  have hm1:=iy (a:=a);have hm2:=dI (a:=[]) (n:=n) (by simp);have hmx:=zE (p:=cD a) (w:=aQ [] n) (i:=i) oz oz;have hqa:=(ha _ (sR (i:=i) oz)).ok;refine gi (ax (getD_some (i:=i) oz)) ?_;refine gc (Ix (rt (a.getD i 0)) hqa) ?_;refine gs (bR (n:=i) (.tmp rfl) (.tmp rfl) T67 rfl T45 rfl oz oz rfl) ?_;refine gs (dF (.tmp rfl) rfl (ax hmx) rfl (.tmp rfl) rfl rfl T45 rfl rfl) ?_ (6,0);refine gW (Wk.of (sl:=[(0,some (nA a)),(3,some (.ms 7 3 0 n)),(9,some (i64 n)),(10,some (i64 i))]) (hp:=[(7,some (.row 3 (((cD a).take (i+1)++(aQ [] n).drop (i+1)).map qA)))]) aY (.cons rfl (BlkSub.of (by rw[xP oz oz (by rw[Mv,bA])])) .nil)) ?_;refine ga aH ?_;exact aG J1 (i+1) hin
 have hin:i=n:=by have:n<=i:=(by simpa[aa]using t11);omega
 have hm1:=iy (a:=a);have hm2:=dI (a:=[]) (n:=n) (by simp);refine gW ((Wk.freeze (k:=7) rfl).trans<|Wk.of (sl:=[(3,some (nA (cD a)))]) (hp:=[]) (.cons rfl (Sub.of (by rw[bO (by simp;omega),hin,List.drop_of_length_le oz,take_of_length_le oz,append_nil];rfl)) .nil) .nil) ?_;refine ae ?_;rfl
theorem zV(a b:List Rat)(n:Nat)(la:a.length<=n)(lb:b.length<=n)(hn:n<=274877906944):FP 358 [nA a,nA b,i64 n] (nA (eP a b n)):=by
 refine af func358 ?_;refine gt (ay (AY 900 rfl a n la oz) (bB rfl rfl) aE rfl rfl) ?_;refine gc (xg b n lb oz) ?_;refine gs (qi (.tmp rfl) rfl (by simp[dI la]) (.tmp rfl) T67 rfl T45 rfl rfl (by simp[dI lb];omega) rfl rfl) ?_;refine ae ?_;rw[<- map_append];rfl
end Go.Lw
