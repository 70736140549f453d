/- AssembleOnes: for any linkage, any turns and any modes the law returns true and leaves its arguments as they were. No other condition. Part 4 of 8: what the later parts need -/
import Derived.Test.YtlilpljpajeafaaGreatYc
import Derived.Test.YtlilpljpajeafaaGreatRows
set_option linter.unusedVariables false
open List (mem_of_getElem? mem_cons_of_mem mem_append map_cons mem_cons length_cons mem_cons_self length_append length_nil getD_eq_getElem?_getD getElem?_eq_none all_eq_true getElem?_take getElem?_map getElem?_eq_getElem drop_eq_nil_of_le nil_append getElem?_replicate append_nil map_append length_take take_of_length_le drop_zero take_length not_mem_nil length_map drop_drop map_take all_append length_replicate map_replicate map_set length_set)
open Nat (le_refl lt_of_lt_of_le lt_or_ge le_trans mul_le_mul_right mul_le_mul_left zero_le pow_add lt_of_le_of_lt)
open Option (map_eq_some_iff)
open Bool (and_eq_true or_eq_true)
open Int (toNat_natCast natAbs_natCast)
open Go.Proofs.Tryz
namespace Go.Lw
open Go.Proofs
theorem uO{b:Bool}{n:Nat}:(cond b (aa .gtr ((aD n).length:Int) 0) false)=true↔(b=true/\0<n):=by
 have h:aa .gtr ((aD n).length:Int) 0=true↔0<n:=by
  simp only[aa,decide_eq_true_eq];constructor
  ·intro h;rcases Nat.eq_zero_or_pos n with h1 |h1;(subst h1;simp[Mo]at h);exact h1
  ·intro h;have:aD n ≠ []:=by intro h1; have:=ci n; rw [h1] at this; simp [val] at this; omega
   have:=List.length_pos_iff.2 this;omega
 cases b with
 |false=>simp
 |true=>exact⟨fun h1=>⟨rfl,h.1 h1⟩,fun h1=>h.2 h1.2⟩
theorem Ag(a:Wh)(ha:a.ok):FP 320 [a.av] (i64 a.z.sign):=by
 obtain⟨e1,e2,e3⟩:=Hx ha;refine af func320 ?_;refine gc (jF a ha) ?_;refine gl ?_;refine gC (fun ht3=>?_) (fun ht3=>?_)
 ·have h0 : a.m.length = 0 := by simpa [aa] using ht3
  refine ae ?_;rw[e1 h0];rfl
 have h0:a.m.length≠0:=by simpa[aa]using ht3
 refine gC (fun t8=>?_) (fun t8=>?_)
 ·refine ae ?_;rw[e2 h0 t8];rfl
 refine ae ?_;rw[e3 h0 t8];rfl
theorem MG(a b:Wh)(ha:a.ok)(hb:b.ok):FP 317 [a.av,b.av] (i64 (gq a.z b.z)):=by
 refine af func317 ?_;refine gc (Ag a ha) ?_;refine gc (Ag b hb) ?_;refine gD ?_;refine gC (fun t14=>?_) (fun t14=>?_)
 ·have h0 : a.z.sign ≠ b.z.sign := by simpa [aa] using t14
  obtain⟨e1,e2⟩:=Pp h0;refine gC (fun t17=>?_) (fun t17=>?_)
  ·have h1 : a.z.sign < b.z.sign := by simpa [aa] using t17
   refine ae ?_;rw[e1 h1];rfl
  have h1:¬a.z.sign<b.z.sign:=by simpa[aa]using t17
  refine ae ?_;rw[e2 h1];rfl
 have h0:a.z.sign=b.z.sign:=by simpa[aa]using t14
 have e1:=Rf h0;refine gc (jF a ha) ?_;refine gc (jF b hb) ?_;refine gc (Bt a.m b.m (Wh.ws ha) (Wh.ws hb) a.nz b.nz) ?_;refine gD ?_;refine gc (iS a ha) ?_;refine gC (fun t24=>?_) (fun t24=>?_)
 ·rw[t24,VQ rfl]at e1;refine gs (AJ (.tmp rfl) rfl) ?_;refine ae ?_;rw[e1];split
  ·rfl
  ·split <;> rfl
 rw[t24,VP Bool.false_ne_true]at e1;refine ae ?_
 first |(rw[e1];done) |(rw[e1];rfl)
theorem JF(a:Wh)(ha:a.ok)(la:a.mag.length<aC):FP 350 [a.av] (zA (-a.z)):=by
 refine af func350 ?_;refine gc (iS a ha) ?_;refine gc (jF a ha) ?_;refine gc (jH _ a.m (Wh.ws ha) (Nat.le_of_lt (Wh.small ha la))) ?_;refine gD ?_;refine ae ?_;rw[Wh.z_eq,<- Iz];rfl
theorem Sb(a b:Wh)(ha:a.ok)(hb:b.ok)(la:a.mag.length+b.mag.length<=aC):FP 332 [a.av,b.av] (zA (a.z*b.z)):=by
 have h1:=Wh.m_le (w:=a);have h2:=Wh.m_le (w:=b);have h3:(aD (val a.m*val b.m)).length<=a.m.length+b.m.length:=eV (by rw[pow_add];exact Nat.mul_lt_mul'' (b8 _ (Wh.ws ha)) (b8 _ (Wh.ws hb)));refine af func332 ?_;refine gc (iS a ha) ?_;refine gc (iS b hb) ?_;refine gc (jF a ha) ?_;refine gc (jF b hb) ?_;refine gc (Mp a.m b.m (Wh.ws ha) (Wh.ws hb) oz) ?_;refine gc (jH _ _ (cZ _) oz) ?_;refine gD ?_;refine ae ?_;rw[ci,EH];rfl
theorem M7(a b:Wh)(ha:a.ok)(hb:b.ok)(la:a.mag.length<aC)(lb:b.mag.length<aC):FP 331 [a.av,b.av] (zA (a.z+b.z)):=by
 have h1:=Wh.m_le (w:=a);have h2:=Wh.m_le (w:=b);have hla:val a.m<4294967296^(max a.m.length b.m.length):=lt_of_lt_of_le (b8 _ (Wh.ws ha)) (Nat.pow_le_pow_right oz oz);have hlb:val b.m<4294967296^(max a.m.length b.m.length):=lt_of_lt_of_le (b8 _ (Wh.ws hb)) (Nat.pow_le_pow_right oz oz);have h3:(aD (val a.m+val b.m)).length<=max a.m.length b.m.length+1:=eV (by rw[Nat.pow_succ];omega);have h4:(aD (val a.m-val b.m)).length<=max a.m.length b.m.length:=eV oz;have h5:(aD (val b.m-val a.m)).length<=max a.m.length b.m.length:=eV oz;refine af func331 ?_;refine gc (jF a ha) ?_;refine gc (jF b hb) ?_;refine gD ?_;refine gc (iS a ha) ?_;refine gc (iS b hb) ?_;refine gD ?_;refine gC (fun t11=>?_) (fun t11=>?_)
 ·have h0 : a.n = b.n := by simpa using t11
  refine gc (iS a ha) ?_;refine gc (IA a.m b.m (Wh.ws ha) (Wh.ws hb) oz oz) ?_;refine gc (jH _ _ (cZ _) oz) ?_;refine ae ?_;rw[ci,Fj h0];rfl
 have h0:a.n≠b.n:=by simpa using t11
 refine gc (Bt a.m b.m (Wh.ws ha) (Wh.ws hb) a.nz b.nz) ?_;refine gC (fun t23=>?_) (fun t23=>?_)
 ·have h6:val b.m<=val a.m:=by
   rcases lt_or_ge (val a.m) (val b.m)with h |h
   ·rw[VQ h]at t23;cases t23
   ·exact h
  refine gc (iS a ha) ?_;refine gc (yv a.m b.m (Wh.ws ha) (Wh.ws hb) oz (by rcases lt_or_ge a.m.length b.m.length with h |h;(have:=s7 (Wh.ws ha) b.nz h;omega);exact h) h6) ?_;refine gc (jH _ _ (cZ _) oz) ?_;refine ae ?_;rw[ci,A6 h0 h6];rfl
 have h6:val a.m<val b.m:=by
  rcases lt_or_ge (val a.m) (val b.m)with h |h
  ·exact h
  ·rw[VP oz]at t23;split at t23 <;> cases t23
 refine gc (iS b hb) ?_;refine gc (yv b.m a.m (Wh.ws hb) (Wh.ws ha) oz (by rcases lt_or_ge b.m.length a.m.length with h |h;(have:=s7 (Wh.ws hb) a.nz h;omega);exact h) oz) ?_;refine gc (jH _ _ (cZ _) oz) ?_;refine ae ?_;rw[ci,EM h0 oz];rfl
theorem GI(a b:Wh)(ha:a.ok)(hb:b.ok)(la:a.mag.length<aC)(lb:b.mag.length<aC):FP 318 [a.av,b.av] (zA (Int.gcd a.z b.z)):=by
 refine af func318 ?_;refine gc (jF a ha) ?_;refine gc (jF b hb) ?_;refine gD ?_;refine fZ [4] [4] (fun(x y:List Nat)=>[(5,some (ws x)),(6,some (ws y))]) (fun _ _=>[]) (fun x y=>Ws x/\Ws y/\Nz x/\Nz y/\x.length<aC/\y.length<aC/\Nat.gcd (val x) (val y)=Int.gcd a.z b.z) (fun _ y=>val y) a.m b.m ⟨Wh.ws ha,Wh.ws hb,a.nz,b.nz,Wh.small ha la,Wh.small hb lb,by rw[Int.gcd,Wh.abs,Wh.abs]⟩ ?_;rintro x y ⟨wx,wy,nx,ny,lx,ly,hg⟩ K1 J1;refine gl ?_;refine gC (fun t15=>?_) (fun t15=>?_)
 ·have hy : y ≠ [] := by intro h; subst h; simp [aa] at t15
  have hy0:=nQ ny hy;have hm:=Nat.mod_lt (val x) hy0;refine gc (Fp x y wx wy nx ny hy lx ly) ?_;exact fB J1 y (aD (val x%val y)) ⟨wy,cZ _,ny,rg _,ly,lt_of_le_of_lt (eV (Nat.lt_trans hm (b8 y wy))) ly,by rw[ci,<- hg,Nat.gcd_comm (val x) (val y),Nat.gcd_comm (val y) (val x%val y)];exact(Nat.gcd_rec _ _).symm⟩ (by show val (aD _)<val y;rw[ci];exact hm)
 have hy:y=[]:=by
  cases y with
  |nil=>rfl
  |cons c l=>simp[aa]at t15
 subst hy;have hg':val x=Int.gcd a.z b.z:=by rw[<- hg];simp[val]
 refine gc (jH false x wx (Nat.le_of_lt lx)) ?_;refine ae ?_;rw[hg'];rfl
theorem O9(a b:Wh)(ha:a.ok)(hb:b.ok)(la:a.mag.length+1<aC)(lb:b.mag.length<aC)(h0:b.z≠0):FP 351 [a.av,b.av] (.tup [zA (a.z/b.z),zA (a.z%b.z),.v .nilIface]):=by
 have hm1:=Wh.m_le (w:=a);have hm2:=Wh.m_le (w:=b);have hb1:val b.m≠0:=by have:=Wh.abs (w:=b);omega
 have hb2:b.m≠[]:=fun h=>hb1 (by rw[h];rfl)
 have hl1:(aD (val a.m/val b.m)).length<=a.m.length:=eV (lt_of_le_of_lt (Nat.div_le_self _ _) (b8 _ (Wh.ws ha)));have hmod:=Nat.mod_lt (val a.m) (show 0<val b.m by omega);have hl2:(aD (val a.m%val b.m)).length<=b.m.length:=eV (Nat.lt_trans hmod (b8 _ (Wh.ws hb)));have hl3:(aD (val a.m/val b.m+1)).length<=a.m.length+1:=eV (by have h7:=lt_of_le_of_lt (Nat.div_le_self (val a.m) (val b.m)) (b8 _ (Wh.ws ha));rw[Nat.pow_succ];generalize val a.m/val b.m=m at *;omega);have hl4:(aD (val b.m-val a.m%val b.m)).length<=b.m.length:=eV (by have:=b8 _ (Wh.ws hb);omega);have hv1:val [1]=1:=rfl;refine af func351 ?_;refine gc (jF b hb) ?_;refine gl ?_;refine gC (fun t14=>?_) (fun t14=>?_) (st1:=(3,0));exact absurd (List.length_eq_zero_iff.1 (by simpa[aa]using t14)) hb2;refine gc (jF a ha) ?_;refine gc (Fp a.m b.m (Wh.ws ha) (Wh.ws hb) a.nz b.nz hb2 oz oz) ?_;refine gc (iS a ha) ?_;refine bS ?_;refine gC (fun t31=>?_) (fun t31=>?_)
 ·have h1:a.n = true /\ 0 < val a.m % val b.m:=uO.1 t31;obtain ⟨e1,e2⟩:=Hb hb1 h1.1 h1.2;refine gc (IA (aD (val a.m / val b.m)) [1] (cZ _) (tb oz) oz (by unfold aC; simp)) ?_;refine gc (yv b.m (aD (val a.m % val b.m)) (Wh.ws hb) (cZ _) oz hl2 (by rw [ci]; omega)) ?_ (7,0);refine gW (Wk.of (sl:=[(2,some (.ptr 2 0)),(3,some (.ptr 3 0)),(4,some (.ptr 4 0)),(5,some (.ptr 5 0)),(8,some (ws (aD (val a.m / val b.m + 1)))),(9,some (ws (aD (val b.m - val a.m % val b.m))))]) (hp:=[(2,some (.box [bl a.neg,ws a.mag])),(3,some (.box [bl b.neg,ws b.mag])),(4,some (.box [.v (.bool false),nS])),(5,some (.box [.v (.bool false),nS]))]) (.k (.k (.k (.k (.cons rfl (Sub.of (by rw [ci,hv1])) (.cons rfl (Sub.of (by rw [ci])) .nil)))))) (.k (.k (.k (.k .nil))))) ?_
  refine gc (iS a ha) ?_;refine gc (iS b hb) ?_;refine gc (by apply jH _ _ (cZ _) oz) ?_;refine gc (by apply jH _ _ (cZ _) oz) ?_;refine gD ?_;refine gR ?_;exact rP (by rw[ci,ci,e1,show sgn false _=_ from e2];rfl)
 have h1:¬(a.n=true/\0<val a.m%val b.m):=fun h=>Bool.eq_false_iff.1 t31 (uO.2 h)
 obtain⟨e1,e2⟩:=CN hb1 h1;refine gc (iS a ha) ?_;refine gc (iS b hb) ?_;refine gc (by apply jH _ _ (cZ _) oz) ?_;refine gc (by apply jH _ _ (cZ _) oz) ?_;refine gD ?_;refine gR ?_;exact rP (by rw[ci,ci,e1,show sgn false _=_ from e2];rfl)
theorem vR{N:Nat}(h:N<18446744073709551616):val [N%4294967296,N/2^32]=N:=by
 simp only[val];omega
theorem wR{N:Nat}(h:N<18446744073709551616):Ws [N%4294967296,N/2^32]:=by
 intro x hx;simp only[mem_cons,not_mem_nil,or_false]at hx;rcases hx with rfl |rfl <;> omega
theorem HT(n:Int)(h:-9223372036854775808<=n/\n<=9223372036854775807):FP 247 [i64 n] (zA n):=by
 obtain⟨N,hN⟩:∃N,N=n.natAbs:=⟨_,rfl⟩
 have hNB:N<18446744073709551616:=by omega
 refine af func247 ?_;refine gv (show IntKind.u64.wrap n=((n%18446744073709551616:Int)) by simp only[IntKind.wrap,IntKind.signed,IntKind.bits,Bool.false_and,if_false,Bool.false_eq_true];omega) ?_;refine gC (fun t7=>?_) (fun t7=>?_) (st2:=(77777,0))
 ·have hn : n < 0 := by simpa [aa] using t7
  refine gs (AJ (.tmp rfl) rfl) ?_ (4,0);refine gW (Wk.of (sl:=[(0,some (i64 n)),(2,some (.ptr 2 0)),(3,some (u64 N))]) (hp:=[(2,some (.box [.v (.bool false),nS]))]) (.k (.k (.cons rfl (Sub.int (by simp only[IntKind.wrap,IntKind.signed,IntKind.bits,Bool.false_and,if_false,Bool.false_eq_true];omega)) .nil))) (.k .nil)) ?_;refine gv (du _) ?_;refine gs (eE (.tmp rfl) (.const _) oz (f9 _ 32 oz) rfl) ?_;refine gv ((du _).trans (by rw[Nat.mod_eq_of_lt (show N/2^32<4294967296 by omega)])) ?_;refine gc (jH (aa .lss n 0) [N%4294967296,N/2^32] (wR hNB) (by unfold aC;simp)) ?_;refine ae ?_;rw[vR hNB,show sgn (aa .lss n 0) N=n by simp only[sgn,aa,decide_eq_true_eq];split <;> omega];rfl
 have hn:¬n<0:=by simpa[aa]using t7
 refine gW (Wk.of (sl:=[(0,some (i64 n)),(2,some (.ptr 2 0)),(3,some (u64 N))]) (hp:=[(2,some (.box [.v (.bool false),nS]))]) (.k (.k (.cons rfl (Sub.int oz) .nil))) (.k .nil)) ?_;refine gv (du _) ?_;refine gs (eE (.tmp rfl) (.const _) oz (f9 _ 32 oz) rfl) ?_;refine gv ((du _).trans (by rw[Nat.mod_eq_of_lt (show N/2^32<4294967296 by omega)])) ?_;refine gc (jH (aa .lss n 0) [N%4294967296,N/2^32] (wR hNB) (by unfold aC;simp)) ?_;refine ae ?_;rw[vR hNB,show sgn (aa .lss n 0) N=n by simp only[sgn,aa,decide_eq_true_eq];split <;> omega];rfl
theorem BF:∀(j k v:Nat),j<=k->(bg k v).take j=bg j v
 |0,_,_,_=>by simp[bg]
 |j+1,0,_,h=>by omega
 |j+1,k+1,v,h=>by
  rw[bg,bg,List.take_succ_cons,BF j k _ oz]
theorem Gz{m:List Nat}(h:Ws m):(aD (val m)).length<=m.length:=eV (b8 m h)
theorem GZ{m:List Nat}(h:Ws m):m.take (aD (val m)).length=aD (val m):=by
 have h1:=tj m h;have h2:=tj (aD (val m)) (cZ _);rw[ci]at h2;have h3:=BF _ _ (val m) (Gz h);rw[<- h1,<- h2]at h3;exact h3
theorem FE{m:List Nat}{n:Nat}(h:Ws m)(hn:n<=m.length)(hv:val (m.take n)=val m)(h0:n=0\/ai m (n-1)≠0):n=(aD (val m)).length:=by
 have h1:m.take n=aD (val m):=by
  refine EF (fR h n) ?_ hv;intro x hx;rcases h0 with h0 |h0
  ·subst h0;simp at hx
  ·have hn0 : n ≠ 0 := by intro h3; subst h3; simp at hx
   rw[List.getLast?_eq_getElem?,length_take,Nat.min_eq_left hn,getElem?_take,VQ oz,jm oz]at hx;cases hx;exact h0
 rw[<- h1,length_take,Nat.min_eq_left hn]
theorem AN(l:List Nat)(i:Nat):val l=val (l.take i)+4294967296^i*val (l.drop i):=by
 rcases lt_or_ge i l.length with h |h
 ·exact yG oz
 ·rw[eH h,drop_eq_nil_of_le h];simp[val]
theorem uc(l:List Nat)(i:Nat):val (l.drop i)=ai l i+4294967296*val (l.drop (i+1)):=by
 rcases lt_or_ge i l.length with h |h
 ·exact pp h
 ·rw[pi h,drop_eq_nil_of_le h,drop_eq_nil_of_le oz];rfl
theorem FN{a b:List Nat}{i:Nat}(ha:Ws a)(he:val (a.drop (i+1))=val (b.drop (i+1)))(hx:ai a i<ai b i):val a<val b:=by
 rw[AN a (i+1),AN b (i+1),he];have:=Hu ha hx;omega
theorem On{xs ys:List AV}(hl:xs.length=ys.length)(h1:∀(j:Nat)(y:AV),ys[j]?=some y->y.one=true)(h:∀(j:Nat)(x y:AV),xs[j]?=some x->ys[j]?=some y->Sub x y):Sub (.agg xs) (.agg ys):=by
 intro g S m v hr;cases hr with
 |agg hn h2 hr =>
  refine .agg (hn.trans hl) h1 ?_;intro j u c hu hc
  have hj:j<xs.length:=by
   rw[hl];rcases lt_or_ge j ys.length with h |h
   ·exact h
   ·rw[getElem?_eq_none h]at hc;cases hc
  exact h j _ c (getElem?_eq_getElem hj) hc _ _ _ _ (hr j u _ hu (getElem?_eq_getElem hj))
theorem K8:Sub (.agg [.v (.bool false),.v (.slice none 0 0)]) (zA 0):=by
 show Sub (.agg [.v (.bool false),.v (.slice none 0 0)]) (.agg [bl false,ws []]);refine On rfl ?_ ?_
 ·intro j y hy
  match j,hy with
  |0,hy=>cases hy;rfl
  |1,hy=>cases hy;rfl
 ·intro j x y hx hy
  match j,hx,hy with
  |0,hx,hy=>cases hx;cases hy;exact Sub.refl _
  |1,hx,hy=>cases hx;cases hy;exact Sub.nil _ _ _
theorem Fg{out:List Nat}{i x:Nat}(h:out.length=i):val (out++[x])=val out+4294967296^i*x:=by
 rw[rx,h];simp[val]
theorem Fx{o c P x y u w:Nat}(hu:u<4294967296)(hw:w<4294967296)(hc:c<=1)(h:o+y=x+c*P) :
  (o+P*((4294967296+u-w-c)%4294967296))+(y+P*w)=(x+P*u)+(1-(4294967296+u-w-c)/2^32)*(P*4294967296):=by
 have h0:(4294967296+u-w-c)%4294967296+w+c=u+(1-(4294967296+u-w-c)/2^32)*4294967296:=by omega
 generalize(1-(4294967296+u-w-c)/2^32)=q at *;generalize(4294967296+u-w-c)%4294967296=r at *;grind
theorem EZ{a b out:List Nat}{c:Nat}(ha:Ws a)(hw:Ws out)(ho:out.length=a.length)(hle:val b<=val a)
  (h:val out+val (b.take a.length)=val (a.take a.length)+c*4294967296^a.length):val out=val a-val b:=by
 have hb:=AN b a.length;have h2:=b8 a ha
 have h3:val (b.drop a.length)=0:=by
  rcases Nat.eq_zero_or_pos (val (b.drop a.length))with h4 |h4
  ·exact h4
  ·have:=mul_le_mul_left (4294967296^a.length) h4;omega
 rw[h3,Nat.mul_zero,Nat.add_zero]at hb;rw[<- hb,take_length]at h;have h1:=b8 out hw;rw[ho]at h1;cases c with
 |zero=>omega
 |succ c=>rw[Nat.succ_mul]at h;omega
theorem CY{z:Int}{k:Nat}(h:Lz k z)(hk:k<=aY):(ofInt z).ok:=⟨cZ _,le_trans h.len hk⟩
theorem EE{z:Int}{k:Nat}(h:Lz k z):(ofInt z).mag.length<=k:=h.len
theorem Ps(x y:Int):(x-y).sign=gq x y:=by
 unfold gq;have h:=Bs (x-y)
 (repeat' split) <;> omega
theorem kL(m:List Nat)(i:Nat)(hm:Ws m):FP 365 [ws m,i64 i] (u64 (ai m i)):=by
 refine af func365 ?_;refine gl ?_;refine gC (fun t8=>?_) (fun t8=>?_)
 ·simp[aa]at t8;have:=bU hm i;refine gi (ch (i:=i) t8) ?_;refine gv (u64_in oz) ?_;refine ae ?_;rfl
 simp[aa]at t8;refine ae ?_;simp[u64,pi t8]
theorem FJ(w:Wh)(h:w.ok):FP 364 [w.av] (bl w.valid):=by
 have hl:w.mag.length<=aY:=h.2;refine af func364 ?_;refine gl ?_;refine gC (fun t6=>?_) (fun t6=>?_)
 ·have h0 : w.mag = [] := by simpa [aa] using t6
  refine ae ?_;simp[bl,Wh.valid,h0]
 have h0:w.mag.length≠0:=by simpa[aa]using t6
 refine gl ?_;refine ga (ja oz oz) ?_;refine gi (ch (i:=w.mag.length-1) oz) ?_;refine ae ?_;have h1:w.mag≠[]:=fun h=>h0 (by rw[h];rfl)
 simp only[bl,Wh.valid,VP h1,List.getLast?_eq_getElem?,jm (show w.mag.length-1<w.mag.length by omega),aa];congr 2;generalize ai w.mag _=x;rw[Bool.eq_iff_iff];simp
theorem ko(w:Wh)(h:w.ok):FP 292 [w.av] (ws w.m):=by
 refine af func292 ?_;refine gc (FJ w h) ?_;refine gC (fun t5=>?_) (fun t5=>?_)
 ·have h0 : w.valid = false := by simpa [aa] using t5
  refine gR ?_;exact iC (by rw[show w.m=[] by simp[Wh.m,h0]];exact Sub.nil _ _ _)
 have h0:w.valid=true:=by simpa[aa]using t5
 refine ae ?_;simp only[Wh.m,h0];rfl
theorem iP(w:Wh)(h:w.ok):FP 293 [w.av] (bl w.n):=by
 refine af func293 ?_;refine gc (FJ w h) ?_;refine ae ?_;simp only[Wh.n,bl];cases w.valid <;> rfl
theorem xS(d:Nat)(hd:Nat.blt d 1000=true)(m:List Nat)(hm:Ws m)(hb:m.length<=aC) :
  Con prog 362 [ws m] [] (.ms d 1 0 (aD (val m)).length) [(d,some (.row 1 (m.map u32)))]:=by
 have hb':=hb;unfold aC at hb;refine gF func362 (fun k z h=>by cases h) ?_;refine gs (gf T43 rfl T349 rfl rfl rfl) ?_;refine gs (bO (.tmp rfl) rfl rfl (.tmp rfl) T43 rfl T349 rfl rfl (by simp only[length_map];omega) rfl rfl) ?_;refine aN [] [6] (fun(n:Nat)=>[(3,some (.ms 6 1 0 n))]) (fun _=>[]) (fun n=>n<=m.length/\val (m.take n)=val m) (fun n=>n) m.length ⟨le_refl _,by rw[take_length]⟩ ?_ (h1:=(.cons rfl (Sub.of (by rw[length_map,Nat.zero_add])) .nil));rintro n ⟨hn,hv⟩ K1 J1;refine l7 (fun h=>(ja (by simp[aa]at h;omega) (by unfold aY;omega))) ?_;refine gs (ez rfl rfl rfl (fun h=>bP (n:=n-1) (.opt rfl (o1 h)) (.opt rfl (o1 h)) T43 rfl T349 rfl oz (by simp[aa]at h;omega) rfl)) ?_;refine gs (ez rfl rfl rfl (fun h=>dR (.opt rfl (o1 h)) rfl (ch (i:=n-1) (by simp[aa]at h;omega)) T349 rfl rfl rfl)) ?_;refine gC (fun t18=>?_) (fun t18=>?_)
 ·have t18 : 0 < n /\ ai m (n - 1) = 0 := by simpa [aa] using t18
  refine ga (ja oz (by unfold aY;omega)) ?_;refine gs (uM (.tmp rfl) (.none _) (.some _ (.tmp rfl) oz) T43 rfl T349 rfl oz oz rfl) ?_;exact aH J1 (n-1) ⟨by omega,by have h:=@db m (n-1);rw[show n-1+1=n by omega,t18.2]at h;simp at h;omega⟩ (hw:=Wk.of (.cons rfl (Sub.of (by congr 1)) .nil) (.k .nil))
 have t18:0<n->ai m (n-1)≠0:=by simpa[aa]using t18
 have hn1:=FE hm hn hv (by rcases Nat.eq_zero_or_pos n with h |h;(exact .inl h);exact .inr (t18 h));subst hn1;refine gR ?_;exact aA.own1 rfl hd rfl
theorem pv(m:List Nat)(hm:Ws m)(hb:m.length<=aC):FP 362 [ws m] (ws (aD (val m))):=by
 have h:=Con.freeze (by rw[length_map,Nat.zero_add];exact Gz hm) (xS 0 rfl m hm hb)
 rwa [drop_zero,<- map_take,GZ hm]at h
theorem jK(b:Bool)(m:List Nat)(hm:Ws m)(hb:m.length<=aC):FP 282 [bl b,ws m] (zA (sgn b (val m))):=by
 refine af func282 ?_;refine gc (pv m hm hb) ?_;refine gl ?_;refine gC (fun t9=>?_) (fun t9=>?_)
 ·have h0:val m=0:=by
   have:=ci (val m);have h9:aD (val m)=[]:=List.length_eq_zero_iff.1 (by simpa[aa]using t9);rw[h9]at this;exact this.symm
  refine gR ?_;exact iC (by rw[h0,show sgn b 0=0 by cases b <;> rfl];exact K8)
 have h0:val m≠0:=by
  intro h;rw[h]at t9;cases t9
 refine ae ?_
 rw[show zA (sgn b (val m))=.agg [bl b,ws (aD (val m))] by
  unfold zA ofInt Wh.av;rw[show(sgn b (val m)).natAbs=val m by unfold sgn;split <;> omega,show decide (sgn b (val m)<0)=b by cases b <;> simp[sgn] <;> omega]]
theorem yB(a b:List Nat)(ha:Ws a)(hb:Ws b):FP 295 [ws a,ws b] (i64 (if val a<val b then -1 else if val b<val a then 1 else 0)):=by
 refine af func295 ?_ (0,0);refine tC (t:=0) rfl (fun hla=>?_);refine tC (t:=1) rfl (fun hlb=>?_);unfold aY at hla hlb;refine go ?_;refine gl ?_;refine gl ?_;refine gs (qg (.tmp rfl) (.tmp rfl) rfl) ?_;refine ga (dq oz) ?_;refine aN [0,1] [] (fun(n:Nat)=>[(5,some (i64 ((n:Int)-1)))]) (fun _=>[]) (fun n=>n<=281474976710656/\val (a.drop n)=val (b.drop n)) (fun n=>n) (max a.length b.length) ⟨by omega,by rw[drop_eq_nil_of_le oz,drop_eq_nil_of_le oz]⟩ ?_ (h1:=(.cons rfl (Sub.int oz) .nil));rintro n ⟨hn,hd⟩ K1 J1;refine gC (fun t13=>?_) (fun t13=>?_)
 ·have hn0 : 1 <= n := by have := t13; simp [aa] at this; omega
  obtain⟨k,rfl⟩:∃k,n=k+1:=⟨n-1,by omega⟩
  have hk:((k+1:Nat):Int)-1=(k:Int):=by omega
  rw[hk];refine gc (kL a k ha) ?_;refine gc (kL b k hb) ?_;refine gC (fun t22=>?_) (fun t22=>?_)
  ·have h3 : ai a k ≠ ai b k := by simpa [aa, Int.ofNat_inj] using t22
   refine gc (kL a k ha) ?_;refine gc (kL b k hb) ?_;refine gC (fun t29=>?_) (fun t29=>?_)
   ·have h4 : ai a k < ai b k := by simpa [aa] using t29
    have h5:=FN ha hd h4;refine ae ?_;simp[i64,h5]
   have h4:ai b k<ai a k:=by have:ai b k<=ai a k:=(by simpa[aa]using t29);omega
   have h5:=FN hb hd.symm h4;refine ae ?_;simp[i64,h5,Nat.lt_asymm h5]
  have h3:ai a k=ai b k:=by simpa[aa,Int.ofNat_inj]using t22
  refine ga (dq oz) ?_;exact aH J1 k ⟨by omega,by rw[uc a,uc b,hd,h3]⟩
 have hn0:n=0:=by have:=t13;simp[aa]at this;omega
 subst hn0;refine ae ?_;simp at hd;simp[i64,hd]
theorem BK(a b:List Nat)(ha:Ws a)(hb:Ws b)(la:a.length<aC)(lb:b.length<aC):FP 294 [ws a,ws b] (ws (aD (val a+val b))):=by
 unfold aC at la lb;obtain⟨n,hn⟩:∃n,n=max a.length b.length+1:=⟨_,rfl⟩
 refine af func294 ?_;refine gl ?_;refine gl ?_;refine gs (qg (.tmp rfl) (.tmp rfl) rfl) ?_;refine ga (show _=(n:Int) by rw[cV oz];omega) ?_;refine gW (Wk.virt 900 1 rfl) ?_;refine ip [0,1,14] [] (fun(out:List Nat)(c i:Nat)=>[(5,some (.ms 900 1 0 i)),(6,some (u64 c)),(15,some (i64 i))]) (fun out _ _=>[(900,some (.row 1 (out.map u32)))]) (fun out c i=>out.length=i/\i<=n/\Ws out/\c<=1/\val out+c*4294967296^i=val (a.take i)+val (b.take i)) (fun _ _ i=>n-i) ([]) 0 0 ⟨rfl,by omega,sG,by omega,by simp[val]⟩ ?_;rintro out c i ⟨ho,hi,hw,hc,hv⟩ K1 J1;refine gC (fun t16=>?_) (fun t16=>?_) (st2:=(9,0))
 ·have hin : i < n := by simpa [aa] using t16
  have h1:=bU ha i;have h2:=bU hb i;obtain⟨s,hs⟩:∃s,s=c+(ai a i+ai b i):=⟨_,rfl⟩
  have h3:=zE (u:=ai a i) (w:=ai b i) hv;rw[<- hs]at h3;refine gc (by apply kL <;> assumption) ?_;refine gc (by apply kL <;> assumption) ?_;refine ga (iG oz) ?_;refine ga ((iG oz).trans (show _=(s:Int) by congr 1;omega)) ?_;refine gv (du _) ?_;refine gs (bO (.tmp rfl) rfl (by rw[length_map,ho]) (.tmp rfl) T43 rfl T349 rfl rfl (by simp;omega) rfl rfl) ?_;refine gs (eE (.tmp rfl) (.const _) oz (f9 _ 32 oz) rfl) ?_ (8,0);refine gW (Wk.of (sl:=[(0,some (ws a)),(1,some (ws b)),(5,some (.ms 31 1 0 (i+1))),(6,some (u64 (s/2^32))),(14,some (i64 n)),(15,some (i64 i))]) (hp:=[(31,some (.row 1 ((out++[s%4294967296]).map u32)))]) aR (.cons rfl (BlkSub.of (by rw[map_append];rfl)) .nil)) ?_ (8,0);refine gW (Wk.rk (k:=31) (d:=900) rfl rfl) ?_;refine ga (cV oz) ?_;exact fS J1 (out++[s%4294967296]) (s/2^32) (i+1) ⟨by simp[ho],by omega,uH hw (tb oz),by omega,by rw[Fg ho,db,db,Nat.pow_succ];exact h3⟩
 have hin:i=n:=by have:n<=i:=(by simpa[aa]using t16);omega
 refine gW ((Wk.freeze (k:=900) rfl).trans<|Wk.of (sl:=[(5,some (ws out))]) (hp:=[]) (.cons rfl (Sub.of (bD (by simp[ho]))) .nil) .nil) ?_;refine gc (pv out hw (by unfold aC;omega)) ?_;refine ae ?_;subst hin;rw[HK ha hb hn ho (by rw[eH (l:=out) oz];exact hv)]
theorem zD(a b:List Nat)(ha:Ws a)(hb:Ws b)(la:a.length<aC)(hle:val b<=val a):FP 296 [ws a,ws b] (ws (aD (val a-val b))):=by
 unfold aC at la;obtain⟨n,hn⟩:∃n,n=a.length:=⟨_,rfl⟩
 refine af func296 ?_;refine gl ?_;refine gW (Wk.virt 900 1 rfl) ?_;refine ip [0,1] [] (fun(out:List Nat)(c i:Nat)=>[(5,some (.ms 900 1 0 i)),(6,some (u64 c)),(10,some (i64 n)),(11,some (i64 i))]) (fun out _ _=>[(900,some (.row 1 (out.map u32)))]) (fun out c i=>out.length=i/\i<=n/\Ws out/\c<=1/\val out+val (b.take i)=val (a.take i)+c*4294967296^i) (fun _ _ i=>n-i) ([]) 0 0 ⟨rfl,by omega,sG,by omega,by simp[val]⟩ ?_ (h1:=(.k (.k (.cons rfl (Sub.int (by rw[hn])) (.k .nil)))))
 rintro out c i ⟨ho,hi,hw,hc,hv⟩ K1 J1;refine gC (fun t12=>?_) (fun t12=>?_) (st2:=(9,0))
 ·have hin : i < n := by simpa [aa] using t12
  have h1:=bU ha i;have h2:=bU hb i;obtain⟨s,hs⟩:∃s,s=4294967296+ai a i-ai b i-c:=⟨_,rfl⟩
  have h3:=Fx h1 h2 hc hv;rw[<- hs]at h3;refine gc (by apply kL <;> assumption) ?_;refine ga ((iG (x:=4294967296) oz)) ?_;refine gc (by apply kL <;> assumption) ?_;refine ga ((jY oz oz).trans (by rw[VQ oz])) ?_;refine ga ((jY oz oz).trans (show _=(s:Int) by rw[VQ oz];congr 1;omega)) ?_;refine gv (du _) ?_;refine gs (bO (.tmp rfl) rfl (by rw[length_map,ho]) (.tmp rfl) T43 rfl T349 rfl rfl (by simp;omega) rfl rfl) ?_;refine gs (eE (.tmp rfl) (.const _) oz (f9 _ 32 oz) rfl) ?_;refine ga ((jY (x:=1) oz oz).trans (by rw[VQ oz])) ?_ (8,0);refine gW (Wk.of (sl:=[(0,some (ws a)),(1,some (ws b)),(5,some (.ms 28 1 0 (i+1))),(6,some (u64 (1-s/2^32:Nat))),(10,some (i64 n)),(11,some (i64 i))]) (hp:=[(28,some (.row 1 ((out++[s%4294967296]).map u32)))]) aR (.cons rfl (BlkSub.of (by rw[map_append];rfl)) .nil)) ?_ (8,0);refine gW (Wk.rk (k:=28) (d:=900) rfl rfl) ?_;refine ga (cV oz) ?_;exact fS J1 (out++[s%4294967296]) (1-s/2^32) (i+1) ⟨by simp[ho],by omega,uH hw (tb oz),by omega,by rw[Fg ho,db,db,Nat.pow_succ];exact h3⟩
 have hin:i=n:=by have:n<=i:=(by simpa[aa]using t12);omega
 refine gW ((Wk.freeze (k:=900) rfl).trans<|Wk.of (sl:=[(5,some (ws out))]) (hp:=[]) (.cons rfl (Sub.of (bD (by simp[ho]))) .nil) .nil) ?_;refine gc (pv out hw (by unfold aC;omega)) ?_;refine ae ?_;subst hin;subst hn;rw[EZ ha hw ho hle hv]
theorem Ur(a b:List Nat)(ha:Ws a)(hb:Ws b)(la:a.length+b.length<=aC):FP 297 [ws a,ws b] (ws (aD (val a*val b))):=by
 have la':=la;unfold aC at la;refine af func297 ?_;refine gl ?_;refine gl ?_;refine ga (jt (by unfold aY;omega) (by unfold aY;omega)) ?_;refine gs (fD (.tmp rfl) T43 rfl T349 rfl rfl oz (by dsimp only;omega) rfl) ?_;refine gl ?_;refine fZ [0,1,17] [] (fun(out:List Nat)(i:Nat)=>[(5,some (.ms 15 1 0 (a.length+b.length))),(18,some (i64 i))]) (fun out _=>[(15,some (.row 1 (out.map u32)))]) (fun out i=>out.length=a.length+b.length/\i<=a.length/\Ws out/\val (out.take (i+b.length))=val (a.take i)*val b) (fun _ i=>a.length-i) (List.replicate (a.length+b.length) 0) 0 ⟨by simp,by omega,kV _,by simp[val,vD]⟩ ?_ (h2:=(.cons rfl (BlkSub.of (by rw[map_replicate];rfl)) .nil))
 rintro out i ⟨ho,hi,hw,hv⟩ K1 J1;refine gC (fun t19=>?_) (fun t19=>?_) (st2:=(14,0))
 ·have hin : i < a.length := by simpa [aa] using t19
  have h1:=bU ha i;refine gl ?_;refine ip [0,1,17,18,6,22] [] (fun(o:List Nat)(c k:Nat)=>[(5,some (.ms 15 1 0 (a.length+b.length))),(7,some (u64 c)),(23,some (i64 k))]) (fun o _ _=>[(15,some (.row 1 (o.map u32)))]) (fun o c k=>o.length=a.length+b.length/\k<=b.length/\Ws o/\c<4294967296/\val (o.take (i+b.length))+c*4294967296^(i+k)=val (out.take (i+b.length))+4294967296^i*(ai a i*val (b.take k))) (fun _ _ k=>b.length-k) out 0 0 ⟨ho,by omega,hw,by omega,by simp[val]⟩ ?_
  rintro o c k ⟨ho2,hk,hw2,hc,hv2⟩ K2 J2;refine gC (fun t24=>?_) (fun t24=>?_)
  ·have hkn : k < b.length := by simpa [aa] using t24
   have h2:=bU hb k;have h3:=bU hw2 (i+k);have h4:=uR h1 h2;obtain⟨s,hs⟩:∃s,s=c+(ai a i*ai b k+ai o (i+k)):=⟨_,rfl⟩
   have h5:=Hw (x:=s%4294967296) (show i+k<o.length by omega) (show i+k<i+b.length by omega);have h6:=Dl h5 hs hv2;refine gi (gd (n:=i) oz (by first |omega |(simp;omega))) ?_;refine gv (u64_in oz) ?_;refine gi (gd (n:=k) oz (by first |omega |(simp;omega))) ?_;refine gv (u64_in oz) ?_;refine ga (vl oz) ?_;refine ga (jt (by unfold aY;omega) (by unfold aY;omega)) ?_;refine gs (bP (n:=i+k) (.tmp rfl) (.tmp rfl) T43 rfl T349 rfl oz (by first |omega |(simp;omega)) rfl) ?_;refine gs (dR (.tmp rfl) rfl (ch (i:=i+k) oz) T349 rfl rfl rfl) ?_;refine gv (u64_in oz) ?_;refine ga (iG oz) ?_;refine ga ((iG oz).trans (show _=(s:Int) by congr 1;omega)) ?_;refine gD ?_;refine ga (jt (by unfold aY;omega) (by unfold aY;omega)) ?_;refine gv (du _) ?_;refine gs (eE (.tmp rfl) (.const _) oz (f9 _ 32 oz) rfl) ?_;refine gs (bP (n:=i+k) (.tmp rfl) (.tmp rfl) T43 rfl T349 rfl oz (by first |omega |(simp;omega)) rfl) ?_;refine gs (cO (.tmp rfl) rfl (ch (i:=i+k) oz) rfl (.tmp rfl) rfl rfl T349 rfl rfl) ?_;refine ga (cV oz) ?_;exact fS J2 (o.set (i+k) (s%4294967296)) (s/2^32) (k+1) ⟨by simp[ho2],by omega,fP hw2 oz,by omega,by rw[show i+(k+1)=(i+k)+1 from rfl,show s/2^32=s/4294967296 from rfl,Nat.pow_succ,h6,db];simp only[pow_add];grind⟩ (hw:=Wk.of aR (.cons rfl (BlkSub.of (by rw[map_set];rfl)) .nil))
  have hkn:k=b.length:=by have:b.length<=k:=(by simpa[aa]using t24);omega
  subst hkn;have h5:=kO (x:=c) (show i+b.length<o.length by omega);rw[take_length]at hv2;refine gl ?_;refine ga (jt (by unfold aY;omega) (by unfold aY;omega)) ?_;refine gv ((du c).trans (by rw[Nat.mod_eq_of_lt hc])) ?_;refine gs (bP (n:=i+b.length) (.tmp rfl) (.tmp rfl) T43 rfl T349 rfl oz (by first |omega |(simp;omega)) rfl) ?_;refine gs (cO (.tmp rfl) rfl (ch (i:=i+b.length) oz) rfl (.tmp rfl) rfl rfl T349 rfl rfl) ?_;refine ga (cV oz) ?_;exact fB J1 (o.set (i+b.length) c) (i+1) ⟨by simp[ho2],by omega,fP hw2 hc,by rw[show i+1+b.length=i+b.length+1 by omega,h5,db];simp only[pow_add]at *;grind⟩ (hw:=Wk.of aR (.cons rfl (BlkSub.of (by rw[map_set];rfl)) .nil))
 have hin:i=a.length:=by have:a.length<=i:=(by simpa[aa]using t19);omega
 subst hin;rw[take_length,eH oz]at hv;refine gW ((Wk.freeze (k:=15) rfl).trans<|Wk.of (sl:=[(5,some (ws out))]) (hp:=[]) (.cons rfl (Sub.of (bD (by simp[ho]))) .nil) .nil) ?_;refine gc (pv out hw oz) ?_;refine ae ?_;rw[hv]
theorem AD(a:Wh)(ha:a.ok):FP 195 [a.av] (i64 a.z.sign):=by
 obtain⟨e1,e2,e3⟩:=Hx ha;refine af func195 ?_;refine gc (ko a ha) ?_;refine gl ?_;refine gC (fun t6=>?_) (fun t6=>?_)
 ·have h0 : a.m.length = 0 := by simpa [aa] using t6
  refine ae ?_;rw[e1 h0];rfl
 have h0:a.m.length≠0:=by simpa[aa]using t6
 have hval:a.valid=true:=by
  unfold Wh.m at h0;split at h0
  ·assumption
  ·exact absurd rfl h0
 refine gc (iP a ha) ?_;refine gC (fun t8=>?_) (fun t8=>?_)
 ·have h1 : a.neg = true := by unfold Wh.n at t8; rw [hval] at t8; simpa using t8
  refine ae ?_;rw[e2 h0 h1];rfl
 have h1:a.neg=false:=by unfold Wh.n at t8;rw[hval]at t8;simpa using t8
 refine ae ?_;rw[e3 h0 h1];rfl
theorem Fq(a:Wh)(ha:a.ok)(la:a.mag.length<aC):FP 279 [a.av] (zA (-a.z)):=by
 refine af func279 ?_;refine gc (iP a ha) ?_;refine gc (ko a ha) ?_;refine gc (jK _ a.m (Wh.ws ha) (Nat.le_of_lt (Wh.small ha la))) ?_;refine gD ?_;refine ae ?_;rw[Wh.z_eq,<- Iz];rfl
theorem MZ(a b:Wh)(ha:a.ok)(hb:b.ok)(la:a.mag.length+b.mag.length<=aC):FP 197 [a.av,b.av] (zA (a.z*b.z)):=by
 have h1:=Wh.m_le (w:=a);have h2:=Wh.m_le (w:=b);have h3:(aD (val a.m*val b.m)).length<=a.m.length+b.m.length:=eV (by rw[pow_add];exact Nat.mul_lt_mul'' (b8 _ (Wh.ws ha)) (b8 _ (Wh.ws hb)));refine af func197 ?_;refine gc (iP a ha) ?_;refine gc (iP b hb) ?_;refine gc (ko a ha) ?_;refine gc (ko b hb) ?_;refine gc (Ur a.m b.m (Wh.ws ha) (Wh.ws hb) oz) ?_;refine gc (jK _ _ (cZ _) oz) ?_;refine gD ?_;refine ae ?_;rw[ci,EH];rfl
theorem It(a b:Wh)(ha:a.ok)(hb:b.ok)(la:a.mag.length<aC)(lb:b.mag.length<aC):FP 196 [a.av,b.av] (zA (a.z+b.z)):=by
 have h1:=Wh.m_le (w:=a);have h2:=Wh.m_le (w:=b);have hla:val a.m<4294967296^(max a.m.length b.m.length):=lt_of_lt_of_le (b8 _ (Wh.ws ha)) (Nat.pow_le_pow_right oz oz);have hlb:val b.m<4294967296^(max a.m.length b.m.length):=lt_of_lt_of_le (b8 _ (Wh.ws hb)) (Nat.pow_le_pow_right oz oz);have h3:(aD (val a.m+val b.m)).length<=max a.m.length b.m.length+1:=eV (by rw[Nat.pow_succ];omega);have h4:(aD (val a.m-val b.m)).length<=max a.m.length b.m.length:=eV oz;have h5:(aD (val b.m-val a.m)).length<=max a.m.length b.m.length:=eV oz;refine af func196 ?_;refine gc (ko a ha) ?_;refine gc (ko b hb) ?_;refine gD ?_;refine gc (iP a ha) ?_;refine gc (iP b hb) ?_;refine gD ?_;refine gC (fun t15=>?_) (fun t15=>?_)
 ·have h0 : a.n = b.n := by simpa using t15
  refine gc (iP a ha) ?_;refine gc (BK a.m b.m (Wh.ws ha) (Wh.ws hb) oz oz) ?_;refine gc (jK _ _ (cZ _) oz) ?_;refine ae ?_;rw[ci,Fj h0];rfl
 have h0:a.n≠b.n:=by simpa using t15
 refine gc (yB a.m b.m (Wh.ws ha) (Wh.ws hb)) ?_;refine gC (fun t25=>?_) (fun t25=>?_)
 ·have h6:val b.m<=val a.m:=by
   rcases lt_or_ge (val a.m) (val b.m)with h |h
   ·rw[VQ h]at t25;cases t25
   ·exact h
  refine gc (iP a ha) ?_;refine gc (zD a.m b.m (Wh.ws ha) (Wh.ws hb) oz oz) ?_;refine gc (jK _ _ (cZ _) oz) ?_;refine ae ?_;rw[ci,A6 h0 h6];rfl
 have h6:val a.m<val b.m:=by
  rcases lt_or_ge (val a.m) (val b.m)with h |h
  ·exact h
  ·rw[VP oz]at t25;split at t25 <;> cases t25
 refine gc (iP b hb) ?_;refine gc (zD b.m a.m (Wh.ws hb) (Wh.ws ha) oz oz) ?_;refine gc (jK _ _ (cZ _) oz) ?_;refine ae ?_;rw[ci,EM h0 oz];rfl
theorem Gv(n:Int)(h:-9223372036854775808<=n/\n<=9223372036854775807):FP 175 [i64 n] (zA n):=by
 obtain⟨N,hN⟩:∃N,N=n.natAbs:=⟨_,rfl⟩
 have hNB:N<18446744073709551616:=by omega
 refine af func175 ?_;refine gv (show IntKind.u64.wrap n=((n%18446744073709551616:Int)) by simp only[IntKind.wrap,IntKind.signed,IntKind.bits,Bool.false_and,if_false,Bool.false_eq_true];omega) ?_;refine gC (fun t7=>?_) (fun t7=>?_) (st2:=(77777,0))
 ·have hn : n < 0 := by simpa [aa] using t7
  refine gs (AJ (.tmp rfl) rfl) ?_ (4,0);refine gW (Wk.of (sl:=[(0,some (i64 n)),(2,some (.ptr 2 0)),(3,some (u64 N))]) (hp:=[(2,some (.box [.v (.bool false),nS]))]) (.k (.k (.cons rfl (Sub.int (by simp only[IntKind.wrap,IntKind.signed,IntKind.bits,Bool.false_and,if_false,Bool.false_eq_true];omega)) .nil))) (.k .nil)) ?_;refine gv (du _) ?_;refine gs (eE (.tmp rfl) (.const _) oz (f9 _ 32 oz) rfl) ?_;refine gv ((du _).trans (by rw[Nat.mod_eq_of_lt (show N/2^32<4294967296 by omega)])) ?_;refine gc (jK (aa .lss n 0) [N%4294967296,N/2^32] (wR hNB) (by unfold aC;simp)) ?_;refine ae ?_;rw[vR hNB,show sgn (aa .lss n 0) N=n by simp only[sgn,aa,decide_eq_true_eq];split <;> omega];rfl
 have hn:¬n<0:=by simpa[aa]using t7
 refine gW (Wk.of (sl:=[(0,some (i64 n)),(2,some (.ptr 2 0)),(3,some (u64 N))]) (hp:=[(2,some (.box [.v (.bool false),nS]))]) (.k (.k (.cons rfl (Sub.int oz) .nil))) (.k .nil)) ?_;refine gv (du _) ?_;refine gs (eE (.tmp rfl) (.const _) oz (f9 _ 32 oz) rfl) ?_;refine gv ((du _).trans (by rw[Nat.mod_eq_of_lt (show N/2^32<4294967296 by omega)])) ?_;refine gc (jK (aa .lss n 0) [N%4294967296,N/2^32] (wR hNB) (by unfold aC;simp)) ?_;refine ae ?_;rw[vR hNB,show sgn (aa .lss n 0) N=n by simp only[sgn,aa,decide_eq_true_eq];split <;> omega];rfl
theorem JE(a b:Wh)(ha:a.ok)(hb:b.ok)(la:a.mag.length<aC)(lb:b.mag.length<aC):FP 363 [a.av,b.av] (zA (a.z-b.z)):=by
 have h1:=(Wh.lz hb).neg;have h2:=EE h1;refine af func363 ?_;refine gc (Fq b hb lb) ?_;refine gc (It a (ofInt (-b.z)) ha (CY h1 hb.2) la oz) ?_;refine gD ?_;refine ae ?_;rw[dH,<- Int.sub_eq_add_neg];rfl
theorem R3(a b:Wh)(ha:a.ok)(hb:b.ok)(la:a.mag.length<aC)(lb:b.mag.length<aC):FP 291 [a.av,b.av] (i64 (gq a.z b.z)):=by
 have h1:=(Wh.lz ha).sub (Wh.lz hb);have h2:=EE h1;refine af func291 ?_;refine gc (JE a b ha hb la lb) ?_;refine gc (AD (ofInt (a.z-b.z)) (CY h1 (by unfold aY;unfold aC at la lb;omega))) ?_;refine ae ?_;rw[dH,Ps]
theorem qG{A:List Nat}{n:Nat}:AV.lst 1 (((A.map u32).drop 0).take n)=ws (A.take n):=by
 rw[drop_zero,<- map_take];rfl
theorem HB(A:List Nat):(Blk.row 1 (A.map u32)).sc=true:=by
 simp only[Blk.sc,List.all_map];rw[all_eq_true];intro x _;rfl
theorem oX{A:List Nat}{n i:Nat}(h:i<n):ai (A.take n) i=ai A i:=by
 simp[ai,h]
theorem Ef{A:List Nat}{n i:Nat}(h:n<=i):ai (A.take n) i=0:=pi (by simp;omega)
theorem OC{x:Nat}(h:0<x):a7 x=a7 (x/2)+1:=by
 rcases lt_or_ge x 2 with h1 |h1
 ·have : x = 1 := by omega
  subst this;decide
 ·have:=tk (x:=x) (k:=1) oz;rw[show x/2^1=x/2 from rfl]at this;omega
theorem Ou{a:List Nat}{n:Nat}(ha:Ws a)(na:Nz a)(hl:a.length=n+1):a7 (val a)=32*n+a7 (ai a n):=by
 have ht:ai a n≠0:=by
  refine na _ ?_;rw[List.getLast?_eq_getElem?,hl];exact jm oz
 have hv:val a=val (a.take n)+4294967296^n*ai a n:=by rw[<- db,eH oz]
 have hlt:=oP ha n;have hp:(4294967296:Nat)^n=2^(32*n):=by rw[Nat.pow_mul]
 rw[hp]at hv hlt
 have h1:val a/2^(32*n)=ai a n:=by
  rw[hv,Nat.add_mul_div_left _ _ (Nat.pow_pos oz),Nat.div_eq_of_lt hlt,Nat.zero_add]
 have h2:2^(32*n)<=val a:=by
  have:=mul_le_mul_left (2^(32*n)) (show 1<=ai a n by omega);omega
 rw[tk h2,h1]
theorem I9{o A:List Nat}{n v:Nat}(ho:Ws o)(hl:o.length=A.length)(hn:n<=A.length)(hd:o.drop n=A.drop n)(hv:val (o.take n)=v):o=wr A 0 (bg n v):=by
 have h1:bp o 0 n=bg n v:=xt (mj ho _ _) (oG oz) (by rw[bp,drop_zero,hv]);rw[<- h1];exact yD (by simp) (by rw[Nat.zero_add];exact hd) oz
theorem AR(k:Nat)(A:List Nat)(n i:Nat)(hA:Ws A)(hn:n<=A.length) :
  Con prog 365 [.ms k 1 0 n,i64 i] [(k,some (.row 1 (A.map u32)))] (u64 (ai (A.take n) i)) [(k,some (.row 1 (A.map u32)))]:=by
 refine Con.borrow (args:=[ws (A.take n),i64 i]) k 1 (A.map u32) rfl rfl rfl ?_ rfl (fun k' x h=>by cases h) (kL (A.take n) i (fR hA n));intro j x' hj
 match j,hj with
 |0,hj=>cases hj;exact .inr ⟨0,n,rfl,by simpa using hn,by rw[qG];rfl⟩
 |1,hj=>cases hj;exact .inl rfl
theorem KL(k1 k2:Nat)(hk:k1≠k2)(A D:List Nat)(n p:Nat)(hA:Ws A)(hD:Ws D)(hn:n<=A.length)(hp:p<=D.length) :
  Con prog 295 [.ms k1 1 0 n,.ms k2 1 0 p] [(k1,some (.row 1 (A.map u32))),(k2,some (.row 1 (D.map u32)))]
   (i64 (if val (A.take n)<val (D.take p)then -1 else if val (D.take p)<val (A.take n)then 1 else 0)) [(k1,some (.row 1 (A.map u32))),(k2,some (.row 1 (D.map u32)))]:=by
 have h1:Con prog 295 [ws (A.take n),.ms k2 1 0 p] [(k2,some (.row 1 (D.map u32)))]
   (i64 (if val (A.take n)<val (D.take p)then -1 else if val (D.take p)<val (A.take n)then 1 else 0)) [(k2,some (.row 1 (D.map u32)))]:=by
  refine Con.borrow (args:=[ws (A.take n),ws (D.take p)]) k2 1 (D.map u32) rfl rfl rfl ?_ rfl (fun k' x h=>by cases h) (yB (A.take n) (D.take p) (fR hA n) (fR hD p));intro j x' hj
  match j,hj with
  |0,hj=>cases hj;exact .inl rfl
  |1,hj=>cases hj;exact .inr ⟨0,p,rfl,by simpa using hp,by rw[qG];rfl⟩
 refine Con.borrow (args:=[ws (A.take n),.ms k2 1 0 p]) k1 1 (A.map u32) ?_ ?_ rfl ?_ rfl ?_ h1
 ·rw[aP,VP hk];rfl
 ·rw[aP,VP hk];rfl
 ·intro j x' hj
  match j,hj with
  |0,hj=>cases hj;exact .inr ⟨0,n,rfl,by simpa using hn,by rw[qG];rfl⟩
  |1,hj=>cases hj;exact .inl rfl
 ·intro k' x h;obtain⟨_,h⟩:=fq h;cases h;exact HB D
theorem RL(k:Nat)(A b:List Nat)(n:Nat)(hA:Ws A)(hb:Ws b)(hn:n<=A.length) :
  Con prog 295 [.ms k 1 0 n,ws b] [(k,some (.row 1 (A.map u32)))]
   (i64 (if val (A.take n)<val b then -1 else if val b<val (A.take n)then 1 else 0)) [(k,some (.row 1 (A.map u32)))]:=by
 refine Con.borrow (args:=[ws (A.take n),ws b]) k 1 (A.map u32) rfl rfl rfl ?_ rfl (fun k' x h=>by cases h) (yB (A.take n) b (fR hA n) hb);intro j x' hj
 match j,hj with
 |0,hj=>cases hj;exact .inr ⟨0,n,rfl,by simpa using hn,by rw[qG];rfl⟩
 |1,hj=>cases hj;exact .inl rfl
theorem O8(a:List Nat)(ha:Ws a)(na:Nz a)(la:a.length<=aC):FP 393 [ws a] (i64 (a7 (val a))):=by
 unfold aC at la;refine af func393 ?_;refine gl ?_;refine gC (fun t7=>?_) (fun t7=>?_)
 ·have h0 : a=[] := List.length_eq_zero_iff.1 (by simpa[aa]using t7);refine ae ?_;subst h0;rfl
 have h0:a.length≠0:=by simpa[aa]using t7
 obtain⟨n,hn⟩:∃n,a.length=n+1:=⟨a.length-1,by omega⟩
 have hB:=Ou ha na hn;have ht:=bU ha n;refine gl ?_;refine ga (show _=(n:Int) by rw[dq oz];omega) ?_;refine ga (show _=((32*n:Nat):Int) by rw[v7 oz];omega) ?_;refine gl ?_;refine ga (show _=(n:Int) by rw[dq oz];omega) ?_;refine gi (gd (n:=n) oz (by first |omega |(simp;omega))) ?_;refine fZ [] [] (fun(x c:Nat)=>[(3,some (i64 c)),(4,some (u32 x))]) (fun _ _=>[]) (fun x c=>x<4294967296/\c<=281474976710656/\c+a7 x=a7 (val a)) (fun x _=>x) (ai a n) (32*n) ⟨ht,by omega,hB.symm⟩ ?_;rintro x c ⟨hx,hc,hv⟩ K1 J1;refine gC (fun t19=>?_) (fun t19=>?_)
 ·have hx0 : 0 < x := by simpa [aa] using t19
  have h2:=OC hx0
  have h3:a7 (val a)<=32*n+32:=by
   have:=(yk (x:=ai a n)  (by
    refine na _ ?_;rw[List.getLast?_eq_getElem?,hn];exact jm oz) ht).1
   omega
  refine ga (show _=((c+1:Nat):Int) by rw[cV oz];omega) ?_;refine gs (eE (.tmp rfl) (.const _) oz (pg x 1 oz) rfl) ?_;exact fB J1 (x/2^1) (c+1) ⟨by omega,by omega,by rw[show x/2^1=x/2 from rfl];omega⟩
 have hx0:x=0:=by have:x<=0:=(by simpa[aa]using t19);omega
 subst hx0;refine ae ?_;rw[<- hv];rfl
theorem xW(A:List Nat)(n:Nat)(hA:Ws A)(hn:n<=A.length)(la:A.length<=aC) :
  Con prog 392 [.ms 1000 1 0 n] [(1000,some (.row 1 (A.map u32)))] (.ms 1000 1 0 (aD (val (A.take n))).length) [(1000,some (.row 1 (A.map u32)))]:=by
 unfold aC at la;refine gF func392 (fun k z h=>bB h) ?_;refine aN [] [1000] (fun(j:Nat)=>[(0,some (.ms 1000 1 0 j))]) (fun _=>[]) (fun j=>j<=n/\val (A.take j)=val (A.take n)) (fun j=>j) n ⟨le_refl _,rfl⟩ ?_;rintro j ⟨hj,hv⟩ K1 J1;refine l7 (fun h=>(ja (by simp[aa]at h;omega) (by unfold aY;omega))) ?_;refine gs (ez rfl rfl rfl (fun h=>bP (n:=j-1) (.opt rfl (o1 h)) (.opt rfl (o1 h)) T43 rfl T349 rfl oz (by simp[aa]at h;omega) rfl)) ?_;refine gs (ez rfl rfl rfl (fun h=>dR (.opt rfl (o1 h)) rfl (ch (i:=j-1) (by simp[aa]at h;omega)) T349 rfl rfl rfl)) ?_;refine gC (fun t14=>?_) (fun t14=>?_)
 ·have t14 : 0 < j /\ ai A (j - 1) = 0 := by simpa [aa] using t14
  refine ga (ja oz (by unfold aY;omega)) ?_;refine gs (uM (.tmp rfl) (.none _) (.some _ (.tmp rfl) oz) T43 rfl T349 rfl oz oz rfl) ?_;exact aH J1 (j-1) ⟨by omega,by have h:=@db A (j-1);rw[show j-1+1=j by omega,t14.2]at h;simp at h;omega⟩ (hw:=Wk.of (.cons rfl (Sub.of (by congr 1)) .nil) (.k .nil))
 have t14:0<j->ai A (j-1)≠0:=by simpa[aa]using t14
 have hn1 := FE (m := A.take n) (n := j) (fR hA n) (by simp; omega) (by rw [List.take_take, Nat.min_eq_left hj]; exact hv) (by
  rcases Nat.eq_zero_or_pos j with h |h
  ·exact .inl h
  ·exact .inr (by rw[oX oz];exact t14 h))
 subst hn1;refine gR ?_;exact aA.own2 rfl rfl rfl
theorem ve(A:List Nat)(n:Nat)(hA:Ws A)(hn:n<=A.length)(la:A.length<=aC) :
  Con prog 390 [.ms 1000 1 0 n] [(1000,some (.row 1 (A.map u32)))] (.ms 1000 1 0 (aD (val (A.take n)/2)).length) [(1000,some (.row 1 ((wr A 0 (bg n (val (A.take n)/2))).map u32)))]:=by
 have la':=la;unfold aC at la;refine gF func390 (fun k z h=>bB h) ?_;refine fZ [5] [] (fun(o:List Nat)(i:Nat)=>[(0,some (.ms 1000 1 0 n)),(6,some (i64 i))]) (fun o _=>[(1000,some (.row 1 (o.map u32)))]) (fun o i=>o.length=A.length/\i<=n/\Ws o/\o.drop i=A.drop i/\val (o.take i)=val (A.take n)/2^1%4294967296^i) (fun _ i=>n-i) A 0 ⟨rfl,by omega,hA,rfl,by simp[val,Nat.mod_one]⟩ ?_;rintro o i ⟨ho,hi,hw,hd,hv⟩ K1 J1;refine gC (fun t7=>?_) (fun t7=>?_)
 ·have hin : i < n := by simpa [aa] using t7
  have e1:ai (o.take n) i=ai (A.take n) i:=by rw[oX hin,oX hin];exact pN hd
  have hd2:o.drop (i+1)=A.drop (i+1):=by
   have h1:(o.drop i).drop 1=(A.drop i).drop 1:=by rw[hd]
   rwa [drop_drop,drop_drop]at h1
  have e2:ai (o.take n) (i+1)=ai (A.take n) (i+1):=by
   rcases lt_or_ge (i+1) n with h |h
   ·rw[oX h,oX h];exact pN hd2
   ·rw[Ef h,Ef h]
  have b1:=bU (fR hA n) i;have b2:=bU (fR hA n) (i+1);have h3:=Cj (n:=1) (fR hA n) (show i<(A.take n).length by simp;omega) (show i<o.length by omega) oz hv;refine gt (aJ (AR 1000 o n i hw oz) (bA rfl rfl) aM rfl rfl) ?_;refine gs (eE (.tmp rfl) (.const _) oz ((f9 _ 1 oz).trans (by rw[e1])) rfl) ?_;refine ga (jt (y:=1) (by unfold aY;omega) (by unfold aY;omega)) ?_;refine gt (aJ (AR 1000 o n (i+1) hw oz) (bA rfl rfl) aM rfl rfl) ?_;refine gs (fj (.tmp rfl) (.const _) oz ((pM (n:=31) oz oz).trans (by rw[e2])) rfl) ?_;refine gs (jn (.tmp rfl) (.tmp rfl) rfl ((sT oz oz).trans (by rw[zi oz])) rfl) ?_;refine gv ((du _).trans (show _=(((ai (A.take n) i+ai (A.take n) (i+1)*2^32)/2^1%4294967296:Nat):Int) by congr 1;omega)) ?_;refine gs (bP (n:=i) (.tmp rfl) (.tmp rfl) T43 rfl T349 rfl oz (by first |omega |(simp;omega)) rfl) ?_;refine gs (cO (.tmp rfl) rfl (ch (i:=i) oz) rfl (.tmp rfl) rfl rfl T349 rfl rfl) ?_;refine ga (cV oz) ?_;exact fB J1 (o.set i ((ai (A.take n) i+ai (A.take n) (i+1)*2^32)/2^1%4294967296)) (i+1) ⟨by simp[ho],by omega,fP hw oz,ue hd,h3⟩ (hw:=Wk.of aR (.cons rfl (BlkSub.of (by rw[map_set];rfl)) .nil))
 have hin:i=n:=by have:n<=i:=(by simpa[aa]using t7);omega
 subst hin;have hlt:=oP hA i;have hv':val (o.take i)=val (A.take i)/2:=by rw[hv,Nat.mod_eq_of_lt oz]
 have h9:=I9 hw ho hn hd hv';refine gt (aJ (xW o i hw oz oz) (cG rfl) aM rfl rfl) ?_;refine gR ?_;exact aA.own2 rfl (by rw[<- h9]) (by rw[hv'];rfl)
theorem Ey(A b:List Nat)(n:Nat)(hA:Ws A)(hb:Ws b)(hn:n<=A.length)(la:A.length<=aC)(hle:val b<=val (A.take n)) :
  Con prog 391 [.ms 1000 1 0 n,ws b] [(1000,some (.row 1 (A.map u32)))] (.tup []) [(1000,some (.row 1 ((wr A 0 (bg n (val (A.take n)-val b))).map u32)))]:=by
 unfold aC at la;refine gF func391 (fun k z h=>bB h) ?_;refine ip [1,8] [] (fun(o:List Nat)(c i:Nat)=>[(0,some (.ms 1000 1 0 n)),(4,some (u64 c)),(9,some (i64 i))]) (fun o _ _=>[(1000,some (.row 1 (o.map u32)))]) (fun o c i=>o.length=A.length/\i<=n/\Ws o/\c<=1/\o.drop i=A.drop i/\val (o.take i)+val (b.take i)=val (A.take i)+c*4294967296^i) (fun _ _ i=>n-i) A 0 0 ⟨rfl,by omega,hA,by omega,rfl,by simp[val]⟩ ?_;rintro o c i ⟨ho,hi,hw,hc,hd,hv⟩ K1 J1;refine gC (fun t10=>?_) (fun t10=>?_)
 ·have hin : i < n := by simpa [aa] using t10
  have e1:ai (o.take n) i=ai A i:=by rw[oX hin];exact pN hd
  have h1:=bU hA i;have h2:=bU hb i;obtain⟨s,hs⟩:∃s,s=4294967296+ai A i-ai b i-c:=⟨_,rfl⟩
  have h3:=Fx h1 h2 hc hv;rw[<- hs]at h3;refine gt (aJ (AR 1000 o n i hw oz) (bA rfl rfl) aM rfl rfl) ?_;refine ga ((iG (x:=4294967296) oz).trans (by rw[e1])) ?_;refine gc (kL b i hb) ?_;refine ga ((jY oz oz).trans (by rw[VQ oz])) ?_;refine ga ((jY oz oz).trans (show _=(s:Int) by rw[VQ oz];congr 1;omega)) ?_;refine gv (du _) ?_;refine gs (eE (.tmp rfl) (.const _) oz (f9 _ 32 oz) rfl) ?_;refine ga ((jY (x:=1) oz oz).trans (by rw[VQ oz])) ?_;refine gs (bP (n:=i) (.tmp rfl) (.tmp rfl) T43 rfl T349 rfl oz (by first |omega |(simp;omega)) rfl) ?_;refine gs (cO (.tmp rfl) rfl (ch (i:=i) oz) rfl (.tmp rfl) rfl rfl T349 rfl rfl) ?_;refine ga (cV oz) ?_;exact fS J1 (o.set i (s%4294967296)) (1-s/2^32) (i+1) ⟨by simp[ho],by omega,fP hw oz,by omega,ue hd,by rw[kO oz,db,db,Nat.pow_succ];exact h3⟩ (hw:=Wk.of aR (.cons rfl (BlkSub.of (by rw[map_set];rfl)) .nil))
 have hin:i=n:=by have:n<=i:=(by simpa[aa]using t10);omega
 subst hin;have hl:(A.take i).length=i:=by simp;omega
 have h4:=EZ (a:=A.take i) (b:=b) (out:=o.take i) (fR hA i) (fR hw i) (by simp;omega) hle (by rw[hl,take_of_length_le (show(A.take i).length<=i by omega)];exact hv);have h9:=I9 hw ho hn hd h4;refine gR ?_;exact aA.own2 rfl (by rw[<- h9]) rfl
theorem Cq{x:Nat}(h:x<=9223372036854775807):IntKind.i64.wrap ((x:Int).tdiv 32)=((x/32:Nat):Int):=by
 rw[show(32:Int)=((32:Nat):Int)from rfl,<- Int.ofNat_tdiv];exact i64_in oz
theorem CW{x:Nat}:(x:Int).tmod 32=((x%32:Nat):Int):=(Int.ofNat_tmod _ _).symm
theorem rI(i:Nat):(4294967296:Nat)^i=2^(32*i):=by rw[Nat.pow_mul]
theorem Lp{a:List Nat}(ha:Ws a){k:Nat}(hk:k/32<a.length):ai a (k/32)/2^(k%32)%2=val a/2^k%2:=by
 have h1:val a/2^k=(val a/4294967296^(k/32))/2^(k%32):=by
  rw[rI,Nat.div_div_eq_div_mul,<- pow_add];congr 2;omega
 rw[h1,xz ha _ oz,uc];generalize val (a.drop (k/32+1))=R
 have h2:4294967296*R=2^(k%32)*(2*(2^(31-k%32)*R)):=by
  have:(4294967296:Nat)=2^(k%32)*(2*2^(31-k%32)):=by
   rw[<- Nat.pow_succ',<- pow_add,show k%32+(31-k%32).succ=32 by omega]
  conv=>lhs;rw[this]
  grind
 rw[h2,Nat.add_mul_div_left _ _ (Nat.pow_pos oz),Nat.add_mul_mod_self_left]
theorem M4{w c:Nat}(hc:c<=1):w*2^1%4294967296 ||| c=w*2^1%4294967296+c:=by
 have h:w*2^1%4294967296=(w%2147483648)*2^1:=by omega
 rw[h];exact ua oz
theorem Q7{o c P rt w bit:Nat}(hw:w<4294967296)(h:o+c*P=2*rt+bit) :
  (o+P*(w*2^1%4294967296+c))+(w/2^31)*(P*4294967296)=2*(rt+P*w)+bit:=by
 have h0:w*2^1%4294967296+(w/2^31)*4294967296=2*w:=by omega
 generalize w*2^1%4294967296=r at *;generalize w/2^31=q at *;grind
theorem Pj{q:List Nat}(hq:Ws q){k Y:Nat}(hk:k/32<q.length)(h:val q=2^(k+1)*Y) :
  ai q (k/32) ||| 2^(k%32)=ai q (k/32)+2^(k%32)/\ai q (k/32)+2^(k%32)<4294967296:=by
 have h1:=xz hq (k/32) oz;rw[uc,h,rI,show k+1=32*(k/32)+(k%32+1) by omega,pow_add,Nat.mul_assoc,Nat.mul_div_cancel_left _ (Nat.pow_pos oz)]at h1;have hw:=bU hq (k/32);generalize ai q (k/32)=w at *;generalize val (q.drop (k/32+1))=R at *
 have hB:(4294967296:Nat)=2^(k%32+1)*2^(31-k%32):=by
  rw[<- pow_add,show k%32+1+(31-k%32)=32 by omega]
 have h2:w%2^(k%32+1)=0:=by
  have h3:(w+4294967296*R)%2^(k%32+1)=0:=by rw[<- h1];exact Nat.mul_mod_right _ _
  rw[hB,Nat.mul_assoc,Nat.add_mul_mod_self_left]at h3;exact h3
 have h4:w=2^(k%32+1)*(w/2^(k%32+1)):=by
  have:=Nat.div_add_mod w (2^(k%32+1));omega
 have h5:2^(k%32)<2^(k%32+1):=by rw[Nat.pow_succ];have:=Nat.pow_pos (n:=k%32) (show 0<2 by omega);omega
 constructor
 ·rw[h4];exact(Nat.two_pow_add_eq_or_of_lt h5 _).symm
 ·have h6:w/2^(k%32+1)<2^(31-k%32):=by
   rw[Nat.div_lt_iff_lt_mul (Nat.pow_pos oz),Nat.mul_comm,<- hB];exact hw
  have h7:=mul_le_mul_left (2^(k%32+1)) (show w/2^(k%32+1)+1<=2^(31-k%32)from h6);rw[<- hB,Nat.mul_add,<- h4]at h7;omega
theorem PR{q:List Nat}(hq:Ws q){k Y:Nat}(hk:k/32<q.length)(h:val q=2^(k+1)*Y) :
  val (q.set (k/32) (ai q (k/32)+2^(k%32)))=2^k*(2*Y+1):=by
 have h1:=xU (x:=ai q (k/32)+2^(k%32)) hk;rw[Nat.mul_add]at h1;have h2:4294967296^(k/32)*2^(k%32)=2^k:=by rw[rI,<- pow_add];congr 1;omega
 rw[h2,h,Nat.pow_succ]at h1;grind
theorem JN{V Bv k:Nat}(hB:0<Bv) :
  (Bv<=2*(V/2^(k+1)%Bv)+V/2^k%2->V/2^k%Bv=2*(V/2^(k+1)%Bv)+V/2^k%2-Bv/\V/2^k/Bv=2*(V/2^(k+1)/Bv)+1) /\
  (2*(V/2^(k+1)%Bv)+V/2^k%2<Bv->V/2^k%Bv=2*(V/2^(k+1)%Bv)+V/2^k%2/\V/2^k/Bv=2*(V/2^(k+1)/Bv)):=by
 have h1:V/2^(k+1)=V/2^k/2:=by rw[Nat.pow_succ,Nat.div_div_eq_div_mul]
 rw[h1];generalize V/2^k=X;have h2:=Nat.div_add_mod X 2;have h3:=Nat.div_add_mod (X/2) Bv;have h4:=Nat.mod_lt (X/2) hB;have h5:=Nat.mod_lt X (show 0<2 by omega);generalize X/2%Bv=r at *;generalize X/2/Bv=q at *;generalize X%2=b at *;generalize X/2=Y at *;constructor
 ·intro h;have:=vj (a:=X) (w:=Bv) (q:=2*q+1) (r:=2*r+b-Bv) (by rw[Nat.mul_add,Nat.mul_one,show Bv*(2*q)=2*(Bv*q) by grind];omega) oz;exact⟨this.2,this.1⟩
 ·intro h;have:=vj (a:=X) (w:=Bv) (q:=2*q) (r:=2*r+b) (by rw[show Bv*(2*q)=2*(Bv*q) by grind];omega) oz;exact⟨this.2,this.1⟩
theorem JA{A l:List Nat}(h:l.length=A.length):wr A 0 l=l:=by
 unfold wr;rw[drop_eq_nil_of_le oz];simp
theorem Ed{V:Nat}:V/2^a7 V=0:=Nat.div_eq_of_lt wV
theorem B6{a:List Nat}(ha:Ws a){k:Nat}(h:k<a7 (val a)):k/32<a.length:=by
 rcases lt_or_ge (k/32) a.length with h1 |h1
 ·exact h1
 ·exfalso;have h2:=b8 a ha;rw [rI] at h2;have h3:val a ≠ 0:=by intro h0; rw [h0] at h; simp [a7] at h
  have h4:=vI h3;have h5:2^(32*a.length)<=2^(a7 (val a)-1):=o4 oz;omega
theorem U7(a b:List Nat)(ha:Ws a)(hb:Ws b)(na:Nz a)(hb0:val b≠0)(la:a.length<aC)(lb:b.length<aC) :
  FP 361 [ws a,ws b] (.tup [ws (aD (val a/val b)),ws (aD (val a%val b))]):=by
 have la':=la;have lb':=lb;unfold aC at la lb;obtain⟨V,hV⟩:∃V,V=val a:=⟨_,rfl⟩
 obtain⟨Bv,hBv⟩:∃Bv,Bv=val b:=⟨_,rfl⟩
 have hBp:0<Bv:=by omega
 have hBl:2*Bv<=4294967296^(b.length+1):=by have:=b8 b hb;rw[Nat.pow_succ];omega
 have hbl:a7 V<=32*a.length:=by
  rcases Nat.eq_zero_or_pos (a7 V)with h |h
  ·omega
  ·have := B6 ha (k := a7 V-1) (by rw[<- hV];omega);omega
 rw[<- hV,<- hBv];refine af func361 ?_;refine gl ?_;refine gs (fD (.tmp rfl) T43 rfl T349 rfl rfl oz (by dsimp only;omega) rfl) ?_;refine gl ?_;refine ga (jt (y:=1) (by unfold aY;omega) (by unfold aY;omega)) ?_;refine gs (fD (.tmp rfl) T43 rfl T349 rfl rfl oz (by dsimp only;omega) rfl) ?_;refine gc (hV▸O8 a ha na oz) ?_;refine ga (dq oz) ?_;refine ip [0,1] [] (fun(q r:List Nat)(i:Nat)=>[(6,some (.ms 13 1 0 a.length)),(7,some (.ms 17 1 0 (b.length+1))),(8,some (i64 ((i:Int)-1)))]) (fun q r _=>[(13,some (.row 1 (q.map u32))),(17,some (.row 1 (r.map u32)))]) (fun q r i=>q.length=a.length/\r.length=b.length+1/\Ws q/\Ws r/\i<=a7 V/\val r=V/2^i%Bv/\val q=2^i*(V/2^i/Bv)) (fun _ _ i=>i) (List.replicate a.length 0) (List.replicate (b.length+1) 0) (a7 V) ⟨by simp,by simp,kV _,kV _,le_refl _,by rw[vD,Ed,Nat.zero_mod],by rw[vD,Ed,Nat.zero_div,Nat.mul_zero]⟩ ?_ (h2:=(.cons rfl (BlkSub.of (by rw[map_replicate];rfl)) (.cons rfl (BlkSub.of (by rw[map_replicate];rfl)) .nil)))
 rintro q r i ⟨hql,hrl,wq,wr',hi,hr,hq⟩ K1 J1;refine gC (fun t22=>?_) (fun t22=>?_) (st2:=(15,0))
 ·have hi0 : 1 <= i := by have := t22; simp [aa] at this; omega
  obtain⟨k,rfl⟩:∃k,i=k+1:=⟨i-1,by omega⟩
  rw[show((k+1:Nat):Int)-1=(k:Int) by omega];have hka:=B6 ha (k:=k) (by rw[<- hV];omega);have hbit:=Lp ha hka;have hwB:=bU ha (k/32);rw[<- hV]at hbit;obtain⟨bit,hbt⟩:∃bit,bit=V/2^k%2:=⟨_,rfl⟩
  have hb1:bit<=1:=by omega
  have hrlt:=Nat.mod_lt (V/2^(k+1)) hBp;have hdw:ai a (k/32)/2^(k%32)<=ai a (k/32):=Nat.div_le_self _ _;refine gs (dS (.tmp rfl) (.const _) oz (Cq oz) rfl) ?_;refine gi (gd (n:=k/32) oz (by first |omega |(simp;omega))) ?_;refine gs (vp (.tmp rfl) (.const _) oz CW rfl) ?_;refine gs (eE (.tmp rfl) (.tmp rfl) oz (pg _ (k%32) oz) rfl) ?_;refine gs (jn (.tmp rfl) (.const _) rfl ((CQ (y:=1) oz oz).trans (show _=(bit:Int) by rw[Nat.and_one_is_mod,hbit,hbt])) rfl) ?_;refine ip [0,1,8,35] [13] (fun(o:List Nat)(c j:Nat)=>[(6,some (.ms 13 1 0 a.length)),(7,some (.ms 17 1 0 (b.length+1))),(9,some (u32 c)),(36,some (i64 j))]) (fun o _ _=>[(17,some (.row 1 (o.map u32)))]) (fun o c j=>o.length=b.length+1/\Ws o/\j<=b.length+1/\c<=1/\o.drop j=r.drop j/\val (o.take j)+c*4294967296^j=2*val (r.take j)+bit) (fun _ _ j=>b.length+1-j) r bit 0 ⟨hrl,wr',by omega,hb1,rfl,by simp[val]⟩ ?_
  rintro o c j ⟨hol,wo,hj,hc,hd,hv⟩ K2 J2;refine gC (fun t37=>?_) (fun t37=>?_)
  ·have hjn : j < b.length + 1 := by have := t37; simp [aa] at this; omega
   have e1:ai o j=ai r j:=pN hd;have h1:=bU wr' j;have h3:=Q7 (w:=ai r j) h1 hv;refine gs (bP (n:=j) (.tmp rfl) (.tmp rfl) T43 rfl T349 rfl oz (by first |omega |(simp;omega)) rfl) ?_;refine gs (dR (.tmp rfl) rfl (by rw[ch (show j<o.length by omega),e1]) T349 rfl rfl rfl) ?_;refine gs (fj (.tmp rfl) (.const _) oz (De (n:=1) oz) rfl) ?_;refine gs (jn (.tmp rfl) (.tmp rfl) rfl ((x7 oz oz).trans (by rw[M4 hc])) rfl) ?_;refine gs (bP (n:=j) (.tmp rfl) (.tmp rfl) T43 rfl T349 rfl oz (by first |omega |(simp;omega)) rfl) ?_;refine gs (dR (.tmp rfl) rfl (by rw[ch (show j<o.length by omega),e1]) T349 rfl rfl rfl) ?_;refine gs (eE (.tmp rfl) (.const _) oz (pg _ 31 oz) rfl) ?_;refine gs (bP (n:=j) (.tmp rfl) (.tmp rfl) T43 rfl T349 rfl oz (by first |omega |(simp;omega)) rfl) ?_;refine gs (cO (.tmp rfl) rfl (ch (i:=j) oz) rfl (.tmp rfl) rfl rfl T349 rfl rfl) ?_;refine gD ?_;refine ga (cV oz) ?_;exact fS J2 (o.set j (ai r j*2^1%4294967296+c)) (ai r j/2^31) (j+1) ⟨by simp[hol],fP wo oz,by omega,by omega,ue hd,by rw[kO oz,db];rw[show 4294967296^(j+1)=4294967296^j*4294967296 from Nat.pow_succ _ _];exact h3⟩ (hw:=Wk.of aR (.cons rfl (BlkSub.of (by rw[map_set];rfl)) (.k .nil)))
  have hjn:j=b.length+1:=by have:b.length+1<=j:=(by have:=t37;simp[aa]at this;omega);omega
  subst hjn;rw[eH (l:=r) oz,eH (l:=o) oz,hr]at hv
  have hc0:c=0:=by
   cases c with
   |zero=>rfl
   |succ c=>rw[Nat.succ_mul]at hv;omega
  subst hc0;rw[Nat.zero_mul,Nat.add_zero]at hv;have hot:o.take (b.length+1)=o:=take_of_length_le oz;obtain⟨d1,d2⟩:=JN (V:=V) (k:=k) hBp;rw[<- hbt]at d1 d2;have hcmp:=RL 17 o b (b.length+1) wo hb oz;rw[hot,<- hBv,hv]at hcmp;have hqk:k/32<q.length:=by omega
  obtain⟨w1,w2⟩:=Pj wq hqk hq;have w3:=PR wq hqk hq;refine gt (aJ hcmp (bA rfl rfl) aM rfl rfl) ?_;refine gC (fun t58=>?_) (fun t58=>?_)
  ·have hge:Bv<=2*(V/2^(k+1)%Bv)+bit:=by
    rcases lt_or_ge (2*(V/2^(k+1)%Bv)+bit) Bv with h |h
    ·rw[VQ h]at t58;cases t58
    ·exact h
   obtain⟨d3,d4⟩:=d1 hge;have htk:=Ey o b (b.length+1) wo hb oz (by unfold aC;omega) (by rw[hot,<- hBv,hv];exact hge);rw[hot,<- hBv,hv,<- d3,JA (by rw[eX,hol])]at htk;have hx2:V/2^k%Bv<4294967296^(b.length+1):=by have:=Nat.mod_lt (V/2^k) hBp;omega
   refine gt (aJ (Con.rk 17 rfl rfl htk) (bA rfl rfl) aM rfl rfl) ?_;refine gs (dS (.tmp rfl) (.const _) oz (Cq oz) rfl) ?_;refine gs (bP (n:=k/32) (.tmp rfl) (.tmp rfl) T43 rfl T349 rfl oz oz rfl) ?_;refine gs (dR (.tmp rfl) rfl (ch (i:=k/32) hqk) T349 rfl rfl rfl) ?_;refine gs (vp (.tmp rfl) (.const _) oz CW rfl) ?_;refine gs (fj (.const _) (.tmp rfl) oz ((De (x:=1) (n:=k%32) oz).trans (show _=((2^(k%32):Nat):Int) by rw[Nat.one_mul,Nat.mod_eq_of_lt (lt_of_le_of_lt (Nat.le_add_left _ _) w2)])) rfl) ?_;refine gs (jn (.tmp rfl) (.tmp rfl) rfl ((x7 (bU wq _) (lt_of_le_of_lt (Nat.le_add_left _ _) w2)).trans (by rw[w1])) rfl) ?_;refine gs (bP (n:=k/32) (.tmp rfl) (.tmp rfl) T43 rfl T349 rfl oz oz rfl) ?_;refine gs (cO (.tmp rfl) rfl (ch (i:=k/32) hqk) rfl (.tmp rfl) rfl rfl T349 rfl rfl) ?_;refine gD ?_;refine ga (dq oz) ?_;exact fS J1 (q.set (k/32) (ai q (k/32)+2^(k%32))) (bg (b.length+1) (V/2^k%Bv)) k ⟨by simp[hql],eX _ _,fP wq w2,jN _ _,by omega,lA _ _ hx2,by rw[w3,d4]⟩ (hw:=Wk.of aR (.cons rfl (BlkSub.of (by first |rfl |(rw[map_set];rfl))) (.k .nil)))
  have hge:2*(V/2^(k+1)%Bv)+bit<Bv:=by
   rcases lt_or_ge (2*(V/2^(k+1)%Bv)+bit) Bv with h |h
   ·exact h
   ·rw[VP oz]at t58;split at t58 <;> cases t58
  obtain⟨d3,d4⟩:=d2 hge;refine ga (dq oz) ?_;exact fS J1 q o k ⟨hql,hol,wq,wo,by omega,by rw[hv,d3],by rw[hq,d4,Nat.pow_succ,Nat.mul_assoc]⟩ (hw:=Wk.of aR (.cons rfl (BlkSub.of (by first |rfl |(rw[map_set];rfl))) (.k .nil)))
 have hi0:i=0:=by have:=t22;simp[aa]at this;omega
 subst hi0;refine gW ((Wk.freeze (k:=13) rfl).trans<|(Wk.freeze (k:=17) rfl).trans<|Wk.of (sl:=[(6,some (ws q)),(7,some (ws r))]) (hp:=[]) (.cons rfl (Sub.of (by rw[show AV.fz 13 1 (q.map u32) (.ms 13 1 0 a.length)=ws q from bD (by simp[hql])];rfl)) (.cons rfl (Sub.of (bD (by simp[hrl]))) .nil)) .nil) ?_;refine gc (pv q wq oz) ?_;refine gc (pv r wr' (by unfold aC;omega)) ?_;refine bf ?_;rw[hr,hq];simp[]
def ik(L:Nat)(A:List Nat)(n:Nat):Prop:=Ws A/\n<=A.length/\A.length<=L/\n=(aD (val (A.take n))).length
theorem OH(v:Nat):aD v=bg (aD v).length v:=by
 have h:=tj (aD v) (cZ _)
 rwa [ci]at h
theorem js{L:Nat}{A:List Nat}{n v:Nat}(h:ik L A n)(hv:v<=val (A.take n)) :
  ik L (wr A 0 (bg n v)) (aD v).length/\val ((wr A 0 (bg n v)).take (aD v).length)=v/\val ((wr A 0 (bg n v)).take n)=v:=by
 obtain⟨hw,hn,hl,hN⟩:=h;have hlt:=oP hw n;have hvl:v<4294967296^n:=by omega
 have hle:(aD v).length<=n:=eV hvl
 have ht:(wr A 0 (bg n v)).take n=bg n v:=by
  unfold wr;rw[List.take_zero,nil_append,List.take_append_of_le_length (by rw[eX];omega),take_of_length_le (by rw[eX];omega)]
 have ht2:(wr A 0 (bg n v)).take (aD v).length=aD v:=by
  have h1:((wr A 0 (bg n v)).take n).take (aD v).length=(wr A 0 (bg n v)).take (aD v).length:=by rw[List.take_take,Nat.min_eq_left hle]
  rw[<- h1,ht,BF _ _ _ hle,<- OH]
 have hlen:(wr A 0 (bg n v)).length=A.length:=lP (by rw[eX];omega);refine⟨⟨q5 hw (jN _ _),by omega,by omega,by rw[ht2,ci]⟩,by rw[ht2,ci],by rw[ht,lA _ _ hvl]⟩
theorem gQ{L:Nat}{A:List Nat}{n:Nat}(h:ik L A n)(hx:0<val (A.take n)):0<n/\val (A.take n)%2=ai A 0%2:=by
 have hn:0<n:=by
  rcases Nat.eq_zero_or_pos n with h0 |h0
  ·subst h0;simp[val]at hx
  ·exact h0
 refine⟨hn,?_⟩;have:=uc (A.take n) 0;rw[drop_zero,oX hn]at this;omega
theorem Td{L:Nat}{A:List Nat}{n:Nat}(h:ik L A n):A.take n=aD (val (A.take n)):=by
 obtain⟨hw,hn,hl,hN⟩:=h;have h1:=GZ (fR hw n);rw[<- hN,List.take_take,Nat.min_self]at h1;exact h1
theorem Ce{L:Nat}{A:List Nat}{n:Nat}(h:ik L A n):n=0↔val (A.take n)=0:=by
 constructor
 ·intro h0;subst h0;rfl
 ·intro h0;have h1:=h.2.2.2;rw[h0]at h1;exact h1
theorem Rd{x y:Nat}(hx:x%2=0)(hy:y%2=0):Nat.gcd x y=2*Nat.gcd (x/2) (y/2):=by
 rw[<- Nat.gcd_mul_left,Nat.mul_div_cancel' (Nat.dvd_of_mod_eq_zero hx),Nat.mul_div_cancel' (Nat.dvd_of_mod_eq_zero hy)]
theorem Jb{x y:Nat}(hx:x%2=0)(hy:y%2=1):Nat.gcd (x/2) y=Nat.gcd x y:=by
 have h1:x=2*(x/2):=by omega
 have h2:Nat.Coprime 2 y:=by
  rw[Nat.Coprime,Nat.gcd_rec,hy];rfl
 conv=>rhs;rw[h1]
 exact(Nat.Coprime.gcd_mul_left_cancel _ h2).symm
theorem Hi{x y:Nat}(h:y<=x):Nat.gcd (x-y) y=Nat.gcd x y:=Nat.gcd_sub_self_left h
theorem Em{t L g V:Nat}(hg:0<g)(h:2^t*g<=V)(hV:V<4294967296^L):t<32*L:=by
 rw[rI]at hV;have h1:=mul_le_mul_left (2^t) (show 1<=g from hg);rcases lt_or_ge t (32*L)with h2 |h2
 ·exact h2
 ·have:=o4 h2;omega
theorem CF(A D:List Nat)(n p:Nat)(hA:Ws A)(hD:Ws D)(hn:n<=A.length)(hp:p<=D.length)(la:A.length<=aC)(hle:val (D.take p)<=val (A.take n)) :
  Con prog 391 [.ms 901 1 0 n,.ms 902 1 0 p] [(902,some (.row 1 (D.map u32))),(901,some (.row 1 (A.map u32)))] (.tup [])
   [(902,some (.row 1 (D.map u32))),(901,some (.row 1 ((wr A 0 (bg n (val (A.take n)-val (D.take p)))).map u32)))]:=by
 have h1:=Con.rk 901 rfl rfl (Ey A (D.take p) n hA (fR hD p) hn la hle);refine Con.borrow (args:=[.ms 901 1 0 n,ws (D.take p)]) 902 1 (D.map u32) rfl rfl rfl ?_ rfl ?_ h1
 ·intro j x' hj
  match j,hj with
  |0,hj=>cases hj;exact .inl rfl
  |1,hj=>cases hj;exact .inr ⟨0,p,rfl,by simpa using hp,by rw[qG];rfl⟩
 ·intro k' x h;obtain⟨_,h⟩:=fq h;cases h;exact HB _
theorem uL{A:List Nat}(hA:Ws A){i:Nat}:oQ .and .u32 (ai A i:Int) 1=((ai A i%2:Nat):Int) :=
 (CQ (y:=1) (bU hA i) oz).trans (by rw[Nat.and_one_is_mod])
theorem Sf(a b:List Nat)(ha:Ws a)(hb:Ws b)(na:Nz a)(nb:Nz b)(la:a.length+b.length<aC):FP 360 [ws a,ws b] (ws (aD (Nat.gcd (val a) (val b)))):=by
 have la':=la;unfold aC at la;have ea:=re ha na;have eb:=re hb nb;obtain⟨L,hL⟩:∃L,L=a.length+b.length:=⟨_,rfl⟩
 obtain⟨G,hG⟩:∃G,G=Nat.gcd (val a) (val b):=⟨_,rfl⟩
 rw[<- hG];refine af func360 ?_;refine gt (aJ (xS 901 rfl a ha (by unfold aC;omega)) (cG rfl) aM rfl rfl) ?_;refine gt (aJ (xS 902 rfl b hb (by unfold aC;omega)) (cG rfl) aM rfl rfl) ?_ (2,0);refine gW (Wk.of (sl:=[(0,some (.ms 901 1 0 a.length)),(1,some (.ms 902 1 0 b.length))]) (hp:=[(901,some (.row 1 (a.map u32))),(902,some (.row 1 (b.map u32)))]) (.cons rfl (Sub.of (by rw[ea])) (.cons rfl (Sub.of (by rw[eb])) .nil)) (.k (.k .nil))) ?_;refine gC (fun t12=>?_) (fun t12=>?_) (st1:=(3,0))
 ·have h0 : a=[] := List.length_eq_zero_iff.1 (by simpa[aa]using t12);refine gW ((Wk.freeze (k:=902) rfl).trans<|Wk.of (sl:=[(1,some (ws b))]) (hp:=[]) (.cons rfl (Sub.of (bD (by simp))) .nil) .nil) ?_;refine ae ?_;rw[hG,h0];simp[val,eb]
 have h0:a≠[]:=fun h=>by rw[h]at t12;simp[aa]at t12
 refine gC (fun t16=>?_) (fun t16=>?_) (st1:=(5,0))
 ·have h1 : b=[] := List.length_eq_zero_iff.1 (by simpa[aa]using t16);refine gW ((Wk.freeze (k:=901) rfl).trans<|Wk.of (sl:=[(0,some (ws a))]) (hp:=[]) (.cons rfl (Sub.of (bD (by simp))) .nil) .nil) ?_;refine ae ?_;rw[hG,h1];simp[val,ea]
 have h1:b≠[]:=fun h=>by rw[h]at t16;simp[aa]at t16
 have va:=nQ na h0;have vb:=nQ nb h1;have hGp:0<G:=by rw[hG];exact Nat.gcd_pos_of_pos_left _ va
 have hGa:G<=val a:=by rw[hG];exact Nat.gcd_le_left _ va
 have vla:=b8 a ha;refine Gb [] [] (fun(A D:List Nat)(n p t:Nat)=>[(0,some (.ms 901 1 0 n)),(1,some (.ms 902 1 0 p)),(5,some (i64 t))]) (fun A D _ _ _=>[(901,some (.row 1 (A.map u32))),(902,some (.row 1 (D.map u32)))]) (fun A D n p t=>ik L A n/\ik L D p/\0<val (A.take n)/\0<val (D.take p)/\G=2^t*Nat.gcd (val (A.take n)) (val (D.take p))) (fun A _ n _ _=>val (A.take n)) a b a.length b.length 0 ⟨⟨ha,le_refl _,by omega,by rw[take_length,ea]⟩,⟨hb,le_refl _,by omega,by rw[take_length,eb]⟩,by rw[take_length];exact va,by rw[take_length];exact vb,by rw[take_length,take_length,hG];simp⟩ ?_
 rintro A D n p t ⟨gA,gD,pA,pD,hg⟩ K1 J1;refine gs (bP (n:=0) (.tmp rfl) (.const _) T43 rfl T349 rfl oz (by have:=(gQ gA pA).1;omega) rfl) ?_;refine gs (dR (.tmp rfl) rfl (ch (i:=0) (by have:=(gQ gA pA).1;have:=gA.2.1;omega)) T349 rfl rfl rfl) ?_;refine gs (jn (.tmp rfl) (.const _) rfl (uL gA.1) rfl) ?_;refine gs (ez rfl rfl rfl (fun h=>bP (n:=0) (.opt rfl (o1 h)) (.const _) T43 rfl T349 rfl oz (by have:=(gQ gD pD).1;omega) rfl)) ?_;refine gs (ez rfl rfl rfl (fun h=>dR (.opt rfl (o1 h)) rfl (ch (i:=0) (by have:=(gQ gD pD).1;have:=gD.2.1;omega)) T349 rfl rfl rfl)) ?_;refine gs (ez rfl rfl rfl (fun h=>jn (.opt rfl (o1 h)) (.const _) rfl (uL gD.1) rfl)) ?_;refine gC (fun t29=>?_) (fun t29=>?_)
 ·have hev:ai A 0%2=0/\ai D 0%2=0:=by
   have:=t29;simp[aa]at this;omega
  have xA:val (A.take n)%2=0:=by rw[(gQ gA pA).2];exact hev.1
  have xD:val (D.take p)%2=0:=by rw[(gQ gD pD).2];exact hev.2
  obtain⟨k1,k2,k3⟩:=js gA (v:=val (A.take n)/2) oz;obtain⟨m1,m2,m3⟩:=js gD (v:=val (D.take p)/2) oz;have ht:t<32*a.length:=Em (Nat.gcd_pos_of_pos_left _ pA) (by rw[<- hg];exact hGa) vla;refine gt (aJ (Con.rekeyR 901 rfl (ve A n gA.1 gA.2.1 (by have:=gA.2.2.1;unfold aC;omega))) (cG rfl) aM rfl rfl) ?_;refine gt (aJ (Con.rekeyR 902 rfl (ve D p gD.1 gD.2.1 (by have:=gD.2.2.1;unfold aC;omega))) (cG rfl) aM rfl rfl) ?_;refine ga (show _=((t+1:Nat):Int) by rw[cV oz];omega) ?_;exact DH J1 (wr A 0 (bg n (val (A.take n)/2))) (wr D 0 (bg p (val (D.take p)/2))) ((aD (val (A.take n)/2)).length) ((aD (val (D.take p)/2)).length) (t+1) ⟨k1,m1,by rw[k2];omega,by rw[m2];omega,by rw[k2,m2,hg,Rd xA xD,Nat.pow_succ];grind⟩ (by rw[k2];omega)
 have hod:val (A.take n)%2=1\/val (D.take p)%2=1:=by
  rw[(gQ gA pA).2,(gQ gD pD).2];have:=t29;simp[aa]at this;omega
 refine OA [5] [] (fun(A1 D1:List Nat)(n1 p1:Nat)=>[(0,some (.ms 901 1 0 n1)),(1,some (.ms 902 1 0 p1))]) (fun A1 D1 _ _=>[(901,some (.row 1 (A1.map u32))),(902,some (.row 1 (D1.map u32)))]) (fun A1 D1 n1 p1=>ik L A1 n1/\ik L D1 p1/\0<val (D1.take p1)/\(val (A1.take n1)%2=1\/val (D1.take p1)%2=1)/\G=2^t*Nat.gcd (val (A1.take n1)) (val (D1.take p1))) (fun A1 D1 n1 p1=>val (A1.take n1)+val (D1.take p1)) A D n p ⟨gA,gD,pD,hod,hg⟩ ?_
 rintro A1 D1 n1 p1 ⟨gA1,gD1,pD1,hod1,hg1⟩ K2 J2;refine gC (fun t38=>?_) (fun t38=>?_) (st2:=(19,0))
 ·have pA1:0<val (A1.take n1):=by
   have h3:n1≠0:=by have:=t38;simp[aa]at this;omega
   exact Nat.pos_of_ne_zero (fun h=>h3 ((Ce gA1).2 h))
  refine fZ [5] [902] (fun(A2:List Nat)(n2:Nat)=>[(0,some (.ms 901 1 0 n2)),(1,some (.ms 902 1 0 p1))]) (fun A2 _=>[(901,some (.row 1 (A2.map u32)))]) (fun A2 n2=>ik L A2 n2/\0<val (A2.take n2)/\val (A2.take n2)<=val (A1.take n1)/\(val (A2.take n2)%2=1\/val (D1.take p1)%2=1)/\Nat.gcd (val (A2.take n2)) (val (D1.take p1))=Nat.gcd (val (A1.take n1)) (val (D1.take p1))) (fun A2 n2=>val (A2.take n2)) A1 n1 ⟨gA1,pA1,le_refl _,hod1,rfl⟩ ?_
  rintro A2 n2 ⟨gA2,pA2,lA2,hod2,hg2⟩ K3 J3;refine gs (bP (n:=0) (.tmp rfl) (.const _) T43 rfl T349 rfl oz (by have:=(gQ gA2 pA2).1;omega) rfl) ?_;refine gs (dR (.tmp rfl) rfl (ch (i:=0) (by have:=(gQ gA2 pA2).1;have:=gA2.2.1;omega)) T349 rfl rfl rfl) ?_;refine gs (jn (.tmp rfl) (.const _) rfl (uL gA2.1) rfl) ?_;refine gC (fun t43=>?_) (fun t43=>?_)
  ·have xA2:val (A2.take n2)%2=0:=by
    rw[(gQ gA2 pA2).2];have:=t43;simp[aa]at this;omega
   obtain⟨k1,k2,k3⟩:=js gA2 (v:=val (A2.take n2)/2) oz;refine gt (aJ (Con.rekeyR 901 rfl (ve A2 n2 gA2.1 gA2.2.1 (by have:=gA2.2.2.1;unfold aC;omega))) (cG rfl) aM rfl rfl) ?_;exact fB J3 (wr A2 0 (bg n2 (val (A2.take n2)/2))) ((aD (val (A2.take n2)/2)).length) ⟨k1,by rw[k2];omega,by rw[k2];omega,.inr oz,by rw[k2,Jb xA2 oz,hg2]⟩ (by rw[k2];omega)
  have xA2:val (A2.take n2)%2=1:=by
   rw[(gQ gA2 pA2).2];have:=t43;simp[aa]at this;omega
  refine fZ [5] [901] (fun(D2:List Nat)(p2:Nat)=>[(0,some (.ms 901 1 0 n2)),(1,some (.ms 902 1 0 p2))]) (fun D2 _=>[(902,some (.row 1 (D2.map u32)))]) (fun D2 p2=>ik L D2 p2/\0<val (D2.take p2)/\val (D2.take p2)<=val (D1.take p1)/\Nat.gcd (val (A2.take n2)) (val (D2.take p2))=Nat.gcd (val (A2.take n2)) (val (D1.take p1))) (fun D2 p2=>val (D2.take p2)) D1 p1 ⟨gD1,pD1,le_refl _,rfl⟩ ?_;rintro D2 p2 ⟨gD2,pD2,lD2,hg3⟩ K4 J4;refine gs (bP (n:=0) (.tmp rfl) (.const _) T43 rfl T349 rfl oz (by have:=(gQ gD2 pD2).1;omega) rfl) ?_;refine gs (dR (.tmp rfl) rfl (ch (i:=0) (by have:=(gQ gD2 pD2).1;have:=gD2.2.1;omega)) T349 rfl rfl rfl) ?_;refine gs (jn (.tmp rfl) (.const _) rfl (uL gD2.1) rfl) ?_;refine gC (fun t50=>?_) (fun t50=>?_)
  ·have xD2:val (D2.take p2)%2=0:=by
    rw[(gQ gD2 pD2).2];have:=t50;simp[aa]at this;omega
   obtain⟨k1,k2,k3⟩:=js gD2 (v:=val (D2.take p2)/2) oz;refine gt (aJ (Con.rekeyR 902 rfl (ve D2 p2 gD2.1 gD2.2.1 (by have:=gD2.2.2.1;unfold aC;omega))) (cG rfl) aM rfl rfl) ?_;exact fB J4 (wr D2 0 (bg p2 (val (D2.take p2)/2))) ((aD (val (D2.take p2)/2)).length) ⟨k1,by rw[k2];omega,by rw[k2];omega,by rw[k2,Nat.gcd_comm,Jb xD2 xA2,Nat.gcd_comm,hg3]⟩ (by rw[k2];omega)
  have xD2:val (D2.take p2)%2=1:=by
   rw[(gQ gD2 pD2).2];have:=t50;simp[aa]at this;omega
  refine gt (aJ (KL 901 902 oz A2 D2 n2 p2 gA2.1 gD2.1 gA2.2.1 gD2.2.1) (bA rfl rfl) aM rfl rfl) ?_;refine gC (fun t56=>?_) (fun t56=>?_) (st1:=(17,0)) (st2:=(77777,0))
  ·have hlt:val (A2.take n2)<val (D2.take p2):=by
    rcases lt_or_ge (val (A2.take n2)) (val (D2.take p2))with h |h
    ·exact h
    ·rw[VP oz]at t56;split at t56 <;> cases t56
   refine gW (Wk.o (sl:=[(0,some (.ms 902 1 0 p2)),(1,some (.ms 901 1 0 n2)),(5,some (i64 t))]) (hp:=[(901,some (.row 1 (A2.map u32))),(902,some (.row 1 (D2.map u32)))])) ?_ (17,0);refine gW (Wk.rk (k:=901) (d:=903) rfl rfl) ?_ (17,0);refine gW (Wk.rk (k:=902) (d:=901) rfl rfl) ?_ (17,0);refine gW (Wk.rk (k:=903) (d:=902) rfl rfl) ?_ (17,0);refine gW (Wk.of (sl:=[(0,some (.ms 901 1 0 p2)),(1,some (.ms 902 1 0 n2)),(5,some (i64 t))]) (hp:=[(901,some (.row 1 (D2.map u32))),(902,some (.row 1 (A2.map u32)))]) (.cons rfl (Sub.refl _) (.cons rfl (Sub.refl _) (.cons rfl (Sub.refl _) .nil))) (.k (.k .nil))) ?_ (17,0);obtain⟨A3,D3,n3,p3,gA3,gD3,xA3,xD3,hle3,hg4,hs3,e1,e2,e3,e4⟩:∃A3 D3 n3 p3,ik L A3 n3/\ik L D3 p3/\val (A3.take n3)%2=1/\val (D3.take p3)%2=1/\val (D3.take p3)<=val (A3.take n3)/\Nat.gcd (val (A3.take n3)) (val (D3.take p3))=Nat.gcd (val (A2.take n2)) (val (D2.take p2))/\val (A3.take n3)+val (D3.take p3)=val (A2.take n2)+val (D2.take p2)/\A3=D2/\n3=p2/\D3=A2/\p3=n2:=⟨D2,A2,p2,n2,gD2,gA2,xD2,xA2,by omega,Nat.gcd_comm _ _,Nat.add_comm _ _,rfl,rfl,rfl,rfl⟩
   rw[<- e1,<- e2,<- e3,<- e4];refine go ?_;refine gt (aJ (CF A3 D3 n3 p3 gA3.1 gD3.1 gA3.2.1 gD3.2.1 (by have:=gA3.2.2.1;unfold aC;omega) hle3) (bA rfl rfl) aM rfl rfl) ?_;refine gt (aJ (Con.rekeyR 901 rfl (xW (wr A3 0 (bg n3 (val (A3.take n3)-val (D3.take p3)))) n3 (q5 gA3.1 (jN _ _)) (by rw[lP (by rw[eX];have:=gA3.2.1;omega)];exact gA3.2.1) (by rw[lP (by rw[eX];have:=gA3.2.1;omega)];have:=gA3.2.2.1;unfold aC;omega))) (cG rfl) aM rfl rfl) ?_;exact GT J2 (wr A3 0 (bg n3 (val (A3.take n3)-val (D3.take p3)))) D3 ((aD (val (A3.take n3)-val (D3.take p3))).length) p3 ⟨(js gA3 oz).1,gD3,by omega,.inr xD3,by rw[(js gA3 (v:=val (A3.take n3)-val (D3.take p3)) oz).2.1,Hi hle3,hg4,hg3,hg2,hg1]⟩ (by rw[(js gA3 (v:=val (A3.take n3)-val (D3.take p3)) oz).2.1];omega) (hw:=Wk.of (.cons rfl (Sub.of (by rw[(js gA3 (v:=val (A3.take n3)-val (D3.take p3)) oz).2.2])) (.k (.k .nil))) (.k (.k .nil)))
  have hlt:val (D2.take p2)<=val (A2.take n2):=by
   rcases lt_or_ge (val (A2.take n2)) (val (D2.take p2))with h |h
   ·rw[VQ h]at t56;cases t56
   ·exact h
  refine gW (Wk.o (sl:=[(0,some (.ms 901 1 0 n2)),(1,some (.ms 902 1 0 p2)),(5,some (i64 t))]) (hp:=[(901,some (.row 1 (A2.map u32))),(902,some (.row 1 (D2.map u32)))])) ?_ (77777,0);obtain⟨A3,D3,n3,p3,gA3,gD3,xA3,xD3,hle3,hg4,hs3,e1,e2,e3,e4⟩:∃A3 D3 n3 p3,ik L A3 n3/\ik L D3 p3/\val (A3.take n3)%2=1/\val (D3.take p3)%2=1/\val (D3.take p3)<=val (A3.take n3)/\Nat.gcd (val (A3.take n3)) (val (D3.take p3))=Nat.gcd (val (A2.take n2)) (val (D2.take p2))/\val (A3.take n3)+val (D3.take p3)=val (A2.take n2)+val (D2.take p2)/\A3=A2/\n3=n2/\D3=D2/\p3=p2:=⟨A2,D2,n2,p2,gA2,gD2,xA2,xD2,hlt,rfl,rfl,rfl,rfl,rfl,rfl⟩
  rw[<- e1,<- e2,<- e3,<- e4];obtain⟨k1,k2,k3⟩:=js gA3 (v:=val (A3.take n3)-val (D3.take p3)) oz;refine go ?_;refine gt (aJ (CF A3 D3 n3 p3 gA3.1 gD3.1 gA3.2.1 gD3.2.1 (by have:=gA3.2.2.1;unfold aC;omega) hle3) (bA rfl rfl) aM rfl rfl) ?_;refine gt (aJ (Con.rekeyR 901 rfl (xW (wr A3 0 (bg n3 (val (A3.take n3)-val (D3.take p3)))) n3 (q5 gA3.1 (jN _ _)) (by rw[lP (by rw[eX];have:=gA3.2.1;omega)];exact gA3.2.1) (by rw[lP (by rw[eX];have:=gA3.2.1;omega)];have:=gA3.2.2.1;unfold aC;omega))) (cG rfl) aM rfl rfl) ?_;exact GT J2 (wr A3 0 (bg n3 (val (A3.take n3)-val (D3.take p3)))) D3 ((aD (val (A3.take n3)-val (D3.take p3))).length) p3 ⟨(js gA3 oz).1,gD3,by omega,.inr xD3,by rw[(js gA3 (v:=val (A3.take n3)-val (D3.take p3)) oz).2.1,Hi hle3,hg4,hg3,hg2,hg1]⟩ (by rw[(js gA3 (v:=val (A3.take n3)-val (D3.take p3)) oz).2.1];omega) (hw:=Wk.of (.cons rfl (Sub.of (by rw[(js gA3 (v:=val (A3.take n3)-val (D3.take p3)) oz).2.2])) (.k (.k .nil))) (.k (.k .nil)))
 have zA1:val (A1.take n1)=0:=by
  have h3:n1=0:=by have:=t38;simp[aa]at this;omega
  exact(Ce gA1).1 h3
 rw[zA1,Nat.gcd_zero_left]at hg1;refine gW ((Wk.freeze (k:=902) rfl).trans<|Wk.of (sl:=[(1,some (ws (aD (val (D1.take p1))))),(5,some (i64 t))]) (hp:=[]) (.cons rfl (Sub.of (by rw[we (by rw[length_map];have:=gD1.2.1;omega),qG,<- Td gD1])) (.k .nil)) .nil) ?_;refine aN [64] [] (fun(i:Nat)=>[(1,some (ws (aD (2^i*val (D1.take p1))))),(65,some (i64 i))]) (fun _=>[]) (fun i=>i<=t) (fun i=>t-i) 0 (zero_le _) ?_ (h1:=(.cons rfl (Sub.of (by rw[Nat.pow_zero,Nat.one_mul])) (.k .nil)));rintro i hit K5 J5;refine gC (fun t66=>?_) (fun t66=>?_)
 ·have hin : i < t := by simpa [aa] using t66
  have h3:2^i*val (D1.take p1)<=G:=by rw[hg1];exact mul_le_mul_right _ (o4 oz)
  have h4:(aD (2^i*val (D1.take p1))).length<=a.length:=eV oz;have ht:t<32*a.length:=Em pD1 (by rw[<- hg1];exact hGa) vla;refine gc (BK _ _ (cZ _) (cZ _) (by unfold aC;omega) (by unfold aC;omega)) ?_;refine ga (cV oz) ?_;exact aH J5 (i+1) hin (hw:=Wk.of (.cons rfl (Sub.of (by rw[ci,Nat.pow_succ];congr 2;grind)) (.k (.k .nil))) .nil)
 have hin:i=t:=by have:t<=i:=(by simpa[aa]using t66);omega
 subst hin;refine ae ?_;rw[hg1]
theorem Hl(a b:Wh)(ha:a.ok)(hb:b.ok)(la:a.mag.length+b.mag.length<aC):FP 280 [a.av,b.av] (zA (Int.gcd a.z b.z)):=by
 have h1:=Wh.m_le (w:=a);have h2:=Wh.m_le (w:=b);have h3:Int.gcd a.z b.z=Nat.gcd (val a.m) (val b.m):=by rw[Int.gcd,Wh.abs,Wh.abs]
 have h4:(aD (Nat.gcd (val a.m) (val b.m))).length<=a.m.length+b.m.length:=by
  rcases Nat.eq_zero_or_pos (val a.m)with h |h
  ·rw[h,Nat.gcd_zero_left,Wh.ofNat_m hb];omega
  ·exact le_trans (eV (lt_of_le_of_lt (Nat.gcd_le_left _ h) (b8 _ (Wh.ws ha)))) oz
 refine af func280 ?_;refine gc (ko a ha) ?_;refine gc (ko b hb) ?_;refine gc (Sf a.m b.m (Wh.ws ha) (Wh.ws hb) a.nz b.nz oz) ?_;refine gc (jK false _ (cZ _) oz) ?_;refine gD ?_;refine ae ?_;rw[ci,h3];rfl
theorem Ue(a b:Wh)(ha:a.ok)(hb:b.ok)(la:a.mag.length+1<aC)(lb:b.mag.length<aC)(h0:b.z≠0):FP 281 [a.av,b.av] (.tup [zA (a.z/b.z),zA (a.z%b.z),i64 0]):=by
 have hm1:=Wh.m_le (w:=a);have hm2:=Wh.m_le (w:=b);have hb1:val b.m≠0:=by have:=Wh.abs (w:=b);omega
 have hl1:(aD (val a.m/val b.m)).length<=a.m.length:=eV (lt_of_le_of_lt (Nat.div_le_self _ _) (b8 _ (Wh.ws ha)));have hmod:=Nat.mod_lt (val a.m) (show 0<val b.m by omega);have hl2:(aD (val a.m%val b.m)).length<=b.m.length:=eV (Nat.lt_trans hmod (b8 _ (Wh.ws hb)));have hl3:(aD (val a.m/val b.m+1)).length<=a.m.length+1:=eV (by have h7:=lt_of_le_of_lt (Nat.div_le_self (val a.m) (val b.m)) (b8 _ (Wh.ws ha));rw[Nat.pow_succ];generalize val a.m/val b.m=m at *;omega);have hl4:(aD (val b.m-val a.m%val b.m)).length<=b.m.length:=eV (by have:=b8 _ (Wh.ws hb);omega);have hv1:val [1]=1:=rfl;refine af func281 ?_;refine gc (AD b hb) ?_;refine gC (fun t11=>?_) (fun t11=>?_) (st1:=(2,0));exact absurd (Int.sign_eq_zero_iff_zero.1 (by simpa[aa]using t11)) h0;refine gc (ko a ha) ?_;refine gc (ko b hb) ?_;refine gc (U7 a.m b.m (Wh.ws ha) (Wh.ws hb) a.nz hb1 oz oz) ?_;refine gD ?_;refine gc (iP a ha) ?_;refine bS ?_;refine gC (fun t28=>?_) (fun t28=>?_)
 ·have h1:a.n = true /\ 0 < val a.m % val b.m:=uO.1 t28;obtain ⟨e1,e2⟩:=Hb hb1 h1.1 h1.2;refine gc (BK (aD (val a.m / val b.m)) [1] (cZ _) (tb oz) oz (by unfold aC; simp)) ?_;refine gc (ko b hb) ?_;refine gc (zD b.m (aD (val a.m % val b.m)) (Wh.ws hb) (cZ _) oz (by rw [ci]; omega)) ?_;refine gD ?_ (6,0);refine gW (Wk.of (sl:=[(2,some (.ptr 2 0)),(3,some (.ptr 3 0)),(4,some (.ptr 4 0)),(5,some (.ptr 5 0)),(7,some (ws (aD (val a.m / val b.m + 1)))),(8,some (ws (aD (val b.m - val a.m % val b.m))))]) (hp:=[(2,some (.box [bl a.neg,ws a.mag])),(3,some (.box [bl b.neg,ws b.mag])),(4,some (.box [.v (.bool false),nS])),(5,some (.box [.v (.bool false),nS]))]) (.k (.k (.k (.k (.cons rfl (Sub.of (by rw [ci,hv1])) (.cons rfl (Sub.of (by rw [ci])) .nil)))))) (.k (.k (.k (.k .nil))))) ?_
  refine gc (iP a ha) ?_;refine gc (iP b hb) ?_;refine gc (by apply jK _ _ (cZ _) oz) ?_;refine gc (by apply jK _ _ (cZ _) oz) ?_;refine gD ?_;refine gR ?_;exact rP (by rw[ci,ci,e1,show sgn false _=_ from e2];rfl)
 have h1:¬(a.n=true/\0<val a.m%val b.m):=fun h=>Bool.eq_false_iff.1 t28 (uO.2 h)
 obtain⟨e1,e2⟩:=CN hb1 h1;refine gc (iP a ha) ?_;refine gc (iP b hb) ?_;refine gc (by apply jK _ _ (cZ _) oz) ?_;refine gc (by apply jK _ _ (cZ _) oz) ?_;refine gD ?_;refine gR ?_;exact rP (by rw[ci,ci,e1,show sgn false _=_ from e2];rfl)
theorem rJ{x:Int}(hx:Zs x):FP 320 [zA x] (i64 x.sign):=by
 have h:=Ag (ofInt x) hx.ok;rw[dH]at h;exact h
theorem vt{x:Int}(hx:Zs x):FP 350 [zA x] (zA (-x)):=by
 have h:=JF (ofInt x) hx.ok (by have:=hx.len;unfold aC;omega);rw[dH]at h;exact h
theorem EU{x y:Int}(hx:Zs x)(hy:Zs y):FP 317 [zA x,zA y] (i64 (gq x y)):=by
 have h:=MG (ofInt x) (ofInt y) hx.ok hy.ok;rw[dH,dH]at h;exact h
theorem Nk{x y:Int}(hx:Zs x)(hy:Zs y):FP 331 [zA x,zA y] (zA (x+y)):=by
 have h:=M7 (ofInt x) (ofInt y) hx.ok hy.ok (by have:=hx.len;unfold aC;omega) (by have:=hy.len;unfold aC;omega);rw[dH,dH]at h;exact h
theorem l0{x y:Int}(hx:Zs x)(hy:Zs y):FP 332 [zA x,zA y] (zA (x*y)):=by
 have h:=Sb (ofInt x) (ofInt y) hx.ok hy.ok (by have:=hx.len;have:=hy.len;unfold aC;omega);rw[dH,dH]at h;exact h
theorem NM{x y:Int}(hx:Zs x)(hy:Zs y):FP 318 [zA x,zA y] (zA (Int.gcd x y)):=by
 have h:=GI (ofInt x) (ofInt y) hx.ok hy.ok (by have:=hx.len;unfold aC;omega) (by have:=hy.len;unfold aC;omega);rw[dH,dH]at h;exact h
theorem Jc{x y:Int}(hx:Zs x)(hy:Zs y)(h0:y≠0):FP 351 [zA x,zA y] (.tup [zA (x/y),zA (x%y),.v .nilIface]):=by
 have h:=O9 (ofInt x) (ofInt y) hx.ok hy.ok (by have:=hx.len;unfold aC;omega) (by have:=hy.len;unfold aC;omega) (by rw[dH];exact h0);rw[dH,dH]at h;exact h
theorem vE{x:Int}(hx:Zs x):FP 195 [zA x] (i64 x.sign):=by
 have h:=AD (ofInt x) hx.ok;rw[dH]at h;exact h
theorem xI{x:Int}(hx:Zs x):FP 279 [zA x] (zA (-x)):=by
 have h:=Fq (ofInt x) hx.ok (by have:=hx.len;unfold aC;omega);rw[dH]at h;exact h
theorem SZ{x y:Int}(hx:Zs x)(hy:Zs y):FP 291 [zA x,zA y] (i64 (gq x y)):=by
 have h:=R3 (ofInt x) (ofInt y) hx.ok hy.ok (by have:=hx.len;unfold aC;omega) (by have:=hy.len;unfold aC;omega);rw[dH,dH]at h;exact h
theorem OR{x y:Int}(hx:Zs x)(hy:Zs y):FP 196 [zA x,zA y] (zA (x+y)):=by
 have h:=It (ofInt x) (ofInt y) hx.ok hy.ok (by have:=hx.len;unfold aC;omega) (by have:=hy.len;unfold aC;omega);rw[dH,dH]at h;exact h
theorem oH{x y:Int}(hx:Zs x)(hy:Zs y):FP 197 [zA x,zA y] (zA (x*y)):=by
 have h:=MZ (ofInt x) (ofInt y) hx.ok hy.ok (by have:=hx.len;have:=hy.len;unfold aC;omega);rw[dH,dH]at h;exact h
theorem Pr{x y:Int}(hx:Zs x)(hy:Zs y):FP 280 [zA x,zA y] (zA (Int.gcd x y)):=by
 have h:=Hl (ofInt x) (ofInt y) hx.ok hy.ok (by have:=hx.len;have:=hy.len;unfold aC;omega);rw[dH,dH]at h;exact h
theorem EX{x y:Int}(hx:Zs x)(hy:Zs y)(h0:y≠0):FP 281 [zA x,zA y] (.tup [zA (x/y),zA (x%y),i64 0]):=by
 have h:=Ue (ofInt x) (ofInt y) hx.ok hy.ok (by have:=hx.len;unfold aC;omega) (by have:=hy.len;unfold aC;omega) (by rw[dH];exact h0);rw[dH,dH]at h;exact h
def ka(e:Nat):Value:=match e with |0=>.nilIface |e+1=>.iface 60 (.int .i64 ((e+1:Nat):Int))
def bm(e:Nat):AV:=.v (ka e)
theorem NV(e:Nat):ka e=.nilIface\/∃T u,ka e=.iface T u:=by cases e;exact .inl rfl;exact .inr ⟨_,_,rfl⟩
theorem Dg(e:Nat):fu (ka e)=decide (e=0):=by cases e <;> simp[ka,fu]
theorem Rg{e:Nat}(h:fu (ka e)=true):e=0:=by rw[Dg]at h;exact of_decide_eq_true h
theorem LT{e:Nat}(h:fu (ka e)=false):e≠0:=by rw[Dg]at h;exact of_decide_eq_false h
theorem de{e:Nat}(h:(!fu (ka e))=true):e≠0:=LT (by cases h':fu (ka e) <;> simp_all)
theorem cR{e:Nat}(h:(!fu (ka e))=false):e=0:=Rg (by cases h':fu (ka e) <;> simp_all)
theorem BP:FP 248 [] (zA 1):=by
 refine af func248 ?_;refine gc (HT 1 oz) ?_;refine ae ?_
 first |rfl |(simp;done)
theorem tX(r:Rt)(h:r.ok):FP 215 [r.av] (bl r.valid):=by
 have hn:=h.n0;have hd:=h.d0;refine af func215 ?_;refine gl ?_;refine bS ?_;refine gC (fun t14=>?_) (fun t14=>?_)
 ·have h0 : r.num = [] /\ r.den = [] := by simpa [aa] using t14
  refine ae ?_;unfold Rt.valid;rw[VQ h0];rfl
 have h0:¬(r.num=[]/\r.den=[]):=by
  have:=t14;simp[aa]at this;exact fun h=>this h.1 h.2
 refine gD ?_;refine gl ?_;refine bS ?_;refine bM (fun _=>(wh r.n0 hn)) ?_;refine bM (fun _=>(wh r.d0 hd)) ?_;refine gC (fun t43=>?_) (fun t43=>?_)
 ·have h1:r.valid=false:=AI h0 t43;refine ae ?_;rw[h1];rfl
 have h1:=CA h0 t43;refine gc (GI r.n0 r.d0 hn hd h.n0l h.d0l) ?_;refine gc (by apply BP) ?_;refine gc (EU (Rt.gcd_zs h) wc) ?_;refine ae ?_;rw[h1];rfl
theorem kJ(r:Rt)(h:r.ok):FP 319 [r.av] (.tup [zA r.q.num,zA r.q.den]):=by
 have hl1:r.num.length<=137438953472:=h.2.2.1;have hl2:r.den.length<=137438953472:=h.2.2.2;refine af func319 ?_;refine gc (tX r h) ?_;refine bS ?_;refine gC (fun t12=>?_) (fun t12=>?_)
 ·have h0:¬(r.valid=true/\r.num≠[]):=by
   have:=t12;intro h';simp[aa,h'.1,h'.2]at this
  refine gc BP ?_;refine gR ?_;exact bw (by rw[Rt.zero h0];exact Sub.tup (.cons Ch (.cons (.refl _) .nil)))
 have h0:r.valid=true/\r.num≠[]:=by
  have:=t12;cases hv:r.valid
  ·rw[hv]at this;cases this
  ·rw[hv]at this;exact⟨rfl,by simpa[aa]using this⟩
 obtain⟨e1,e2,e3,e4,e5,e6⟩:=Rt.parts h h0.1 h0.2;refine gs (gf T43 rfl T349 rfl rfl rfl) ?_;refine gs (bO (.tmp rfl) rfl rfl (.tmp rfl) T43 rfl T349 rfl rfl (by simp only[length_map];omega) rfl rfl) ?_;refine gD ?_ (4,0);refine gW ((Wk.freeze (k:=20) rfl).trans<|Wk.of (sl:=[(1,some (.ptr 1 0)),(2,some (.ptr 2 0)),(3,some (.ptr 3 0))]) (hp:=[(1,some (.box [bl r.neg,ws r.num,ws r.den])),(2,some (.box [bl r.neg,ws r.num])),(3,some (.box [bl false,nS]))]) aR (.k (.cons rfl (BlkSub.bL (.cons (.refl _) (.cons (.of (bD (by simp))) .nil)) rfl) (.k .nil)))) ?_;refine gs (gf T43 rfl T349 rfl rfl rfl) ?_;refine gs (bO (.tmp rfl) rfl rfl (.tmp rfl) T43 rfl T349 rfl rfl (by simp only[length_map];omega) rfl rfl) ?_;refine gD ?_ (77777,0);refine gW ((Wk.freeze (k:=26) rfl).trans<|Wk.of (sl:=[(2,some (.ptr 2 0)),(3,some (.ptr 3 0))]) (hp:=[(2,some (.box [bl r.neg,ws r.num])),(3,some (.box [bl false,ws r.den]))]) aR (.k (.cons rfl (BlkSub.bL (.cons (.refl _) (.cons (.of (bD (by simp))) .nil)) rfl) .nil))) ?_;refine bf ?_;rw[e1,e2];exact HH e3 e4 e5
theorem r5{n d:Int}(hn:Zs n)(hd:Zs d)(h0:d≠0):FP 246 [zA n,zA d] (qA (Rat.divInt n d)):=by
 refine af func246 ?_;refine gc (rJ hn) ?_;refine gC (fun t9=>?_) (fun t9=>?_)
 ·have e0 : n=0 := Int.sign_eq_zero_iff_zero.1 (by simpa[aa]using t9);refine gR ?_;exact iC (by rw[e0,Rat.zero_divInt];exact gL)
 have e0:n≠0:=fun h=>by rw[h]at t9;cases t9
 refine gc (rJ hd) ?_;refine uF [2,3,4] [4] (fun(n1 d1:Int)=>[]) (fun n1 d1=>[(2,some (.box (zA n1).cells)),(3,some (.box (zA d1).cells))]) (fun n1 d1=>0<d1/\n1≠0/\Zs n1/\Zs d1/\Rat.divInt n1 d1=Rat.divInt n d) ?_ ?_
 ·intro K1 J1;refine gC (fun t13=>?_) (fun t13=>?_)
  ·have e1 : d<0 := Int.sign_eq_neg_one_iff_neg.1 (by have := Int.sign_trichotomy d;have h9 : d.sign<0 := (by simpa[aa]using t13);omega);refine gc (vt hn) ?_;refine gc (vt hd) ?_;refine gD ?_;exact nE J1 (-n) (-d) ⟨by omega,by omega,hn.neg,hd.neg,Je n d⟩
  have e1:0<d:=by
   have h9:0<=d.sign:=by simpa[aa]using t13
   have:=Int.sign_nonneg_iff.1 h9;omega
  exact nE J1 n d ⟨e1,e0,hn,hd,rfl⟩
 rintro n1 d1 ⟨f1,f2,f3,f4,f5⟩;refine gc (NM f3 f4) ?_;refine gc (rJ f3) ?_;refine wl [2,3,4,5] [3,4,5] (fun(n2:Int)=>[(6,some (bl (decide (n1<0))))]) (fun n2=>[(2,some (.box (zA n2).cells))]) (fun n2=>n2=(n1.natAbs:Int)) ?_ ?_
 ·intro K2 J2;refine gC (fun t24=>?_) (fun t24=>?_)
  ·have e2 : n1<0 := Int.sign_eq_neg_one_iff_neg.1 (by have := Int.sign_trichotomy n1;have h9 : n1.sign<0 := (by simpa[aa]using t24);omega);refine gc (vt f3) ?_;exact mJ J2 (-n1) oz (hw:=Wk.of (.cons rfl (Sub.of (by rw[show aa .lss n1.sign 0=true from t24,decide_eq_true e2];rfl)) (.k (.k (.k (.k .nil))))) (.k (.k (.k (.k .nil)))))
  have e2:0<n1:=by
   have h9:0<=n1.sign:=by simpa[aa]using t24
   have:=Int.sign_nonneg_iff.1 h9;omega
  exact mJ J2 n1 oz (hw:=Wk.of (.cons rfl (Sub.of (by rw[show aa .lss n1.sign 0=false from t24,decide_eq_false oz];rfl)) (.k (.k (.k (.k .nil))))) (.k (.k (.k (.k .nil)))))
 rintro n2 g1;have g2:Zs (Int.gcd n1 d1:Int):=f3.of_le (by rw[natAbs_natCast];exact Nat.le_of_dvd oz (Int.gcd_dvd_natAbs_left _ _));have g3:(Int.gcd n1 d1:Int)≠0:=by have:=Int.gcd_pos_of_ne_zero_left d1 f2;omega
 have g4:Zs n2:=f3.of_le oz;refine gc (Jc g4 g2 g3) ?_;refine gc (Jc f4 g2 g3) ?_;refine ae ?_;rw[<- f5,<- Ni f1 f2,<- g1];rfl
theorem SB{n d:Int}(hn:Zs n)(hd:Zs d):FP 409 [zA n,zA d] (.tup [qA (Rat.divInt n d),bm (if d=0 then 8 else 0)]):=by
 refine af func409 ?_;refine gc (rJ hd) ?_;refine gC (fun t8=>?_) (fun t8=>?_)
 ·have h0 : d=0 := Int.sign_eq_zero_iff_zero.1 (by simpa[aa]using t8);refine gR ?_;exact bw (by rw[VQ h0,h0,Rat.divInt_zero];exact Sub.tup (.cons gL (.cons (.refl _) .nil)))
 have h0:d≠0:=fun h=>by rw[h]at t8;cases t8
 refine gc (r5 hn hd h0) ?_;refine bf ?_;rw[VP h0];rfl
theorem m8(n:Int)(h:-9223372036854775808<=n/\n<=9223372036854775807):FP 142 [i64 n] (qA n):=by
 have hz:Zs n:=⟨2,by omega,by unfold Lz;simp only[Nat.reducePow];omega⟩
 refine af func142 ?_;refine gc (HT n h) ?_;refine gc BP ?_;refine gc (r5 hz wc oz) ?_;refine ae ?_;exact congrArg qA (Rat.num_divInt_den (n:Rat))
theorem GH(a:Rt)(ha:a.ok):FP 348 [a.av] (qA (-a.q)):=by
 have za:=ha.qs;refine af func348 ?_;refine gc (kJ a ha) ?_;refine gc (vt za.num) ?_;refine gc (r5 za.num.neg za.den (by have:=a.q.den_nz;omega)) ?_;refine gD ?_;refine ae ?_;rw[F4];rfl
theorem uP(a:Rt)(ha:a.ok):FP 216 [a.av] (i64 (bI a.q)):=by
 refine af func216 ?_;refine gc (kJ a ha) ?_;refine gc (rJ ha.qs.num) ?_;refine ae ?_;rw[Gj]
theorem GW(a b:Rt)(ha:a.ok)(hb:b.ok):FP 370 [a.av,b.av] (i64 (bI (a.q-b.q))):=by
 have za:=ha.qs;have zb:=hb.qs;have m1:=za.mul zb;have m2:=zb.mul za;refine af func370 ?_;refine gc (kJ a ha) ?_;refine gc (kJ b hb) ?_;refine gc (l0 za.num zb.den) ?_;refine gc (l0 zb.num za.den) ?_;refine gc (EU m1.1 m2.1) ?_;refine gD ?_;refine ae ?_;rw[RW]
theorem n6(a b:Rt)(ha:a.ok)(hb:b.ok):FP 233 [a.av,b.av] (qA (a.q+b.q)):=by
 have za:=ha.qs;have zb:=hb.qs;have m1:=za.mul zb;have m2:=zb.mul za;refine af func233 ?_;refine gc (kJ a ha) ?_;refine gc (kJ b hb) ?_;refine gc (l0 za.num zb.den) ?_;refine gc (l0 zb.num za.den) ?_;refine gc (Nk m1.1 m2.1) ?_;refine gc (l0 za.den zb.den) ?_;refine gc (r5 (za.cross zb) m1.2.2.1 (Int.mul_ne_zero (by have:=a.q.den_nz;omega) (by have:=b.q.den_nz;omega))) ?_;refine gD ?_;refine ae ?_;rw[yQ];rfl
theorem Jv(a b:Rt)(ha:a.ok)(hb:b.ok):FP 252 [a.av,b.av] (qA (a.q-b.q)):=by
 refine af func252 ?_;refine gc (GH b hb) ?_;refine gc (n6 a (rt (-b.q)) ha hb.qs.neg.ok) ?_;refine gD ?_;refine ae ?_;rw[bt,<- Rat.sub_eq_add_neg];rfl
theorem G3(a b:Rt)(ha:a.ok)(hb:b.ok):FP 274 [a.av,b.av] (qA (a.q*b.q)):=by
 have za:=ha.qs;have zb:=hb.qs;have m1:=za.mul zb;refine af func274 ?_;refine gc (kJ a ha) ?_;refine gc (kJ b hb) ?_;refine gc (l0 za.num zb.num) ?_;refine gc (l0 za.den zb.den) ?_;refine gc (r5 m1.2.1 m1.2.2.1 (Int.mul_ne_zero (by have:=a.q.den_nz;omega) (by have:=b.q.den_nz;omega))) ?_;refine gD ?_;refine ae ?_;rw[zP];rfl
theorem IJ(a b:Rt)(ha:a.ok)(hb:b.ok):FP 388 [a.av,b.av] (.tup [qA (a.q/b.q),bm (if b.q=0 then 8 else 0)]):=by
 have za:=ha.qs;have zb:=hb.qs;have m1:=za.mul zb;refine af func388 ?_;refine gc (kJ a ha) ?_;refine gc (kJ b hb) ?_;refine gc (l0 za.num zb.den) ?_;refine gc (l0 za.den zb.num) ?_;refine gc (SB m1.1 m1.2.2.2) ?_;refine gD ?_;refine bf ?_
 have e1:((a.q.den:Int)*b.q.num=0)=(b.q=0):=by
  apply propext;rw[<- Rat.num_eq_zero,Int.mul_eq_zero];exact⟨fun h=>h.resolve_left (by have:=a.q.den_nz;omega),.inr⟩
 simp only[AE,e1];rfl
structure Pq where
  c:List Rat
  s:List Rat
  x:List Rat
  y:List Rat
def Pq.av(p:Pq):AV:=.agg [nA p.c,nA p.s,nA p.x,nA p.y]
structure Pq.ok(n e:Nat)(p:Pq):Prop where
  c:Nm n e p.c
  s:Nm n e p.s
  x:Nm n e p.x
  y:Nm n e p.y
def FW(p:Pse):Pq:=⟨sh 0 (fv p.turn.half p.turn.t.q:Rat),sh 0 (fA p.turn.half p.turn.t.q:Rat),sh 0 (p.at_.x.q:Rat),sh 0 (p.at_.y.q:Rat)⟩
def HY(ps:List Pse):Nat:=if ps.all Pse.ok=true then 0 else 2
def ofL(ps:List Pse):List Pq:=if ps.all Pse.ok=true then ps.map FW else[]
theorem qS{half:Bool}{t:Rat}{e:Nat}(h:Qb e t):Qb (4*e+6) (fv half t):=by
 unfold fv;split
 ·exact Qb.one.neg.mono oz
 ·exact((Qb.one.sub (h.mul h)).div (Qb.one.add (h.mul h))).mono oz
theorem qM{half:Bool}{t:Rat}{e:Nat}(h:Qb e t):Qb (4*e+6) (fA half t):=by
 unfold fA;split
 ·exact Qb.zero.mono oz
 ·exact((h.add h).div (Qb.one.add (h.mul h))).mono oz
def Kk(ts:LL)(b:Pl)(w:Pq):Bool :=
  iY ts (ad ts.length (lq b.c)) (ad ts.length w.c)&&iY ts (ad ts.length (lq b.s)) (ad ts.length w.s)&&iY ts (ad ts.length (lq b.x)) (ad ts.length w.x)&&iY ts (ad ts.length (lq b.y)) (ad ts.length w.y)
def mE(a:As)(ps:List Pse):Nat :=
  if bc a.rs≠0 then bc a.rs else if HY ps≠0 then HY ps else if a.bs.length≠ps.length then 10 else dh (a.bs.map (fun b=>aZ a.rs b.l))
def mB(a:As)(ps:List Pse):Bool:=decide (mE a ps=0)&&(a.bs.zip ps).all (fun z=>Kk (llq a.rs) z.1 (FW z.2))
theorem Bi{α:Type}{l:List α}{f:α->Nat}{i:Nat}{x:α}(hx:l[i]?=some x)(hb:∀y∈l.take i,f y=0)(hn:f x≠0):dh (l.map f)=f x:=by
 have e:l=l.take i++l.drop i:=(List.take_append_drop i l).symm;have hi:=(List.getElem?_eq_some_iff.1 hx).1
 have e2:l.drop i=x::l.drop (i+1):=by
  rw[List.drop_eq_getElem_cons hi,(List.getElem?_eq_some_iff.1 hx).2]
 rw[e,map_append,sw _ _ (oL (fun v hv=>by
  obtain⟨y,hy,rfl⟩:=List.mem_map.1 hv;exact hb y hy)),e2]
 show(if f x≠0 then f x else _)=_;rw[VQ hn]
theorem MU{rs:List (List Rt)}{b:Pl}{E:Nat}(h:aZ rs b.l=0)(hb:∀x∈b.l,NR x E)(h5:rs.length<=5) :
  b.av=Pq.av ⟨lq b.c,lq b.s,lq b.x,lq b.y⟩/\Pq.ok rs.length E ⟨lq b.c,lq b.s,lq b.x,lq b.y⟩:=by
 have h1:=(iX h).2
 have g:∀x∈b.l,nR x=nA (lq x)/\Nm rs.length E (lq x):=fun x hx=>by
  obtain⟨e1,e2⟩:=(hb x hx).num (h1 x hx);exact⟨e1,h5,e2,(hb x hx).cb⟩
 have c:=g b.c (by simp[Pl.l]);have s:=g b.s (by simp[Pl.l]);have x:=g b.x (by simp[Pl.l]);have y:=g b.y (by simp[Pl.l]);exact⟨by unfold Pl.av Pq.av;rw[c.1,s.1,x.1,y.1],c.2,s.2,x.2,y.2⟩
instance:Inhabited Tn:=⟨⟨⟨false,[],[]⟩,false⟩⟩
def df(n:Nat)(ok:Nat->Bool):Option Nat:=(List.range n).find? (fun i=>!ok i)
theorem iJ{n i:Nat}{ok:Nat->Bool}(hi:i<n)(h:∀j,j<i->ok j=true)(he:ok i=false):df n ok=some i:=by
 unfold df;rw[List.find?_range_eq_some];exact⟨by rw[he];rfl,by simpa using hi,fun j hj=>by rw[h j hj];rfl⟩
theorem iQ{n:Nat}{ok:Nat->Bool}(h:∀j,j<n->ok j=true):df n ok=none:=by
 unfold df;rw[List.find?_range_eq_none];exact fun j hj=>by rw[h j hj];rfl
theorem DS{n:Nat}{ok:Nat->Bool}(h:df n ok=none):∀j,j<n->ok j=true:=by
 unfold df at h;rw[List.find?_range_eq_none]at h;intro j hj;have:=h j hj;simpa using this
def mK:Option Nat->Int
  |none=>-1
  |some i=>i
abbrev pZ(ts:LL)(x:List Rt):T ts.length:=ad ts.length (lq x)
def kZ(ts:LL)(b:Pl)(m:Mk):T ts.length×T ts.length:=(r4 ts (pZ ts b.c) (pZ ts b.s) (pZ ts b.x) m.x.q m.y.q,sF ts (pZ ts b.c) (pZ ts b.s) (pZ ts b.y) m.x.q m.y.q)
def oR(l:Li)(a:As)(body pt:Int):T (llq a.rs).length×T (llq a.rs).length:=kZ (llq a.rs) (a.bs.getD body.toNat default) ((cF l body).getD pt.toNat default)
theorem dp{l:Li}(h:aG l=0):ig l=0/\eL l=0/\gg l=0/\l.bo.length<=8/\l.bo.length≠0:=by
 unfold aG at h;split at h
 ·cases h
 ·split at h
  ·cases h
  ·split at h
   ·cases h
   ·split at h
    ·rename_i h1;exact absurd h h1
    ·rename_i g1 _ h1;split at h
     ·rename_i h2;exact absurd h h2
     ·rename_i h2;exact⟨Decidable.not_not.1 h1,Decidable.not_not.1 h2,h,by omega,by omega⟩
theorem C8{l:Li}(h:aG l=0){i:Nat}{j:Jt}(hj:l.jo[i]?=some j):d9 l j=0:=by
 have h1:=(dp h).2.1;unfold eL at h1;split at h1
 ·cases h1
 ·have h2:=uz h1 i (List.getElem?_eq_some_iff.1 hj).1;unfold f6 at h2;rw[aO hj]at h2;split at h2
  ·cases h2
  ·split at h2
   ·cases h2
   ·exact h2
theorem dm{l:Li}(h:aG l=0){i:Nat}{j:Jt}(hj:l.jo[i]?=some j) :
  br j.a l.bo.length=true/\br j.b l.bo.length=true/\br j.point (cF l j.a).length=true/\br j.on (cF l j.b).length=true/\(j.kind≠0->br j.to (cF l j.b).length=true):=by
 have h1:=C8 h hj;unfold d9 at h1;split at h1
 ·cases h1
 ·split at h1
  ·cases h1
  ·rename_i h2;split at h1
   ·cases h1
   ·split at h1
    ·cases h1
    ·rename_i h3;have a1:br j.a l.bo.length = true:=by cases h:br j.a l.bo.length <;> simp_all
     have a2:br j.b l.bo.length=true:=by cases h:br j.b l.bo.length <;> simp_all
     have a3:br j.point (cF l j.a).length=true:=by cases h:br j.point (cF l j.a).length <;> simp_all
     have a4:br j.on (cF l j.b).length=true:=by cases h:br j.on (cF l j.b).length <;> simp_all
     refine⟨a1,a2,a3,a4,fun hk=>?_⟩;rw[VP hk]at h1;split at h1
     ·cases h1
     ·rename_i h4;cases h:br j.to (cF l j.b).length <;> simp_all
theorem lK{l:Li}(h:aG l=0){i:Nat}{d:Dr}(hd:l.dv[i]?=some d):br d.body l.bo.length=true:=by
 have h1:=(dp h).2.2.1;unfold gg at h1;split at h1
 ·cases h1
 ·have h2:=uz h1 i (List.getElem?_eq_some_iff.1 hd).1;unfold dN at h2;rw[aO hd]at h2;split at h2
  ·cases h2
  ·split at h2
   ·cases h2
   ·split at h2
    ·cases h2
    ·rename_i h3;cases h:br d.body l.bo.length <;> simp_all
theorem L0{l:Li}(h:aG l=0){n k:Nat}{b:Bd}{m:Mk}(hb:l.bo[n]?=some b)(hm:b.pts[k]?=some m):m.x.valid=true/\m.y.valid=true:=by
 have h2:=uz (dp h).1 n (List.getElem?_eq_some_iff.1 hb).1;unfold d6 at h2;rw[aO hb]at h2;split at h2
 ·cases h2
 ·split at h2
  ·cases h2
  ·split at h2
   ·cases h2
   ·have h3:=uz h2 k (List.getElem?_eq_some_iff.1 hm).1;unfold dZ at h3;rw[aO hm]at h3;split at h3
    ·cases h3
    ·split at h3
     ·cases h3
     ·split at h3
      ·assumption
      ·cases h3
theorem z5{ts:LL}{r e f:Nat}(tw:Tw ts r){b:Pl}{m:Mk}(hb:Pq.ok ts.length e ⟨lq b.c,lq b.s,lq b.x,lq b.y⟩)(hx:Qb f m.x.q)(hy:Qb f m.y.q) :
  Nm ts.length (3*e+2*f+2*kB r ts.length+10) (sh ts.length (kZ ts b m).1)/\Nm ts.length (3*e+2*f+2*kB r ts.length+10) (sh ts.length (kZ ts b m).2):=by
 have nx:=Nm.ofQ tw.five (Cb.one hx);have ny:=Nm.ofQ tw.five (Cb.one hy);have h1:=(qU tw hb.c hb.s nx ny).add hb.x;rw[vz]at h1;have h2:=(pj tw hb.c hb.s nx ny).add hb.y;rw[wU]at h2;exact⟨h1.mono oz,h2.mono oz⟩
structure Gr where
  kind:Int
  bo:List Int
  jo:List Int
  driver:Int
instance:Inhabited Gr:=⟨⟨0,[],[],0⟩⟩
def Gr.av(g:Gr):AV:=.agg [i64 g.kind,.lst 1 (g.bo.map i64),.lst 1 (g.jo.map i64),i64 g.driver]
def kn(k:List Bool)(i:Int):Bool:=k.getD i.toNat false
def cU(n:Nat)(b:Int):List Bool:=(List.replicate n false).set b.toNat true
def nH(l:Li)(b:Int):Bool:=l.dv.any (fun d=>decide (d.body=b))
def ef(l:Li)(kw:List Bool)(b:Int):Bool:=!kn kw b&&!nH l b
def kI(kind body:Int)(oth:List Bool)(j:Jt):Bool:=decide (j.kind=kind)&&(decide (j.a=body)&&kn oth j.b||decide (j.b=body)&&kn oth j.a)
def b7(l:Li)(kind body:Int)(oth:List Bool):Int:=mK (df l.jo.length (fun i=>!kI kind body oth (l.jo.getD i default)))
def fO(l:Li)(kw:List Bool)(i:Nat):Bool:=!kn kw (l.dv.getD i default).body&&decide (0<=b7 l 0 (l.dv.getD i default).body kw)
def dA(l:Li)(kw:List Bool):Option Gr :=
  (df l.dv.length (fun i=>!fO l kw i)).map fun i=>⟨0,[(l.dv.getD i default).body],[b7 l 0 (l.dv.getD i default).body kw],i⟩
def dz(l:Li)(kw:List Bool)(i k:Nat):Bool :=
  (ef l kw i&&ef l kw k)&&(decide (0<=b7 l 0 i kw)&&decide (0<=b7 l 0 k kw)&&decide (0<=b7 l 0 i (cU l.bo.length k)))
def gB(l:Li)(kw:List Bool)(i:Nat):Option Nat:=(df (l.bo.length-(i+1)) (fun k=>!dz l kw i (i+1+k))).map (·+(i+1))
def kK(l:Li)(kw:List Bool)(i k:Nat):Gr:=⟨1,[i,k],[b7 l 0 i kw,b7 l 0 k kw,b7 l 0 i (cU l.bo.length k)],0⟩
def cT(l:Li)(kw:List Bool):Option Gr :=
  (df l.bo.length (fun i=>(gB l kw i).isNone)).map fun i=>match gB l kw i with
    |some k=>kK l kw i k
    |none=>default
def fL(l:Li)(kw:List Bool)(i:Nat):Bool:=ef l kw i&&(decide (0<=b7 l 0 i kw)&&decide (0<=b7 l 1 i kw))
def jh(l:Li)(kw:List Bool)(i:Nat):Gr :=
  ⟨if(l.jo.getD (b7 l 1 i kw).toNat default).a=i then 2 else 3,[i],[b7 l 0 i kw,b7 l 1 i kw],0⟩
def eO(l:Li)(kw:List Bool):Option Gr:=(df l.bo.length (fun i=>!fL l kw i)).map (jh l kw)
def cq(l:Li)(kw:List Bool):Option Gr:=(dA l kw).or ((cT l kw).or (eO l kw))
def bE(kw:List Bool)(bs:List Int):List Bool:=bs.foldl (fun k b=>k.set b.toNat true) kw
def cJ(l:Li):Nat->List Bool->List Gr->List Bool×List Gr
  |0,kw,out=>(kw,out)
  |n+1,kw,out=>match cq l kw with
    |none=>(kw,out)
    |some g=>cJ l n (bE kw g.bo) (out++[g])
def cE(l:Li):List Gr:=(cJ l l.bo.length (cU l.bo.length 0) []).2
def cg(l:Li):List Bool:=(cE l).foldl (fun k g=>bE k g.bo) (cU l.bo.length 0)
def e8(l:Li):List Bool:=(cE l).foldl (fun k g=>bE k g.jo) (List.replicate l.jo.length false)
def fC(k:List Bool):List Int:=((List.range k.length).filter (fun i=>!k.getD i false)).map (fun i:Nat=>((i:Nat):Int))
def cA(l:Li):Nat:=if(fC (cg l)).length+(fC (e8 l)).length=0 then 0 else 7
def aK(l:Li):List Gr:=if cA l=0 then cE l else[]
theorem FV{kind body:Int}{oth:List Bool}{j:Jt}{va vb:Bool}(ea:kn oth j.a=va)(eb:kn oth j.b=vb) :
  cond (aa .eql j.kind kind) (cond (cond (aa .eql j.a body) vb false) true (cond (aa .eql j.b body) va false)) false=kI kind body oth j:=by
 unfold kI;rw[lR,lR,lR,ea,eb,iH,iH,iH,io]
theorem iI(n:Nat)(b:Int):(cU n b).length=n:=by unfold cU;simp
theorem kf:∀(bs:List Int)(k:List Bool),(bE k bs).length=k.length
 |[],k=>rfl
 |b::bs,k=>by
  show(bE (k.set b.toNat true) bs).length=_;rw[kf bs];simp
theorem fN{n i:Nat}{ok:Nat->Bool}(h:df n ok=some i):i<n/\ok i=false:=by
 unfold df at h;rw[List.find?_range_eq_some]at h;exact⟨by simpa using h.2.1,by simpa using h.1⟩
theorem mN{l:Li}{kind body:Int}{oth:List Bool}:-1<=b7 l kind body oth/\b7 l kind body oth<l.jo.length:=by
 unfold b7;cases h:df l.jo.length (fun i=>!kI kind body oth (l.jo.getD i default))with
 |none=>exact⟨by decide,by show(-1:Int)<_;omega⟩
 |some i=>have:=(fN h).1;exact⟨by show(-1:Int)<=(i:Int);omega,by show(i:Int)<_;omega⟩
structure GrOk(l:Li)(g:Gr):Prop where
  b:∀x∈g.bo,0<=x/\x<l.bo.length
  j:∀x∈g.jo,0<=x/\x<l.jo.length
  lb:g.bo.length<=2
  lj:g.jo.length<=3
theorem RC{l:Li}(hl:aG l=0){kw:List Bool}{g:Gr}(h:dA l kw=some g):GrOk l g:=by
 unfold dA at h;rw[map_eq_some_iff]at h;obtain⟨i,hi,rfl⟩:=h;obtain⟨h1,h2⟩:=fN hi;obtain⟨d,hd⟩:=az h1;have h3:=eK (lK hl hd);unfold fO at h2;simp only[Bool.not_eq_false',and_eq_true,decide_eq_true_eq]at h2;rw[aO hd]at h2 ⊢;have h4:=mN (l:=l) (kind:=0) (body:=d.body) (oth:=kw);refine⟨fun x hx=>?_,fun x hx=>?_,by simp,by simp⟩
 ·rw[List.mem_singleton.1 hx];exact h3
 ·rw[List.mem_singleton.1 hx];exact⟨h2.2,h4.2⟩
theorem MM{l:Li}{kw:List Bool}{g:Gr}(h:cT l kw=some g):GrOk l g:=by
 unfold cT at h;rw[map_eq_some_iff]at h;obtain⟨i,hi,h⟩:=h;obtain⟨h1,h2⟩:=fN hi;split at h
 ·rename_i k hk;subst h;unfold gB at hk;rw [map_eq_some_iff] at hk;obtain ⟨k',hk',rfl⟩:=hk;obtain ⟨h3,h4⟩:=fN hk';rw [show i + 1 + k' = k' + (i + 1) by omega] at h4;unfold dz at h4;simp only [Bool.not_eq_false',and_eq_true,decide_eq_true_eq] at h4;obtain ⟨_,⟨j1,j2⟩,j3⟩:=h4;refine ⟨fun x hx=>?_,fun x hx=>?_,by simp [kK],by simp [kK]⟩
  ·simp only[kK,mem_cons,not_mem_nil,or_false]at hx;rcases hx with rfl |rfl <;> constructor <;> omega
  ·simp only[kK,mem_cons,not_mem_nil,or_false]at hx;rcases hx with rfl |rfl |rfl
   ·exact⟨j1,mN.2⟩
   ·exact⟨j2,mN.2⟩
   ·exact⟨j3,mN.2⟩
 ·rename_i hk;rw[hk]at h2;cases h2
theorem TQ{l:Li}{kw:List Bool}{g:Gr}(h:eO l kw=some g):GrOk l g:=by
 unfold eO at h;rw[map_eq_some_iff]at h;obtain⟨i,hi,rfl⟩:=h;obtain⟨h1,h2⟩:=fN hi;unfold fL at h2;simp only[Bool.not_eq_false',and_eq_true,decide_eq_true_eq]at h2;obtain⟨_,j1,j2⟩:=h2;refine⟨fun x hx=>?_,fun x hx=>?_,by simp[jh],by simp[jh]⟩
 ·simp only[jh,mem_cons,not_mem_nil,or_false]at hx;subst hx;constructor <;> omega
 ·simp only[jh,mem_cons,not_mem_nil,or_false]at hx;rcases hx with rfl |rfl
  ·exact⟨j1,mN.2⟩
  ·exact⟨j2,mN.2⟩
theorem vX{l:Li}(hl:aG l=0){kw:List Bool}{g:Gr}(h:cq l kw=some g):GrOk l g:=by
 unfold cq at h;cases h1:dA l kw with
 |some g'=>rw[h1]at h;cases h;exact RC hl h1
 |none =>
  rw[h1]at h;cases h2:cT l kw with
  |some g'=>rw[h2]at h;cases h;exact MM h2
  |none=>rw[h2]at h;exact TQ h
theorem DW{l:Li}(hl:aG l=0):∀(n:Nat)(kw:List Bool)(out:List Gr),(∀g∈out,GrOk l g)->(∀g∈(cJ l n kw out).2,GrOk l g)/\(cJ l n kw out).2.length<=out.length+n
 |0,kw,out,h=>⟨h,by simp[cJ]⟩
 |n+1,kw,out,h=>by
  unfold cJ;cases hg:cq l kw with
  |none=>exact⟨h,by simp⟩
  |some g =>
   have h1:=DW hl n (bE kw g.bo) (out++[g]) (fun x hx=>by
    rcases List.mem_append.1 hx with hx |hx
    ·exact h x hx
    ·rw[List.mem_singleton.1 hx];exact vX hl hg)
   refine⟨h1.1,?_⟩;have:=h1.2;rw[length_append]at this;show(cJ l n (bE kw g.bo) (out++[g])).2.length<=_;simp only[length_cons,length_nil]at this;omega
theorem sk{l:Li}(hl:aG l=0):(∀g∈cE l,GrOk l g)/\(cE l).length<=8:=by
 have h:=DW hl l.bo.length (cU l.bo.length 0) [] (fun g hg=>by cases hg);have h8:=(dp hl).2.2.2.1;exact⟨h.1,by have:=h.2;simp only[length_nil]at this;unfold cE;omega⟩
def jz(j:Jt)(b:Int):Int:=if b=j.a then j.b else if b=j.b then j.a else -1
def vW(kind body:Int)(p:Int->Bool)(j:Jt):Bool:=decide (j.kind=kind)&&(decide (0<=jz j body)&&p (jz j body))
def gJ(l:Li)(kind body:Int)(p:Int->Bool):Int:=mK (df l.jo.length (fun i=>!vW kind body p (l.jo.getD i default)))
theorem Ka{b:Bool}{z:Int}(h:cond b (aa .geq z 0) false=true):0<=z:=by
 cases b
 ·cases h
 ·exact of_decide_eq_true h
theorem KP{a k z:Int}{q:Bool}:cond (cond (aa .eql a k) (aa .geq z 0) false) q false=(decide (a=k)&&(decide (0<=z)&&q)):=by
 rw[lR,show aa .geq z 0=decide (0<=z)from rfl,iH,iH,Bool.and_assoc]
theorem OK{l:Li}(hli:aG l=0){i:Nat}{j:Jt}(hj:l.jo[i]?=some j)(b:Int):jz j b<l.bo.length:=by
 obtain⟨i1,i2,_⟩:=dm hli hj;have b1:=eK i1;have b2:=eK i2;unfold jz;split
 ·omega
 ·split <;> omega
theorem QF{n:Nat}{ok ok':Nat->Bool}(h:∀i,i<n->ok i=ok' i):df n ok=df n ok':=by
 unfold df
 have:∀l:List Nat,(∀i∈l,i<n)->l.find? (fun i=>!ok i)=l.find? (fun i=>!ok' i):=by
  intro l
  induction l with
  |nil=>intro _;rfl
  |cons a l ih =>
   intro hl;simp only[List.find?_cons,h a (hl a (by simp)),ih (fun i hi=>hl i (by simp[hi]))]
 exact this _ (fun i hi=>List.mem_range.1 hi)
theorem yH{l:Li}(hli:aG l=0){kind body:Int}{p:Int->Bool}{oth:List Bool}(h:∀o:Int,0<=o->o<l.bo.length->p o=kn oth o):gJ l kind body p=b7 l kind body oth:=by
 unfold gJ b7;rw[QF];intro i hi;obtain⟨j,hj⟩:=az hi;rw[aO hj];obtain⟨i1,i2,_⟩:=dm hli hj;have b1:=eK i1;have b2:=eK i2;congr 1;unfold vW kI;congr 1;unfold jz
 by_cases h1:body=j.a
 ·subst h1;rw[VQ rfl,h _ b2.1 b2.2]
  by_cases h2:j.b=j.a
  ·simp[h2,b1.1]
  ·simp[h2,b2.1]
 ·rw[VP h1]
  by_cases h2:body=j.b
  ·subst h2;rw[VQ rfl,h _ b1.1 b1.2];have h3:¬j.a=j.b:=fun e=>h1 e.symm
   simp[h3,b1.1]
  ·rw[VP h2];have h3:¬j.a=body:=fun e=>h1 e.symm
   have h4:¬j.b=body:=fun e=>h2 e.symm
   simp[h3,h4]
theorem Jh{k:List Bool}{i:Nat}{b:Int}(h0:0<=b)(hi:i<k.length):kn (k.set i true) b=(decide (b=i)||kn k b):=by
 unfold kn;rw[getD_eq_getElem?_getD,List.getElem?_set,getD_eq_getElem?_getD]
 by_cases h:b=i
 ·rw[decide_eq_true h,Bool.true_or,VQ oz];rw[VQ oz];rfl
 ·rw[decide_eq_false h,Bool.false_or,VP oz]
theorem Jp:∀{bs:List Int}{k:List Bool}{b:Int},0<=b->(∀x∈bs,0<=x/\x<k.length)->kn (bE k bs) b=(bs.any (fun x=>decide (x=b))||kn k b)
 |[],k,b,h0,h=>by simp[bE]
 |x::bs,k,b,h0,h=>by
  show kn (bE (k.set x.toNat true) bs) b=_;obtain⟨hx0,hx1⟩:=h x (by simp);rw[Jp h0 (fun y hy=>by rw[length_set];exact h y (by simp[hy])),Jh h0 oz,List.any_cons];have e:decide (b=(x.toNat:Int))=decide (x=b):=decide_eq_decide.2 oz;rw[e];cases decide (x=b) <;> simp
theorem C5(n:Nat)(b:Int):kn (List.replicate n false) b=false:=by
 unfold kn;rw[getD_eq_getElem?_getD,getElem?_replicate];split <;> rfl
def bX(l:Li):List Bool:=bE (List.replicate l.bo.length false) (l.dv.map Dr.body)
theorem tH(l:Li):(bX l).length=l.bo.length:=by unfold bX;rw[kf,length_replicate]
theorem P9{l:Li}(hli:aG l=0){b:Int}(h0:0<=b):kn (bX l) b=nH l b:=by
 unfold bX nH;rw[Jp h0,C5,Bool.or_false,List.any_map]
 ·rfl
 ·intro x hx;obtain⟨d,hd,rfl⟩:=List.mem_map.1 hx;obtain⟨i,hi⟩:=List.mem_iff_getElem?.1 hd;have:=eK (lK hli hi);rw[length_replicate];omega
theorem vd{n:Nat}{b o:Int}(h0:0<=o)(hb0:0<=b)(hb:b<n):kn (cU n b) o=decide (o=b):=by
 unfold cU;rw[Jh h0 (by rw[length_replicate];omega),C5,Bool.or_false];exact decide_eq_decide.2 oz
def dK(k:List Bool):Nat:=k.countP (fun x=>!x)
theorem U6{k:List Bool}{i:Nat}(h:k[i]?=some false):dK (k.set i true)+1=dK k:=by
 unfold dK;have hi:=(List.getElem?_eq_some_iff.1 h).1;have he:=(List.getElem?_eq_some_iff.1 h).2;rw[List.countP_set hi,he];have:0<k.countP (fun x=>!x):=List.countP_pos_iff.2 ⟨false,mem_of_getElem? h,rfl⟩;simp;omega
theorem Kf(k:List Bool)(i:Nat):dK (k.set i true)<=dK k:=by
 by_cases hi:i<k.length
 ·unfold dK;rw[List.countP_set hi];simp
 ·rw[List.set_eq_of_length_le oz];exact le_refl _
theorem GG:∀(bs:List Int)(k:List Bool),dK (bE k bs)<=dK k
 |[],k=>le_refl _
 |x::bs,k=>le_trans (GG bs (k.set x.toNat true)) (Kf k _)
theorem QZ{x:Int}{bs:List Int}{k:List Bool}(h:k[x.toNat]?=some false):dK (bE k (x::bs))<dK k:=by
 have h1:=GG bs (k.set x.toNat true);have h2:=U6 h;show dK (bE (k.set x.toNat true) bs)<_;omega
theorem yf{k:List Bool}{b:Int}(h:kn k b=false)(h1:b.toNat<k.length):k[b.toNat]?=some false:=by
 unfold kn at h;rw[getD_eq_getElem?_getD,getElem?_eq_getElem h1]at h;rw[getElem?_eq_getElem h1];simpa using h
theorem VL{l:Li}(hl:aG l=0){kw:List Bool}(hk:kw.length=l.bo.length){g:Gr}(h:cq l kw=some g):∃x bs,g.bo=x::bs/\kw[x.toNat]?=some false:=by
 unfold cq at h;cases h1:dA l kw with
 |some g' =>
  rw[h1]at h;cases h
  unfold dA at h1;rw[map_eq_some_iff]at h1;obtain⟨i,hi,rfl⟩:=h1;obtain⟨h2,h3⟩:=fN hi;obtain⟨d,hd⟩:=az h2;have h4:=eK (lK hl hd);rw[aO hd]at *;unfold fO at h3;rw[aO hd]at h3;simp only[Bool.not_eq_false',and_eq_true,Bool.not_eq_true',decide_eq_true_eq]at h3;exact⟨_,_,rfl,yf h3.1 oz⟩
 |none =>
  rw[h1]at h;cases h2:cT l kw with
  |some g' =>
   rw[h2]at h;cases h
   unfold cT at h2;rw[map_eq_some_iff]at h2;obtain⟨i,hi,h2⟩:=h2;obtain⟨h3,h4⟩:=fN hi;split at h2
   ·rename_i k hk';subst h2;unfold gB at hk';rw[map_eq_some_iff]at hk';obtain⟨k',hk',rfl⟩:=hk';obtain⟨h5,h6⟩:=fN hk';unfold dz ef at h6;simp only[Bool.not_eq_false',and_eq_true,Bool.not_eq_true',decide_eq_true_eq]at h6;exact⟨_,_,rfl,yf h6.1.1.1 oz⟩
   ·rename_i hk';rw[hk']at h4;cases h4
  |none =>
   rw[h2]at h;have h:eO l kw=some g:=h;unfold eO at h;rw[map_eq_some_iff]at h;obtain⟨i,hi,rfl⟩:=h;obtain⟨h3,h4⟩:=fN hi;unfold fL ef at h4;simp only[Bool.not_eq_false',and_eq_true,Bool.not_eq_true',decide_eq_true_eq]at h4;exact⟨_,_,rfl,yf h4.1.1 oz⟩
theorem tR{l:Li}(hl:aG l=0){kw:List Bool}(hk:kw.length=l.bo.length){g:Gr}(h:cq l kw=some g):dK (bE kw g.bo)<dK kw:=by
 obtain⟨x,bs,e,h1⟩:=VL hl hk h;rw[e];exact QZ h1
theorem Bj{l:Li}(hl:aG l=0):∀(n m:Nat)(kw:List Bool)(out:List Gr),kw.length=l.bo.length->dK kw<=n->dK kw<=m->cJ l n kw out=cJ l m kw out
 |0,0,kw,out,hk,h1,h2=>rfl
 |0,m+1,kw,out,hk,h1,h2=>by
  unfold cJ;cases hg:cq l kw with
  |none=>rfl
  |some g=>have:=tR hl hk hg;omega
 |n+1,0,kw,out,hk,h1,h2=>by
  unfold cJ;cases hg:cq l kw with
  |none=>rfl
  |some g=>have:=tR hl hk hg;omega
 |n+1,m+1,kw,out,hk,h1,h2=>by
  unfold cJ;cases hg:cq l kw with
  |none=>rfl
  |some g =>
   have:=tR hl hk hg;exact Bj hl n m _ _ (by rw[kf];exact hk) oz oz
theorem xV{l:Li}:∀(n:Nat)(kw:List Bool)(out:List Gr),∃gs,cJ l n kw out=(gs.foldl (fun k g=>bE k g.bo) kw,out++gs)
 |0,kw,out=>⟨[],by simp[cJ]⟩
 |n+1,kw,out=>by
  unfold cJ;cases hg:cq l kw with
  |none=>exact⟨[],by simp⟩
  |some g =>
   obtain⟨gs,e⟩:=xV n (bE kw g.bo) (out++[g]);exact⟨g::gs,by show cJ l n _ _=_;rw[e];simp⟩
theorem IH(l:Li):cJ l l.bo.length (cU l.bo.length 0) []=(cg l,cE l):=by
 obtain⟨gs,e⟩:=xV (l:=l) l.bo.length (cU l.bo.length 0) [];unfold cg cE;rw[e];simp
theorem A8{k:List Bool}:(fC k).length=0↔k.contains false=false:=by
 unfold fC;rw[length_map,List.length_eq_zero_iff,List.filter_eq_nil_iff];constructor
 ·intro h;rw[<- Bool.not_eq_true,List.contains_iff_mem];intro hm;obtain⟨i,hi⟩:=List.mem_iff_getElem?.1 hm;have hlt:=(List.getElem?_eq_some_iff.1 hi).1;have:=h i (List.mem_range.2 hlt);rw[getD_eq_getElem?_getD,hi]at this;simp at this
 ·intro h i hi;rw[<- Bool.not_eq_true,List.contains_iff_mem]at h;intro hc;have hlt:=List.mem_range.1 hi;rw[getD_eq_getElem?_getD,getElem?_eq_getElem hlt]at hc;simp at hc;exact h (hc▸List.getElem_mem hlt)
theorem qi:Sub (.agg [.v (.int .i64 0),.v (.slice none 0 0),.v (.slice none 0 0),.v (.int .i64 0)]) (Gr.av default):=.agg (.cons (.refl _) (.cons (.nil _ _ _) (.cons (.nil _ _ _) (.cons (.refl _) .nil)))) rfl
theorem Cu{z:Int}(h:aa .geq z 0=true):0<=z:=of_decide_eq_true h
theorem HZ{z:Int}(h:aa .geq z 0=false):¬0<=z:=of_decide_eq_false h
theorem uD{a b c:Int}:cond (cond (aa .geq a 0) (aa .geq b 0) false) (aa .geq c 0) false=(decide (0<=a)&&decide (0<=b)&&decide (0<=c)):=by
 have e:∀z:Int,aa .geq z 0=decide (0<=z):=fun z=>rfl
 rw[e,e,e,iH,iH]
theorem C2{a b:Int}:cond (aa .lss a 0) true (aa .lss b 0)=!(decide (0<=a)&&decide (0<=b)):=by
 have e:∀z:Int,aa .lss z 0=!decide (0<=z):=fun z=>by rw[<- decide_not];exact decide_eq_decide.2 oz
 rw[e,e,io,Bool.not_and]
theorem GP{a b:Int}(h:cond (aa .lss a 0) true (aa .lss b 0)=true):(decide (0<=a)&&decide (0<=b))=false:=by rw[C2]at h;exact di h
theorem CD{a b:Int}(h:cond (aa .lss a 0) true (aa .lss b 0)=false):0<=a/\0<=b:=by
 rw[C2]at h;have:=dr h;simpa using this
structure TieO(l:Li)(kind:Int)(bs:List Int)(z b:Int)(j:Jt):Prop where
  hz:0<=z
  hj:l.jo[z.toNat]?=some j
  kd:j.kind=kind
  tie:(j.a=b/\j.b∉bs)\/(j.b=b/\j.a∉bs)
inductive DyK(l:Li):Gr->Prop where
  |drv {b z d:Int} {j:Jt} {x:Dr} (t:TieO l 0 [b] z b j) (d0:0<=d) (hd:l.dv[d.toNat]?=some x) (hb:x.body=b):DyK l ⟨0,[b],[z],d⟩
  |rrr {i k z0 z1 z2:Int} {j0 j1 j2:Jt} (ne:i≠k) (t0:TieO l 0 [i,k] z0 i j0) (t1:TieO l 0 [i,k] z1 k j1) (h0:0<=z2) (h2:l.jo[z2.toNat]?=some j2) (kd:j2.kind=0)
      (tie:(j2.a=i/\j2.b=k)\/(j2.b=i/\j2.a=k)):DyK l ⟨1,[i,k],[z0,z1,z2],0⟩
  |pr {i z0 z1:Int} {j0 j1:Jt} (t0:TieO l 0 [i] z0 i j0) (t1:TieO l 1 [i] z1 i j1) (ha:j1.a=i):DyK l ⟨2,[i],[z0,z1],0⟩
  |rp {i z0 z1:Int} {j0 j1:Jt} (t0:TieO l 0 [i] z0 i j0) (t1:TieO l 1 [i] z1 i j1) (ha:j1.a≠i):DyK l ⟨3,[i],[z0,z1],0⟩
theorem GM{l:Li}{kind b:Int}{oth:List Bool}(h:0<=b7 l kind b oth) :
  ∃(i:Nat)(j:Jt),b7 l kind b oth=(i:Int)/\l.jo[i]?=some j/\j.kind=kind/\((j.a=b/\kn oth j.b=true)\/(j.b=b/\kn oth j.a=true)):=by
 unfold b7 at h ⊢;cases hf:df l.jo.length (fun i=>!kI kind b oth (l.jo.getD i default))with
 |none=>rw[hf]at h;exact absurd h (by decide)
 |some i =>
  obtain⟨h1,h2⟩:=fN hf;obtain⟨j,hj⟩:=az h1;rw[aO hj]at h2;unfold kI at h2;simp only[Bool.not_eq_false',and_eq_true,or_eq_true,decide_eq_true_eq]at h2;exact⟨i,j,rfl,hj,h2.1,h2.2⟩
theorem tO{l:Li}{kind b:Int}{kw:List Bool}{bs:List Int}(hb:∀x∈bs,kn kw x=false)(h:0<=b7 l kind b kw):∃j,TieO l kind bs (b7 l kind b kw) b j:=by
 obtain⟨i,j,e,hj,hk,ht⟩:=GM h;have hn:∀x,kn kw x=true->x∉bs:=fun x hx hm=>by rw[hb x hm]at hx;cases hx
 refine⟨j,h,by rw[e,toNat_natCast];exact hj,hk,?_⟩;rcases ht with⟨h1,h2⟩ |⟨h1,h2⟩
 ·exact .inl ⟨h1,hn _ h2⟩
 ·exact .inr ⟨h1,hn _ h2⟩
theorem xm{l:Li}{kw:List Bool}{b:Int}(h:ef l kw b=true):kn kw b=false:=by
 unfold ef at h;simp only[and_eq_true,Bool.not_eq_true']at h;exact h.1
theorem AH{kw:List Bool}{b:Int}(h:kn kw b=false):∀x∈[b],kn kw x=false:=fun x hx=>by rw[List.mem_singleton.1 hx];exact h
theorem M6{l:Li}(hl:aG l=0){kw:List Bool}{g:Gr}(h:dA l kw=some g):DyK l g:=by
 unfold dA at h;rw[map_eq_some_iff]at h;obtain⟨i,hi,rfl⟩:=h;obtain⟨h1,h2⟩:=fN hi;obtain⟨d,hd⟩:=az h1;unfold fO at h2;simp only[Bool.not_eq_false',and_eq_true,decide_eq_true_eq,Bool.not_eq_true']at h2;rw[aO hd]at h2 ⊢;obtain⟨j,hj⟩:=tO (AH h2.1) h2.2;exact .drv hj oz (by rw[toNat_natCast];exact hd) rfl
theorem ME{l:Li}(hl:aG l=0){kw:List Bool}{g:Gr}(h:cT l kw=some g):DyK l g:=by
 unfold cT at h;rw[map_eq_some_iff]at h;obtain⟨i,hi,h⟩:=h;obtain⟨h1,h2⟩:=fN hi;split at h
 ·rename_i k hk;subst h;unfold gB at hk;rw [map_eq_some_iff] at hk;obtain ⟨k',hk',rfl⟩:=hk;obtain ⟨h3,h4⟩:=fN hk';rw [show i + 1 + k' = k' + (i + 1) by omega] at h4;unfold dz at h4;simp only [Bool.not_eq_false',and_eq_true,decide_eq_true_eq] at h4;obtain ⟨⟨f1,f2⟩,⟨j1,j2⟩,j3⟩:=h4
  have hb:∀x∈[(i:Int),((k'+(i+1):Nat):Int)],kn kw x=false:=fun x hx=>by
   simp only[mem_cons,not_mem_nil,or_false]at hx;rcases hx with rfl |rfl
   ·exact xm f1
   ·exact xm f2
  obtain⟨a0,t0⟩:=tO hb j1;obtain⟨a1,t1⟩:=tO hb j2;obtain⟨n,a2,e,hj,hkd,ht⟩:=GM j3;obtain⟨i1,i2,_⟩:=dm hl hj;have i1:=(eK i1).1;have i2:=(eK i2).1;refine .rrr oz t0 t1 j3 (by rw[e,toNat_natCast];exact hj) hkd ?_;rcases ht with⟨e1,e2⟩ |⟨e1,e2⟩
  ·rw[vd i2 oz oz]at e2;exact .inl ⟨e1,of_decide_eq_true e2⟩
  ·rw[vd i1 oz oz]at e2;exact .inr ⟨e1,of_decide_eq_true e2⟩
 ·rename_i hk;rw[hk]at h2;cases h2
theorem JD{l:Li}{kw:List Bool}{g:Gr}(h:eO l kw=some g):DyK l g:=by
 unfold eO at h;rw[map_eq_some_iff]at h;obtain⟨i,hi,rfl⟩:=h;obtain⟨h1,h2⟩:=fN hi;unfold fL at h2;simp only[Bool.not_eq_false',and_eq_true,decide_eq_true_eq]at h2;obtain⟨f1,j1,j2⟩:=h2;obtain⟨a0,t0⟩:=tO (AH (xm f1)) j1;obtain⟨a1,t1⟩:=tO (AH (xm f1)) j2;unfold jh;rw[aO t1.hj]
 by_cases e:a1.a=i
 ·rw[VQ e];exact .pr t0 t1 e
 ·rw[VP e];exact .rp t0 t1 e
theorem O0{l:Li}(hl:aG l=0){kw:List Bool}{g:Gr}(h:cq l kw=some g):DyK l g:=by
 unfold cq at h;cases h1:dA l kw with
 |some g'=>rw[h1]at h;cases h;exact M6 hl h1
 |none =>
  rw[h1]at h;cases h2:cT l kw with
  |some g'=>rw[h2]at h;cases h;exact ME hl h2
  |none=>rw[h2]at h;exact JD h
theorem EW{l:Li}(hl:aG l=0):∀(n:Nat)(kw:List Bool)(out:List Gr),(∀g∈out,DyK l g)->∀g∈(cJ l n kw out).2,DyK l g
 |0,kw,out,h=>h
 |n+1,kw,out,h=>by
  unfold cJ;cases hg:cq l kw with
  |none=>exact h
  |some g=>exact EW hl n (bE kw g.bo) (out++[g]) (fun x hx=>by
    rcases List.mem_append.1 hx with hx |hx
    ·exact h x hx
    ·rw[List.mem_singleton.1 hx];exact O0 hl hg)
theorem nV{l:Li}(hl:aG l=0){g:Gr}(h:g∈aK l):DyK l g/\GrOk l g:=by
 unfold aK at h;split at h
 ·exact⟨EW hl _ _ _ (fun g hg=>by cases hg) g h,(sk hl).1 g h⟩
 ·cases h
open Lean.Grind
def E(r:(k:Nat)->T k)(n:Nat):Type:=T n
namespace T
theorem ofQ_zero:∀n,ofQ n 0=zero n
 |0=>rfl
 |n+1=>by simp only[ofQ,zero,ofQ_zero n]
theorem ofQ_add:∀n (p q:Rat),ofQ n (p+q)=add n (ofQ n p) (ofQ n q)
 |0,p,q=>rfl
 |n+1,p,q=>by simp only[ofQ,add,ofQ_add n,add_zero]
theorem ofQ_neg:∀n (p:Rat),ofQ n (-p)=neg n (ofQ n p)
 |0,p=>rfl
 |n+1,p=>by simp only[ofQ,neg,ofQ_neg n,neg_zero]
end T
structure Laws(r:(k:Nat)->T k)(n:Nat):Prop where
  assoc:∀x y z,T.mul r n (T.mul r n x y) z=T.mul r n x (T.mul r n y z)
  dist:∀x y z,T.mul r n x (T.add n y z)=T.add n (T.mul r n x y) (T.mul r n x z)
  one:∀x,T.mul r n (T.ofQ n 1) x=x
theorem T.neg_mul'{r:(k:Nat)->T k}{n:Nat}(h:Laws r n)(x y:T n):T.mul r n (T.neg n x) y=T.neg n (T.mul r n x y):=by
 have h1:T.add n (T.mul r n x y) (T.mul r n (T.neg n x) y)=T.zero n:=by
  rw[T.mul_comm r n x,T.mul_comm r n (T.neg n x),<- h.dist,T.add_neg,T.mul_zero]
 have h2:=congrArg (fun z=>T.add n (T.neg n (T.mul r n x y)) z) h1;simp only[T.add_zero]at h2;rw[<- T.add_assoc,T.add_comm n (T.neg n _),T.add_neg,T.zero_add]at h2;exact h2
theorem T.mul_addr{r:(k:Nat)->T k}{n:Nat}(h:Laws r n)(a b c:T n):T.mul r n (T.add n a b) c=T.add n (T.mul r n a c) (T.mul r n b c):=by
 rw[T.mul_comm r n _ c,h.dist,T.mul_comm r n c,T.mul_comm r n c]
instance (r:(k:Nat)->T k)(n:Nat):Add (E r n):=⟨T.add n⟩
instance (r:(k:Nat)->T k)(n:Nat):Mul (E r n):=⟨T.mul r n⟩
instance (r:(k:Nat)->T k)(n:Nat):Neg (E r n):=⟨T.neg n⟩
instance (r:(k:Nat)->T k)(n:Nat):_root_.Sub (E r n):=⟨fun x y=>T.add n x (T.neg n y)⟩
instance (r:(k:Nat)->T k)(n c:Nat):OfNat (E r n) c:=⟨T.ofQ n (c:Rat)⟩
instance (r:(k:Nat)->T k)(n:Nat):NatCast (E r n):=⟨fun c=>T.ofQ n (c:Rat)⟩
instance (r:(k:Nat)->T k)(n:Nat):IntCast (E r n):=⟨fun c=>T.ofQ n (c:Rat)⟩
instance (r:(k:Nat)->T k)(n:Nat):SMul Nat (E r n):=⟨fun c x=>T.mul r n (T.ofQ n (c:Rat)) x⟩
instance (r:(k:Nat)->T k)(n:Nat):SMul Int (E r n):=⟨fun c x=>T.mul r n (T.ofQ n (c:Rat)) x⟩
def E.pow{r:(k:Nat)->T k}{n:Nat}(x:E r n):Nat->E r n
  |0=>T.ofQ n 1
  |c+1=>T.mul r n (E.pow x c) x
instance (r:(k:Nat)->T k)(n:Nat):HPow (E r n) Nat (E r n):=⟨E.pow⟩
@[reducible] def Laws.ring {r:(k:Nat)->T k} {n:Nat} (h:Laws r n):CommRing (E r n) where
  add_zero a:=by
    show T.add n a (T.ofQ n ((0:Nat):Rat))=a;rw[show(((0:Nat):Rat))=0 from rfl,T.ofQ_zero];exact T.add_zero n a
  add_comm a b:=T.add_comm n a b
  add_assoc a b c:=T.add_assoc n a b c
  mul_assoc a b c:=h.assoc a b c
  mul_one a:=(T.mul_comm r n a _).trans (h.one a)
  one_mul a:=h.one a
  left_distrib a b c:=h.dist a b c
  right_distrib a b c:=T.mul_addr h a b c
  zero_mul a:=by
    show T.mul r n (T.ofQ n ((0:Nat):Rat)) a=T.ofQ n ((0:Nat):Rat);rw[show(((0:Nat):Rat))=0 from rfl,T.ofQ_zero];exact T.zero_mul r n a
  mul_zero a:=by
    show T.mul r n a (T.ofQ n ((0:Nat):Rat))=T.ofQ n ((0:Nat):Rat);rw[show(((0:Nat):Rat))=0 from rfl,T.ofQ_zero];exact T.mul_zero r n a
  pow_zero a:=rfl
  pow_succ a c:=rfl
  ofNat_succ c:=by
    show T.ofQ n ((c+1:Nat):Rat)=T.add n (T.ofQ n (c:Rat)) (T.ofQ n ((1:Nat):Rat));rw[<- T.ofQ_add];congr 1;exact Rat.natCast_add c 1
  ofNat_eq_natCast c:=rfl
  nsmul_eq_natCast_mul c a:=rfl
  neg_add_cancel a:=(T.add_comm n (T.neg n a) a).trans ((T.add_neg n a).trans (T.ofQ_zero n).symm)
  sub a b:=T.add n a (T.neg n b)
  sub_eq_add_neg a b:=rfl
  neg_zsmul i a:=(congrArg (fun z=>T.mul r n z a) (show T.ofQ n ((-i:Int):Rat)=T.neg n (T.ofQ n (i:Rat)) by rw[Rat.intCast_neg,T.ofQ_neg])).trans (T.neg_mul' h _ a)
  zsmul_natCast_eq_nsmul c a:=rfl
  intCast_ofNat c:=rfl
  intCast_neg i:=by
    show T.ofQ n ((-i:Int):Rat)=T.neg n (T.ofQ n (i:Rat));rw[Rat.intCast_neg,T.ofQ_neg]
  mul_comm a b:=T.mul_comm r n a b
section
variable{R:Type}[CommRing R](x y u v p q d:R)
theorem Np:(x*u+y*v*d)*p+(x*v+y*u)*q*d=x*(u*p+v*q*d)+y*(u*q+v*p)*d:=by grind
theorem S0:(x*u+y*v*d)*q+(x*v+y*u)*p=x*(u*q+v*p)+y*(u*p+v*q*d):=by grind
theorem Lt:x*(u+p)+y*(v+q)*d=(x*u+y*v*d)+(x*p+y*q*d):=by grind
theorem Tm:x*(v+q)+y*(u+p)=(x*v+y*u)+(x*q+y*p):=by grind
end
theorem nW(r:(k:Nat)->T k):∀n,Laws r n
 |0=>⟨fun x y z=>Rat.mul_assoc x y z,fun x y z=>Rat.mul_add x y z,fun x=>Rat.one_mul x⟩
 |n+1=>by
  have I:=(nW r n).ring;have h1:=(nW r n).one;refine⟨?_,?_,?_⟩
  ·rintro⟨x,y⟩ ⟨u,v⟩ ⟨p,q⟩;exact Prod.ext (@Np (E r n) (nW r n).ring x y u v p q (r n)) (@S0 (E r n) (nW r n).ring x y u v p q (r n))
  ·rintro⟨x,y⟩ ⟨u,v⟩ ⟨p,q⟩;exact Prod.ext (@Lt (E r n) (nW r n).ring x y u v p q (r n)) (@Tm (E r n) (nW r n).ring x y u v p q)
  ·rintro⟨u,v⟩;refine Prod.ext ?_ ?_
   ·show T.add n (T.mul r n (T.ofQ n 1) u) (T.mul r n (T.mul r n (T.zero n) v) (r n))=u;rw[h1,T.zero_mul,T.zero_mul,T.add_zero]
   ·show T.add n (T.mul r n (T.ofQ n 1) v) (T.mul r n (T.zero n) u)=v;rw[h1,T.zero_mul,T.add_zero]
instance eRing(r:(k:Nat)->T k)(n:Nat):CommRing (E r n):=(nW r n).ring
structure Sg(R:Type)[CommRing R](s:R->Int):Prop where
  cs:∀x,s x=-1\/s x=0\/s x=1
  one:s 1=1
  neg:∀x,s (-x)=-s x
  mul:∀x y,s (x*y)=s x*s y
  add:∀x y,0<=s x->0<=s y->0<=s (x+y)
namespace Sg
variable{R:Type}[CommRing R]{s:R->Int}
theorem zero(h:Sg R s):s 0=0:=by
 have h1:=h.neg 0;rw[show -(0:R)=0 by grind]at h1;omega
theorem zadd(h:Sg R s){x y:R}(hx:s x=0):s (x+y)=s y:=by
 have h1:=h.cs y;have h2:=h.cs (x+y);have n1:=h.neg x;have n2:=h.neg y;have n3:=h.neg (x+y);have a1:=h.add x y;have a2:=h.add (-x) (-y);have a3:=h.add (-x) (x+y);have a4:=h.add x (-(x+y));rw[show -x+-y=-(x+y) by grind]at a2;rw[show -x+(x+y)=y by grind]at a3;rw[show x+-(x+y)=-y by grind]at a4;omega
theorem padd(h:Sg R s){x y:R}(hx:s x=1)(hy:0<=s y):s (x+y)=1:=by
 have h2:=h.cs (x+y);have a1:=h.add x y;have n2:=h.neg y;have n3:=h.neg (x+y);have a4:=h.add (-(x+y)) y;have e:-(x+y)+y=-x:=by grind
 have n1:=h.neg x;rw[e]at a4;rcases h2 with h2 |h2 |h2
 ·omega
 ·have:=h.zadd (x:=-(x+y)) (y:=y) oz;rw[e]at this;omega
 ·exact h2
theorem sq(h:Sg R s)(x:R):0<=s (x*x):=by
 rw[h.mul];rcases h.cs x with e |e |e <;> rw[e] <;> decide
theorem sqle(h:Sg R s){a b:R}(ha:0<=s a)(hb:0<=s (a*a-b*b)):0<=s (a+b):=by
 have c1:=h.cs (a+b);rcases c1 with c1 |c1 |c1
 ·exfalso;have n1:=h.neg (a+b);have p1:s (-(a+b)+a)=1:=h.padd oz ha;rw[show -(a+b)+a=-b by grind]at p1;have p2:s (-b+a)=1:=h.padd p1 ha;have m:=h.mul (-b+a) (a+b);rw[show(-b+a)*(a+b)=a*a-b*b by grind,p2,c1]at m;omega
 ·omega
 ·omega
theorem cancel(h:Sg R s){p x:R}(hp:s p=1)(hx:0<=s (p*x)):0<=s x:=by
 rw[h.mul,hp]at hx;omega
end Sg
def dI{r:(k:Nat)->T k}{n:Nat}(x y:E r n):E r (n+1):=((x,y):T n×T n)
def sg(r:(k:Nat)->T k)(n:Nat)(x:E r n):Int:=T.sgn r n x
def bC(r:(k:Nat)->T k)(n:Nat):E r n:=r n
variable{r:(k:Nat)->T k}{n:Nat}
theorem jS(z:E r (n+1)):∃x y:E r n,z=dI x y:=⟨z.1,z.2,rfl⟩
theorem zy(x y u v:E r n):dI x y+dI u v=dI (x+u) (y+v):=rfl
theorem NJ(x y:E r n):-dI x y=dI (-x) (-y):=rfl
theorem p4(x y u v:E r n):dI x y*dI u v=dI (x*u+y*v*bC r n) (x*v+y*u):=rfl
theorem E.zero_def:(0:E r n)=T.zero n:=T.ofQ_zero n
theorem Kj:(1:E r (n+1))=dI 1 0:=by
 show T.ofQ (n+1) ((1:Nat):Rat)=(T.ofQ n ((1:Nat):Rat),T.ofQ n ((0:Nat):Rat));rw[show(((0:Nat):Rat))=0 from rfl,T.ofQ_zero];rfl
def a5(x y:E r n):E r n:=x*x+-(y*y*bC r n)
theorem kF(x y:E r n):sg r (n+1) (dI x y)=T.sgn3 (sg r n x) (sg r n y) (sg r n (bC r n)) (sg r n (a5 x y)):=rfl
def PE(x y:E r n):Prop:=(0<=sg r n x/\0<=sg r n (a5 x y))\/(0<=sg r n y/\0 <= -sg r n (a5 x y))
theorem ph(h:Sg (E r n) (sg r n))(hd:sg r n (bC r n)=1)(x y:E r n):0<=sg r (n+1) (dI x y)↔PE x y:=by
 rw[kF,hd];unfold PE
 have f1:sg r n y=0->sg r n (a5 x y)=sg r n x*sg r n x:=by
  intro hy;have h1:sg r n (-(y*y*bC r n))=0:=by rw[h.neg,h.mul,h.mul,hy];simp
  have:=h.zadd (y:=x*x) h1;unfold a5;rw[show x*x+-(y*y*bC r n)=-(y*y*bC r n)+x*x by grind,this,h.mul]
 have f2:sg r n x=0->sg r n (a5 x y)=-(sg r n y*sg r n y):=by
  intro hx;have h1:sg r n (x*x)=0:=by rw[h.mul,hx];simp
  have:=h.zadd (y:=-(y*y*bC r n)) h1;unfold a5;rw[this,h.neg,h.mul,h.mul,hd];simp
 have c1:=h.cs x;have c2:=h.cs y;have c3:=h.cs (a5 x y)
 revert f1 f2 c1 c2 c3
 generalize sg r n x=a;generalize sg r n y=b;generalize sg r n (a5 x y)=c;intro f1 f2 c1 c2 c3;rcases c1 with rfl |rfl |rfl <;> rcases c2 with rfl |rfl |rfl <;> rcases c3 with rfl |rfl |rfl <;> first |decide |(exfalso;revert f1 f2;decide)
theorem QP(h:Sg (E r n) (sg r n))(hd:sg r n (bC r n)=1){x y u v:E r n}(h1:PE x y)(h2:PE u v):PE (x*u+y*v*bC r n) (x*v+y*u):=by
 have nm:a5 (x*u+y*v*bC r n) (x*v+y*u)=a5 x y*a5 u v:=by unfold a5;grind
 have hn:=h.mul (a5 x y) (a5 u v);have d0:0<=sg r n (bC r n):=by omega
 unfold PE;rw[nm,hn];rcases h1 with⟨a1,a2⟩ |⟨a1,a2⟩ <;> rcases h2 with⟨b1,b2⟩ |⟨b1,b2⟩
 ·refine .inl ⟨h.sqle ?_ ?_,Int.mul_nonneg a2 b2⟩
  ·rw[h.mul];exact Int.mul_nonneg a1 b1
  ·have e : x * u * (x * u) - y * v * bC r n * (y * v * bC r n) = a5 x y * (u * u) + y * y * bC r n * a5 u v := by unfold a5; grind
   rw[e];refine h.add _ _ ?_ ?_
   ·rw[h.mul];exact Int.mul_nonneg a2 (h.sq u)
   ·rw[h.mul,h.mul];exact Int.mul_nonneg (Int.mul_nonneg (h.sq y) d0) b2
 ·refine .inr ⟨h.sqle ?_ ?_,?_⟩
  ·rw[h.mul];exact Int.mul_nonneg a1 b1
  ·have e : x * v * (x * v) - y * u * (y * u) = a5 x y * (v * v) + y * y * -a5 u v := by unfold a5; grind
   rw[e];refine h.add _ _ ?_ ?_
   ·rw[h.mul];exact Int.mul_nonneg a2 (h.sq v)
   ·rw[h.mul,h.neg];exact Int.mul_nonneg (h.sq y) b2
  ·rw[<- Int.mul_neg];exact Int.mul_nonneg a2 b2
 ·refine .inr ⟨?_,?_⟩
  ·rw [show x * v + y * u = y * u + x * v by grind];refine h.sqle ?_ ?_
   ·rw[h.mul];exact Int.mul_nonneg a1 b1
   ·have e : y * u * (y * u) - x * v * (x * v) = a5 u v * (y * y) + v * v * -a5 x y := by unfold a5; grind
    rw[e];refine h.add _ _ ?_ ?_
    ·rw[h.mul];exact Int.mul_nonneg b2 (h.sq y)
    ·rw[h.mul,h.neg];exact Int.mul_nonneg (h.sq v) a2
  ·rw[<- Int.neg_mul];exact Int.mul_nonneg a2 b2
 ·refine .inl ⟨?_,?_⟩
  ·rw [show x * u + y * v * bC r n = y * v * bC r n + x * u by grind];refine h.sqle ?_ ?_
   ·rw[h.mul,h.mul];exact Int.mul_nonneg (Int.mul_nonneg a1 b1) d0
   ·have e : y * v * bC r n * (y * v * bC r n) - x * u * (x * u) = -a5 x y * (v * v * bC r n) + x * x * -a5 u v := by unfold a5; grind
    rw[e];refine h.add _ _ ?_ ?_
    ·rw[h.mul,h.neg,h.mul];exact Int.mul_nonneg a2 (Int.mul_nonneg (h.sq v) d0)
    ·rw[h.mul,h.neg];exact Int.mul_nonneg (h.sq x) b2
  ·rw[<- Int.neg_mul_neg];exact Int.mul_nonneg a2 b2
theorem DX(h:Sg (E r n) (sg r n))(hd:sg r n (bC r n)=1){x y u v:E r n}(a1:0<=sg r n x)(a2:0<=sg r n (a5 x y))(b1:0<=sg r n v)(b2:0 <= -sg r n (a5 u v)):PE (x+u) (y+v):=by
  have cX:=h.cs (x+u);have cY:=h.cs (y+v);have cN:=h.cs (a5 (x+u) (y+v));unfold PE
  by_cases hX:0<=sg r n (x+u)
  · by_cases hN:0<=sg r n (a5 (x+u) (y+v))
    · exact .inl ⟨hX,hN⟩
    · by_cases hY:0<=sg r n (y+v)
      · exact .inr ⟨hY,by omega⟩
      · -- Y < 0: then N is at least 0
        exfalso;have hY':sg r n (-(y+v))=1:=by rw[h.neg];omega
        have ny:sg r n (-y)=1:=by
          have:=h.padd hY' b1
          rwa [show -(y+v)+v=-y by grind]at this
        have k1:0<=sg r n (x*v+y*u):=by
          refine h.sqle (by rw[h.mul];exact Int.mul_nonneg a1 b1) ?_;have e:x*v*(x*v)-y*u*(y*u)=a5 x y*(v*v)+y*y*-a5 u v:=by unfold a5;grind
          rw[e];refine h.add _ _ ?_ ?_
          · rw[h.mul];exact Int.mul_nonneg a2 (h.sq v)
          · rw[h.mul,h.neg];exact Int.mul_nonneg (h.sq y) b2
        have k2:0<=sg r n (x*v+-(y*u)):=by
          refine h.sqle (by rw[h.mul];exact Int.mul_nonneg a1 b1) ?_;have e:x*v*(x*v) - -(y*u)*-(y*u)=a5 x y*(v*v)+y*y*-a5 u v:=by unfold a5;grind
          rw[e];refine h.add _ _ ?_ ?_
          · rw[h.mul];exact Int.mul_nonneg a2 (h.sq v)
          · rw[h.mul,h.neg];exact Int.mul_nonneg (h.sq y) b2
        have k3:0<=sg r n (-y*(x+u)-x*-(y+v)):=by
          rw[show -y*(x+u)-x*-(y+v)=x*v+-(y*u) by grind];exact k2
        have k4:0<=sg r n (-y*(x+u)+x*-(y+v)):=by
          rw[show -y*(x+u)+x*-(y+v)=(-y*(x+u)-x*-(y+v))+(x*-(y+v)+x*-(y+v)) by grind];refine h.add _ _ k3 (h.add _ _ ?_ ?_) <;> (rw[h.mul,hY'];omega)
        have k5:0<=sg r n ((y*y)*a5 (x+u) (y+v)):=by
          have e:(y*y)*a5 (x+u) (y+v)=(-y*(x+u)-x*-(y+v))*(-y*(x+u)+x*-(y+v))+a5 x y*(-(y+v)*-(y+v)):=by unfold a5;grind
          rw[e];refine h.add _ _ (by rw[h.mul];exact Int.mul_nonneg k3 k4) (by rw[h.mul];exact Int.mul_nonneg a2 (h.sq _))
        have k6 := h.cancel (by rw [h.mul]; rw [h.neg] at ny; have : sg r n y = -1 := by omega
                                rw[this];rfl) k5
        exact hN k6
  · have hX' : sg r n (-(x + u)) = 1 := by rw [h.neg]; omega
    have nu:sg r n (-u)=1:=by
      have:=h.padd hX' a1
      rwa [show -(x+u)+x=-u by grind]at this
    have su:sg r n u=-1:=by rw[h.neg]at nu;omega
    have hv:sg r n v=1:=by
      rcases h.cs v with e |e |e
      · omega
      · exfalso
        have h1:sg r n (-(v*v*bC r n))=0:=by rw[h.neg,h.mul,h.mul,e];simp
        have:=h.zadd (y:=u*u) h1;rw[show -(v*v*bC r n)+u*u=a5 u v by unfold a5;grind,h.mul,su]at this;omega
      · exact e
    have k1:0<=sg r n (x*v+y*-u):=by
      refine h.sqle (by rw[h.mul];exact Int.mul_nonneg a1 b1) ?_;have e:x*v*(x*v)-y*-u*(y*-u)=a5 x y*(v*v)+y*y*-a5 u v:=by unfold a5;grind
      rw[e];refine h.add _ _ ?_ ?_
      · rw[h.mul];exact Int.mul_nonneg a2 (h.sq v)
      · rw[h.mul,h.neg];exact Int.mul_nonneg (h.sq y) b2
    have k3:0<=sg r n (-u*(y+v)-v*-(x+u)):=by
      rw[show -u*(y+v)-v*-(x+u)=x*v+y*-u by grind];exact k1
    have k4:0<=sg r n (v*-(x+u)):=by rw[h.mul,hv,hX'];decide
    have kY:0<=sg r n (y+v):=by
      refine h.cancel nu ?_;rw[show -u*(y+v)=(-u*(y+v)-v*-(x+u))+v*-(x+u) by grind];exact h.add _ _ k3 k4
    refine .inr ⟨kY,?_⟩
    have k5:0<=sg r n ((v*v)*-a5 (x+u) (y+v)):=by
      have e:(v*v)*-a5 (x+u) (y+v)=(-u*(y+v)-v*-(x+u))*(-u*(y+v)+v*-(x+u))+-a5 u v*((y+v)*(y+v)):=by unfold a5;grind
      rw[e];have k6:0<=sg r n (-u*(y+v)+v*-(x+u)):=h.add _ _ (by rw[h.mul,nu];omega) k4;refine h.add _ _ (by rw[h.mul];exact Int.mul_nonneg k3 k6) (by rw[h.mul,h.neg];exact Int.mul_nonneg b2 (h.sq _))
    have k7:=h.cancel (by rw[h.mul,hv];rfl) k5
    rwa [h.neg]at k7
theorem Vh(h:Sg (E r n) (sg r n))(hd:sg r n (bC r n)=1){x y u v:E r n}(h1:PE x y)(h2:PE u v):PE (x+u) (y+v):=by
 have d0:0<=sg r n (bC r n):=by omega
 rcases h1 with⟨a1,a2⟩ |⟨a1,a2⟩ <;> rcases h2 with⟨b1,b2⟩ |⟨b1,b2⟩
 ·refine .inl ⟨h.add _ _ a1 b1,?_⟩
  have k:0<=sg r n (x*u+-(y*v*bC r n)):=by
   refine h.sqle (by rw[h.mul];exact Int.mul_nonneg a1 b1) ?_;have e:x*u*(x*u) - -(y*v*bC r n)*-(y*v*bC r n)=a5 x y*(u*u)+y*y*bC r n*a5 u v:=by unfold a5;grind
   rw[e];refine h.add _ _ ?_ ?_
   ·rw[h.mul];exact Int.mul_nonneg a2 (h.sq u)
   ·rw[h.mul,h.mul];exact Int.mul_nonneg (Int.mul_nonneg (h.sq y) d0) b2
  rw[show a5 (x+u) (y+v)=(a5 x y+a5 u v)+((x*u+-(y*v*bC r n))+(x*u+-(y*v*bC r n))) by unfold a5;grind];exact h.add _ _ (h.add _ _ a2 b2) (h.add _ _ k k)
 ·exact DX h hd a1 a2 b1 b2
 ·rw[show x+u=u+x by grind,show y+v=v+y by grind];exact DX h hd b1 b2 a1 a2
 ·refine .inr ⟨h.add _ _ a1 b1,?_⟩
  have k:0<=sg r n (y*v*bC r n+-(x*u)):=by
   refine h.sqle (by rw[h.mul,h.mul];exact Int.mul_nonneg (Int.mul_nonneg a1 b1) d0) ?_;have e:y*v*bC r n*(y*v*bC r n) - -(x*u)*-(x*u)=-a5 x y*(v*v*bC r n)+x*x*-a5 u v:=by unfold a5;grind
   rw[e];refine h.add _ _ ?_ ?_
   ·rw[h.mul,h.neg,h.mul];exact Int.mul_nonneg a2 (Int.mul_nonneg (h.sq v) d0)
   ·rw[h.mul,h.neg];exact Int.mul_nonneg (h.sq x) b2
  have k2:0<=sg r n (-a5 (x+u) (y+v)):=by
   rw[show -a5 (x+u) (y+v)=(-a5 x y+-a5 u v)+((y*v*bC r n+-(x*u))+(y*v*bC r n+-(x*u))) by unfold a5;grind];exact h.add _ _ (h.add _ _ (by rw[h.neg];exact a2) (by rw[h.neg];exact b2)) (h.add _ _ k k)
  rwa [h.neg]at k2
theorem RY(a b c d:Int):T.sgn3 (-a) (-b) c d=-T.sgn3 a b c d:=by
 unfold T.sgn3;have e:(-a=-b \/ -b=0)↔(a=b\/b=0):=by omega
 simp only[e];split
 ·rfl
 ·split
  ·rfl
  ·by_cases h:a=0
   ·rw[VQ oz,VQ h]
   ·rw[VP oz,VP h,Int.neg_mul]
theorem Ld(h:Sg (E r n) (sg r n))(hd:0<=sg r n (bC r n)):Sg (E r (n+1)) (sg r (n+1)):=by
 have hcs:∀z:E r (n+1),sg r (n+1) z=-1\/sg r (n+1) z=0\/sg r (n+1) z=1:=fun z=>T.sgn_cases r (n+1) z
 have hone:sg r (n+1) 1=1:=by
  rw[Kj,kF,h.one,h.zero];unfold T.sgn3;split
  ·rfl
  ·simp
 have hneg:∀z:E r (n+1),sg r (n+1) (-z)=-sg r (n+1) z:=by
  intro z;obtain⟨x,y,rfl⟩:=jS z;rw[NJ,kF,kF,h.neg,h.neg,show a5 (-x) (-y)=a5 x y by unfold a5;grind,RY]
 by_cases hd0:sg r n (bC r n)=0
 ·have e0:∀x y:E r n,sg r (n+1) (dI x y)=sg r n x:=by
   intro x y;rw[kF,hd0];unfold T.sgn3;rw[VQ rfl]
  refine⟨hcs,hone,hneg,?_,?_⟩
  ·intro z w;obtain ⟨x,y,rfl⟩:=jS z;obtain ⟨u,v,rfl⟩:=jS w;rw [p4,e0,e0,e0];have h1:sg r n (y * v * bC r n) = 0:=by rw [h.mul,hd0]; simp
   have:=h.zadd (y:=x*u) h1;rw[show x*u+y*v*bC r n=y*v*bC r n+x*u by grind,this,h.mul]
  ·intro z w;obtain⟨x,y,rfl⟩:=jS z;obtain⟨u,v,rfl⟩:=jS w;rw[zy,e0,e0,e0];exact h.add x u
 ·have hd1 : sg r n (bC r n) = 1 := by rcases h.cs (bC r n) with e | e | e <;> omega
  have hadd:∀z w:E r (n+1),0<=sg r (n+1) z->0<=sg r (n+1) w->0<=sg r (n+1) (z+w):=by
   intro z w;obtain⟨x,y,rfl⟩:=jS z;obtain⟨u,v,rfl⟩:=jS w;rw[zy,ph h hd1,ph h hd1,ph h hd1];exact Vh h hd1
  have hpm:∀z w:E r (n+1),0<=sg r (n+1) z->0<=sg r (n+1) w->0<=sg r (n+1) (z*w):=by
   intro z w;obtain⟨x,y,rfl⟩:=jS z;obtain⟨u,v,rfl⟩:=jS w;rw[p4,ph h hd1,ph h hd1,ph h hd1];exact QP h hd1
  have hzm:∀z w:E r (n+1),sg r (n+1) z=0->sg r (n+1) (w*z)=0:=by
   intro z w hz;have n1:=hneg z;have n2:=hneg w;have n3:=hneg (w*z);have m1:=hpm w z;have m2:=hpm w (-z);have m3:=hpm (-w) z;have m4:=hpm (-w) (-z);rw[show w*-z=-(w*z) by grind]at m2;rw[show -w*z=-(w*z) by grind]at m3;rw[show -w*-z=w*z by grind]at m4;rcases hcs w with e |e |e <;> omega
  have hsc:∀(a u v:E r n),sg r (n+1) (dI (a*u) (a*v))=sg r n a*sg r (n+1) (dI u v):=by
   intro a u v;rw[kF,kF,show a5 (a*u) (a*v)=a*a*a5 u v by unfold a5;grind,h.mul,h.mul,h.mul,h.mul,hd1]
   have f1:sg r n v=0->sg r n (a5 u v)=sg r n u*sg r n u:=by
    intro hy;have h1:sg r n (-(v*v*bC r n))=0:=by rw[h.neg,h.mul,h.mul,hy];simp
    have:=h.zadd (y:=u*u) h1;unfold a5;rw[show u*u+-(v*v*bC r n)=-(v*v*bC r n)+u*u by grind,this,h.mul]
   have c1:=h.cs u;have c2:=h.cs v;have c3:=h.cs (a5 u v);have c4:=h.cs a
   revert c1 c2 c3 c4
   generalize sg r n u=a1;generalize sg r n v=b1;generalize sg r n (a5 u v)=c1;generalize sg r n a=e1;intro c1 c2 c3 c4;rcases c1 with rfl |rfl |rfl <;> rcases c2 with rfl |rfl |rfl <;> rcases c3 with rfl |rfl |rfl <;> rcases c4 with rfl |rfl |rfl <;> decide
  have hpadd:∀z w:E r (n+1),sg r (n+1) z=1->0<=sg r (n+1) w->sg r (n+1) (z+w)=1:=by
   intro z w hz hw;have a1:=hadd z w oz hw;rcases hcs (z+w)with e |e |e
   ·omega
   ·exfalso;have n1:=hneg z;have n2:=hneg (z+w);have a2:=hadd (-(z+w)) w oz hw;rw[show -(z+w)+w=-z by grind]at a2;omega
   ·exact e
  have hpp:∀z w:E r (n+1),sg r (n+1) z=1->sg r (n+1) w=1->sg r (n+1) (z*w)=1:=by
   intro z w hz hw;obtain⟨x,y,rfl⟩:=jS z;obtain⟨u,v,rfl⟩:=jS w;have p0:=hpm _ _ (by omega:0<=sg r (n+1) (dI x y)) (by omega:0<=sg r (n+1) (dI u v));rcases hcs (dI x y*dI u v)with e |e |e
   ·omega
   ·exfalso
    by_cases hN:sg r n (a5 x y)=0
    ·have hxy:sg r n x=1/\sg r n y=1:=by
      rw[kF,hd1,hN]at hz
      have f1:sg r n y=0->sg r n (a5 x y)=sg r n x*sg r n x:=by
       intro hy;have h1:sg r n (-(y*y*bC r n))=0:=by rw[h.neg,h.mul,h.mul,hy];simp
       have:=h.zadd (y:=x*x) h1;unfold a5;rw[show x*x+-(y*y*bC r n)=-(y*y*bC r n)+x*x by grind,this,h.mul]
      have f2:sg r n x=0->sg r n (a5 x y)=-(sg r n y*sg r n y):=by
       intro hx;have h1:sg r n (x*x)=0:=by rw[h.mul,hx];simp
       have:=h.zadd (y:=-(y*y*bC r n)) h1;unfold a5;rw[this,h.neg,h.mul,h.mul,hd1];simp
      rw[hN]at f1 f2;have c1:=h.cs x;have c2:=h.cs y
      revert hz f1 f2 c1 c2
      generalize sg r n x=a;generalize sg r n y=b;intro hz f1 f2 c1 c2;rcases c1 with rfl |rfl |rfl <;> rcases c2 with rfl |rfl |rfl <;> revert hz f1 f2 <;> decide
     have k1:sg r (n+1) (dI (x*u) (x*v))=1:=by rw[hsc,hxy.1,hw];rfl
     have k2:0<=sg r (n+1) (dI 0 y):=by
      rw[kF,h.zero,hxy.2,hd1];unfold T.sgn3;simp
     have k3:=hpm _ _ k2 (by omega:0<=sg r (n+1) (dI u v));have k4:=hpadd _ _ k1 k3;rw[p4,zy]at k4;rw[p4]at e;rw[show x*u+(0*u+y*v*bC r n)=x*u+y*v*bC r n by grind,show x*v+(0*v+y*u)=x*v+y*u by grind]at k4;omega
    ·have k1:=hzm _ (dI x (-y)) e;rw[show dI x (-y)*(dI x y*dI u v)=dI (a5 x y*u) (a5 x y*v) by rw[p4,p4];unfold a5;congr 1 <;> grind,hsc,hw]at k1;omega
   ·exact e
  refine⟨hcs,hone,hneg,?_,hadd⟩;intro z w;rcases hcs w with e |e |e
  ·rcases hcs z with e' |e' |e'
   ·have := hpp (-z) (-w) (by rw[hneg];omega) (by rw[hneg];omega);rw[show -z*-w=z*w by grind]at this;rw[this,e,e'];rfl
   ·have:=hzm z w e';rw[show w*z=z*w by grind]at this;rw[this,e'];simp
   ·have := hpp z (-w) e' (by rw[hneg];omega);rw[show z*-w=-(z*w) by grind,hneg]at this;rw[e,e'];omega
  ·rw[hzm w z e,e];simp
  ·rcases hcs z with e' |e' |e'
   ·have := hpp (-z) w (by rw[hneg];omega) e;rw[show -z*w=-(z*w) by grind,hneg]at this;rw[e,e'];omega
   ·have:=hzm z w e';rw[show w*z=z*w by grind]at this;rw[this,e'];simp
   ·rw[hpp z w e' e,e,e'];rfl
theorem nJ(q:Rat):bI q=-1/\q<0\/bI q=0/\q=0\/bI q=1/\0<q:=by
 unfold bI;split
 ·exact .inl ⟨rfl,by assumption⟩
 ·split
  ·exact .inr (.inr ⟨rfl,by assumption⟩)
  ·exact .inr (.inl ⟨rfl,by grind⟩)
theorem yg{q:Rat}(h:0<q):bI q=1:=by
 rcases nJ q with⟨_,h'⟩ |⟨_,h'⟩ |⟨e,_⟩
 ·grind
 ·grind
 ·exact e
theorem Au{q:Rat}(h:q<0):bI q=-1:=by
 rcases nJ q with⟨e,_⟩ |⟨_,h'⟩ |⟨_,h'⟩
 ·exact e
 ·grind
 ·grind
theorem Ki(q:Rat):bI (-q)=-bI q:=by
 rcases nJ q with⟨e,h⟩ |⟨e,h⟩ |⟨e,h⟩
 ·rw[e,yg (by grind)];rfl
 ·rw[h];rfl
 ·rw[e,Au (by grind)]
theorem Tr(p q:Rat):bI (p*q)=bI p*bI q:=by
 have h0:bI 0=0:=rfl;rcases nJ p with⟨e,h⟩ |⟨e,h⟩ |⟨e,h⟩ <;> rcases nJ q with⟨e',h'⟩ |⟨e',h'⟩ |⟨e',h'⟩
 ·have := Rat.mul_pos (a := -p) (b := -q) (by grind) (by grind);rw[e,e',yg (by grind)];rfl
 ·rw[h',Rat.mul_zero,h0];simp
 ·have := Rat.mul_pos (a := -p) (b := q) (by grind) h';rw[e,e',Au (by grind)];rfl
 ·rw[h,Rat.zero_mul,h0];simp
 ·rw[h,Rat.zero_mul,h0];simp
 ·rw[h,Rat.zero_mul,h0];simp
 ·have := Rat.mul_pos (a := p) (b := -q) h (by grind);rw[e,e',Au (by grind)];rfl
 ·rw[h',Rat.mul_zero,h0];simp
 ·rw[e,e',yg (Rat.mul_pos h h')];rfl
theorem MW(p q:Rat)(h1:0<=bI p)(h2:0<=bI q):0<=bI (p+q):=by
 rcases nJ (p+q)with⟨e,h⟩ |⟨e,h⟩ |⟨e,h⟩
 ·exfalso;rcases nJ p with⟨e1,g1⟩ |⟨e1,g1⟩ |⟨e1,g1⟩ <;> rcases nJ q with⟨e2,g2⟩ |⟨e2,g2⟩ |⟨e2,g2⟩ <;> first |omega |grind
 ·omega
 ·omega
theorem KE(r:(k:Nat)->T k):Sg (E r 0) (sg r 0) :=
 ⟨fun q=>T.sgnQ_cases q,rfl,fun q=>Ki q,fun p q=>Tr p q,fun p q=>MW p q⟩
def sM(r:(k:Nat)->T k)(n:Nat):Prop:=∀j,j<n->0<=T.sgn r j (r j)
theorem mu(r:(k:Nat)->T k):∀n,sM r n->Sg (E r n) (sg r n)
 |0,_=>KE r
 |n+1,h=>Ld (mu r n (fun j hj=>h j oz)) (h n oz)
end Go.Lw
namespace Go.Lw
def xA{r:(k:Nat)->T k}{n:Nat}(x:E r n):AV:=nA (sh n x)
abbrev Pn(r:(k:Nat)->T k)(n:Nat):Type:=E r n×E r n
def lM(r:(k:Nat)->T k)(n:Nat):LL:=(List.range n).map fun k=>enc k (r k)
def qE{r:(k:Nat)->T k}{n:Nat}(q:Rat):E r n:=T.ofQ n q
theorem vm:∀(n:Nat)(q:Rat),sh n (T.ofQ n q)=sh 0 (q:Rat)
 |0,q=>rfl
 |n+1,q=>by
  show(if T.isZ n (T.zero n)=true then sh n (T.ofQ n q)else _)=_;rw[VQ ((T.isZ_iff n _).2 rfl),vm n q]
theorem Ip:∀n:Nat,sh n (T.zero n)=[]
 |0=>rfl
 |n+1=>by
  show(if T.isZ n (T.zero n)=true then sh n (T.zero n)else _)=_;rw[VQ ((T.isZ_iff n _).2 rfl),Ip n]
theorem tm(r:(k:Nat)->T k)(n:Nat):(lM r n).length=n:=by simp[lM]
theorem EB{r:(k:Nat)->T k}{n j:Nat}(h:j<n):(lM r n).getD j []=enc j (r j):=by
 unfold lM;rw[getD_eq_getElem?_getD,getElem?_map,List.getElem?_range h];rfl
theorem O2{r:(k:Nat)->T k}{n j:Nat}(h:j<n):aj (lM r n) j=r j:=by
 unfold aj;rw[EB h,vB]
theorem EO{ts:LL}{R:Nat}(tw:Tw ts R):ts=lM (aj ts) ts.length:=by
 apply List.ext_getElem?;intro j
 by_cases hj:j<ts.length
 ·have h1:=EB (r:=aj ts) hj;have h2:=tw.len j hj;rw[getD_eq_getElem?_getD]at h1;rw[getElem?_eq_getElem (show j<(lM (aj ts) ts.length).length by rw[tm];exact hj)]at h1 ⊢;rw[Option.getD_some]at h1;rw[h1,getElem?_eq_getElem hj];unfold aj;rw[qJ _ _ h2,getD_eq_getElem?_getD,getElem?_eq_getElem hj];rfl
 ·rw[getElem?_eq_none oz,getElem?_eq_none (by rw[tm];omega)]
class Cx(r:(k:Nat)->T k)(n:Nat)(u k:outParam Nat):Prop where
  ex:∃R,Tw (lM r n) R/\eB R n<=k
  k1:1<=k
  u3:3<=u
class Zu(u k:Nat){r:(k:Nat)->T k}{n:Nat}(x:E r n)(w v:outParam Nat):Prop where
  nm:Nm n (w*u+v*k) (sh n x)
class Zp(u k:Nat){r:(k:Nat)->T k}{n:Nat}(p:Pn r n)(w v:outParam Nat):Prop where
  x:Nm n (w*u+v*k) (sh n p.1)
  y:Nm n (w*u+v*k) (sh n p.2)
class Qz(u:Nat)(q:Rat)(w:outParam Nat):Prop where
  cb:Cb (w*u) [q]
section
variable{r:(k:Nat)->T k}{n u k:Nat}
theorem Cx.five(c:Cx r n u k):n<=5:=by obtain⟨R,tw,_⟩:=c.ex;have:=tw.five;rwa [tm]at this
theorem Cx.three(c:Cx r n u k):n<=3:=by obtain⟨R,tw,_⟩:=c.ex;have:=tw.three;rwa [tm]at this
theorem wT(w v w' v' u k:Nat):(w*u+v*k)+(w'*u+v'*k)=(w+w')*u+(v+v')*k:=by
 rw[Nat.add_mul,Nat.add_mul];omega
theorem Nm.eq{n e f:Nat}{l:List Rat}(h:Nm n e l)(hf:e=f):Nm n f l:=hf▸h
theorem Nm.addT{e f:Nat}{x y:T n}(hx:Nm n e (sh n x))(hy:Nm n f (sh n y)):Nm n (e+f+1) (sh n (T.add n x y)):=by
 have h:=hx.add hy
 rwa [bq,bq]at h
theorem Nm.subT{e f:Nat}{x y:T n}(hx:Nm n e (sh n x))(hy:Nm n f (sh n y)):Nm n (e+f+1) (sh n (T.add n x (T.neg n y))):=by
 have h:=hx.sub hy
 rwa [bq,bq]at h
theorem Nm.negT{e:Nat}{x:T n}(hx:Nm n e (sh n x)):Nm n e (sh n (T.neg n x)):=by
 have h:=hx.neg
 rwa [bq]at h
theorem Nm.mulT{R e f:Nat}(tw:Tw (lM r n) R){x y:T n}(hx:Nm n e (sh n x))(hy:Nm n f (sh n y)):Nm n (e+f+eB R n) (sh n (T.mul r n x y)):=by
 have h:=Nm.mul tw (tm r n).symm hx hy
 rwa [bq,bq,T.mul_congr n (fun j hj=>O2 hj)]at h
instance Zu.add[c:Cx r n u k]{x y:E r n}{w v w' v':Nat}[hx:Zu u k x w v][hy:Zu u k y w' v']:Zu u k (x+y) (w+w') (v+v'+1) :=
  ⟨(Nm.addT hx.nm hy.nm).mono (by rw[wT,Nat.add_mul _ 1];have:=c.k1;omega)⟩
instance Zu.sub[c:Cx r n u k]{x y:E r n}{w v w' v':Nat}[hx:Zu u k x w v][hy:Zu u k y w' v']:Zu u k (x-y) (w+w') (v+v'+1) :=
  ⟨(Nm.subT hx.nm hy.nm).mono (by rw[wT,Nat.add_mul _ 1];have:=c.k1;omega)⟩
instance Zu.neg{x:E r n}{w v:Nat}[hx:Zu u k x w v]:Zu u k (-x) w v:=⟨Nm.negT hx.nm⟩
instance Zu.mul[c:Cx r n u k]{x y:E r n}{w v w' v':Nat}[hx:Zu u k x w v][hy:Zu u k y w' v']:Zu u k (x*y) (w+w') (v+v'+1):=by
  obtain⟨R,tw,hk⟩:=c.ex;exact⟨(Nm.mulT tw hx.nm hy.nm).mono (by rw[wT,Nat.add_mul _ 1];omega)⟩
instance Zu.qE[c:Cx r n u k]{q:Rat}{w:Nat}[h:Qz u q w]:Zu u k (qE q:E r n) w 0:=⟨by
  show Nm n _ (sh n (T.ofQ n q));rw[vm];exact(Nm.ofQ c.five h.cb).eq oz⟩
theorem Cb.int{e:Nat}{z:Int}(h:z.natAbs<=2^e):Cb e [(z:Rat)] :=
 ⟨1,z.natAbs,⟨by omega,fun q hq=>⟨z,by rw[List.mem_singleton.1 hq];exact Rat.mul_one _,le_refl _⟩⟩,Nat.one_le_two_pow,h⟩
theorem Qz.int[c:Cx r n u k]{z:Int}(h:z.natAbs<=8):Qz u (z:Rat) 1:=⟨Cb.int (le_trans h (show 2^3<=_ from bT (by have:=c.u3;omega)))⟩
instance Zu.c0[c:Cx r n u k]:Zu u k (0:E r n) 0 0:=⟨by
  show Nm n _ (sh n (T.ofQ n ((0:Nat):Rat)));rw[show(((0:Nat):Rat))=0 from rfl,T.ofQ_zero,Ip];exact⟨c.five,.inl rfl,Cb.nil.mono (zero_le _)⟩⟩
instance Zu.c1[c:Cx r n u k]:Zu u k (1:E r n) 1 0:=by
  haveI:Qz u ((1:Nat):Rat) 1:=Qz.int (c:=c) (z:=1) (by decide);exact(inferInstance:Zu u k (Go.Lw.qE ((1:Nat):Rat):E r n) 1 0)
instance Zu.c2[c:Cx r n u k]:Zu u k (2:E r n) 1 0:=by
  haveI:Qz u ((2:Nat):Rat) 1:=Qz.int (c:=c) (z:=2) (by decide);exact(inferInstance:Zu u k (Go.Lw.qE ((2:Nat):Rat):E r n) 1 0)
instance Zu.c4[c:Cx r n u k]:Zu u k (4:E r n) 1 0:=by
  haveI:Qz u ((4:Nat):Rat) 1:=Qz.int (c:=c) (z:=4) (by decide);exact(inferInstance:Zu u k (Go.Lw.qE ((4:Nat):Rat):E r n) 1 0)
instance Zu.px{p:Pn r n}{w v:Nat}[h:Zp u k p w v]:Zu u k p.1 w v:=⟨h.x⟩
instance Zu.py{p:Pn r n}{w v:Nat}[h:Zp u k p w v]:Zu u k p.2 w v:=⟨h.y⟩
theorem x8{w v w' v' u k:Nat}(h:w<=w')(h':v<=v'):w*u+v*k<=w'*u+v'*k:=Nat.add_le_add (mul_le_mul_right _ h) (mul_le_mul_right _ h')
instance Zp.mk'{x y:E r n}{w v w' v':Nat}[hx:Zu u k x w v][hy:Zu u k y w' v']:Zp u k ((x,y):Pn r n) (max w w') (max v v') :=
  ⟨hx.nm.mono (x8 (Nat.le_max_left ..) (Nat.le_max_left ..)),hy.nm.mono (x8 (Nat.le_max_right ..) (Nat.le_max_right ..))⟩
def SP(p q:Pn r n):Pn r n:=(p.1+q.1,p.2+q.2)
def Ns(p q:Pn r n):Pn r n:=(p.1-q.1,p.2-q.2)
def O1(c:E r n)(p:Pn r n):Pn r n:=(c*p.1,c*p.2)
def Uq(p q:Pn r n):E r n:=p.1*q.1+p.2*q.2
def Rm(p q:Pn r n):E r n:=p.1*q.2-p.2*q.1
def VJ(c s:E r n)(p:Pn r n):Pn r n:=(c*p.1-s*p.2,s*p.1+c*p.2)
def pQ(x y:Rat):Pn r n:=(qE x,qE y)
def Kc(p:Pn r n):Pn r n:=(-p.2,p.1)
instance Zp.add[c:Cx r n u k]{p q:Pn r n}{w v w' v':Nat}[hp:Zp u k p w v][hq:Zp u k q w' v']:Zp u k (SP p q) (w+w') (v+v'+1) :=
  ⟨(inferInstance:Zu u k (p.1+q.1) (w+w') (v+v'+1)).nm,(inferInstance:Zu u k (p.2+q.2) (w+w') (v+v'+1)).nm⟩
instance Zp.sub[c:Cx r n u k]{p q:Pn r n}{w v w' v':Nat}[hp:Zp u k p w v][hq:Zp u k q w' v']:Zp u k (Ns p q) (w+w') (v+v'+1) :=
  ⟨(inferInstance:Zu u k (p.1-q.1) (w+w') (v+v'+1)).nm,(inferInstance:Zu u k (p.2-q.2) (w+w') (v+v'+1)).nm⟩
instance Zp.scale[c:Cx r n u k]{a:E r n}{q:Pn r n}{w v w' v':Nat}[hp:Zu u k a w v][hq:Zp u k q w' v']:Zp u k (O1 a q) (w+w') (v+v'+1) :=
  ⟨(inferInstance:Zu u k (a*q.1) (w+w') (v+v'+1)).nm,(inferInstance:Zu u k (a*q.2) (w+w') (v+v'+1)).nm⟩
instance Zu.dot[c:Cx r n u k]{p q:Pn r n}{w v w' v':Nat}[hp:Zp u k p w v][hq:Zp u k q w' v']:Zu u k (Uq p q) (w+w'+(w+w')) (v+v'+1+(v+v'+1)+1) :=
  (inferInstance:Zu u k (p.1*q.1+p.2*q.2) _ _)
instance Zu.cross[c:Cx r n u k]{p q:Pn r n}{w v w' v':Nat}[hp:Zp u k p w v][hq:Zp u k q w' v']:Zu u k (Rm p q) (w+w'+(w+w')) (v+v'+1+(v+v'+1)+1) :=
  (inferInstance:Zu u k (p.1*q.2-p.2*q.1) _ _)
instance Zp.turn[c:Cx r n u k]{a b:E r n}{p:Pn r n}{w v w' v' w2 v2:Nat}[ha:Zu u k a w v][hb:Zu u k b w' v'][hp:Zp u k p w2 v2] :
    Zp u k (VJ a b p) (w+w2+(w'+w2)) (v+v2+1+(v'+v2+1)+1) :=
  ⟨(inferInstance:Zu u k (a*p.1-b*p.2) _ _).nm,by
    have h:=(inferInstance:Zu u k (b*p.1+a*p.2) _ _).nm;exact h.eq (by rw[Nat.add_comm (w'+w2),Nat.add_comm (v'+v2+1)])⟩
instance Zp.ofQ[c:Cx r n u k]{x y:Rat}{w w':Nat}[hx:Qz u x w][hy:Qz u y w']:Zp u k (pQ x y:Pn r n) (max w w') (max 0 0) :=
  (inferInstance:Zp u k ((qE x,qE y):Pn r n) _ _)
instance Zp.quart{p:Pn r n}{w v:Nat}[hp:Zp u k p w v]:Zp u k (Kc p) w v:=⟨(inferInstance:Zu u k (-p.2) w v).nm,hp.x⟩
end
theorem A0(rs:List (List Rt)):(llq rs).length=rs.length:=by simp[llq]
abbrev Et(ts:LL):Type:=E (aj ts) ts.length
def dE(ts:LL)(a:List Rat):Et ts:=ad ts.length a
def sX{ts:LL}(x:Et ts):List Rat:=sh ts.length x
def ak{ts:LL}(x:Et ts):Int:=T.sgn (aj ts) ts.length x
def Aj{ts:LL}(x y:Et ts):Bool:=decide (ak (x-y)=0)
class Ct(ts:LL)(u k:outParam Nat):Prop where
  ex:∃R,Tw ts R/\eB R ts.length<=k
  k1:1<=k
  u3:3<=u
  ub:u<=1000000
  kb:k<=1000000
instance Ct.cx{ts:LL}{u k:Nat}[c:Ct ts u k]:Cx (aj ts) ts.length u k:=by
  obtain⟨R,tw,h⟩:=c.ex;exact⟨⟨R,EO tw▸tw,h⟩,c.k1,c.u3⟩
class Zl(ts:LL)(u k:Nat)(a:List Rat)(x:outParam (Et ts))(w v:outParam Nat):Prop where
  eq:ad ts.length a=x
  nm:Nm ts.length (w*u+v*k) a
section
variable{ts:LL}{u k:Nat}
instance Zl.sX{x:Et ts}{w v:Nat}[h:Zu u k x w v]:Zl ts u k (sX x) x w v:=⟨bq _ _,h.nm⟩
instance Zl.q[c:Ct ts u k]{q:Rat}{w:Nat}[h:Qz u q w]:Zl ts u k (sh 0 (q:Rat)) (qE q:Et ts) w 0:=⟨lc _ q,by
  obtain⟨R,tw,_⟩:=c.ex;exact(Nm.ofQ tw.five h.cb).eq oz⟩
instance Zl.nil [c : Ct ts u k] : Zl ts u k [] (0 : Et ts) 0 0 := ⟨by rw [iN]; exact E.zero_def.symm, by
  obtain⟨R,tw,_⟩:=c.ex;exact⟨tw.five,.inl rfl,Cb.nil.mono (zero_le _)⟩⟩
theorem Zl.zu{a:List Rat}{x:Et ts}{w v:Nat}(h:Zl ts u k a x w v):Zu u k x w v:=⟨by
 have h1:=h.nm;have h2:=Cb.sh h1.cb h1.nl;rw[h.eq]at h2;exact⟨h1.five,eg _ _,h2⟩⟩
theorem Zl.at{a:List Rat}{e:Nat}(h:Nm ts.length e a)(he:e<=u):Zl ts u k a (dE ts a) 1 0:=⟨rfl,h.mono oz⟩
theorem yj(c:Ct ts u k){w v m:Nat}(h:w+v<=m):w*u+v*k<=m*1000000:=by
 have h1:w*u<=w*1000000:=mul_le_mul_left _ c.ub;have h2:v*k<=v*1000000:=mul_le_mul_left _ c.kb;omega
theorem Pu(c:Ct ts u k){w v:Nat}(h:w+v<=10000):w*u+v*k<=lm ts.length:=by
 have h1:=yj c h;have h2:=ju ts.length;omega
theorem Zl.up(c:Ct ts u k){a:List Rat}{x:Et ts}{w v m:Nat}(h:Zl ts u k a x w v)(hm:w+v<=m):Nm ts.length (m*1000000) a:=h.nm.mono (yj c hm)
theorem Ct.kk(c:Ct ts u k){R:Nat}(h:eB R ts.length<=k):kB R ts.length<=1000000:=le_trans h c.kb
def dotE(x y z t:Et ts):Et ts:=x*z+y*t
def crsE(x y z t:Et ts):Et ts:=x*t-y*z
instance Zu.dotE[c:Ct ts u k]{x y z t:Et ts}{w1 v1 w2 v2 w3 v3 w4 v4:Nat}[Zu u k x w1 v1][Zu u k y w2 v2][Zu u k z w3 v3][Zu u k t w4 v4]:Zu u k (dotE x y z t) (w1+w3+(w2+w4)) (v1+v3+1+(v2+v4+1)+1) :=
  (inferInstance:Zu u k (x*z+y*t) _ _)
instance Zu.crsE[c:Ct ts u k]{x y z t:Et ts}{w1 v1 w2 v2 w3 v3 w4 v4:Nat}[Zu u k x w1 v1][Zu u k y w2 v2][Zu u k z w3 v3][Zu u k t w4 v4]:Zu u k (crsE x y z t) (w1+w4+(w2+w3)) (v1+v4+1+(v2+v3+1)+1) :=
  (inferInstance:Zu u k (x*t-y*z) _ _)
end
def dW(xs:List Int):List Int:=xs.mergeSort (fun a b=>decide (a<=b))
theorem AG(xs:List Int):(dW xs).Perm xs:=List.mergeSort_perm _ _
theorem Eb(xs:List Int):(dW xs).Pairwise (· <= ·):=by
 have h:=List.pairwise_mergeSort (le:=fun a b:Int=>decide (a<=b)) (fun a b c h1 h2=>by simp only[decide_eq_true_eq]at *;omega) (fun a b=>by simp only[or_eq_true,decide_eq_true_eq];omega) xs;exact h.imp (fun h=>of_decide_eq_true h)
theorem RX{xs ys:List Int}(hp:ys.Perm xs)(hs:ys.Pairwise (· <= ·)):ys=dW xs :=
 List.Perm.eq_of_pairwise (le:=fun a b:Int=>a<=b) (fun a b _ _ h1 h2=>by omega) hs (Eb xs) (hp.trans (AG xs).symm)
theorem HL(xs:List Int):(dW xs).length=xs.length:=(AG xs).length_eq
theorem qd{xs:List Int}{b:Int}:b∈dW xs↔b∈xs:=(AG xs).mem_iff
theorem yq(e:Nat)(l:List Nat):dh (e::l)=if e≠0 then e else dh l:=rfl
theorem BE{α:Type}{R:α->α->Prop}{f:α->Nat}{b:α}(hf:f b≠0):∀{L:List α},L.Pairwise R->b∈L->(∀x∈L,R x b->x≠b->f x=0)->dh (L.map f)=f b
 |[],_,hm,_=>by cases hm
 |x::L,hp,hm,h=>by
  rw[map_cons,yq];rw[List.pairwise_cons]at hp
  by_cases hx:f x≠0
  ·rw[VQ hx];rcases List.mem_cons.1 hm with rfl |hm
   ·rfl
   ·by_cases e:x=b
    ·rw[e]
    ·exact absurd (h x (mem_cons_self ..) (hp.1 b hm) e) hx
  ·rw[VP hx]
   have hb:b∈L:=by
    rcases List.mem_cons.1 hm with e |hm
    ·rw[<- e]at hx;exact absurd hf hx
    ·exact hm
   exact BE hf hp.2 hb (fun y hy=>h y (mem_cons_of_mem _ hy))
theorem lQ{α:Type}{f:α->Nat}{L:List α}(h:∀x∈L,f x=0):dh (L.map f)=0:=by
 induction L with
 |nil=>rfl
 |cons x L ih =>
  rw[map_cons,yq,VP (by rw[h x (mem_cons_self ..)];simp)];exact ih (fun y hy=>h y (mem_cons_of_mem _ hy))
theorem JQ{n:Nat}{xs:List Int}(hx:∀b∈xs,b<n){f:Int->Nat}(hf:∀b,b<0->f b=0) :
  dh ((dW xs).map f)=dh ((List.range n).map (fun i:Nat=>if(i:Int)∈xs then f i else 0)):=by
 cases hq:df n (fun i=>!(decide ((i:Int)∈xs)&&decide (f i≠0)))with
 |none =>
  have h1:=DS hq
  have h2:∀i,i<n->(i:Int)∈xs->f i=0:=by
   intro i hi hm;have:=h1 i hi;simp only[Bool.not_eq_true',Bool.and_eq_false_iff,decide_eq_false_iff_not,Decidable.not_not]at this;rcases this with h |h
   ·exact absurd hm h
   ·exact h
  rw[lQ,lQ]
  ·intro i hi;have hi:=List.mem_range.1 hi;show(if(i:Int)∈xs then f i else 0)=0;split
   ·rename_i hm;exact h2 i hi hm
   ·rfl
  ·intro b hb;have hb:=qd.1 hb
   by_cases h0:b<0
   ·exact hf b h0
   ·have e : b = ((b.toNat : Nat) : Int) := by omega
    rw[e];exact h2 b.toNat (by have:=hx b hb;omega) (by rw[<- e];exact hb)
 |some i =>
  unfold df at hq;rw[List.find?_range_eq_some]at hq;obtain⟨h1,h2,h3⟩:=hq;simp only[Bool.not_not,and_eq_true,decide_eq_true_eq]at h1
  have hmin:∀j,j<i->(j:Int)∈xs->f j=0:=by
   intro j hj hm;have:=h3 j hj;simp only[Bool.not_not,Bool.not_eq_true',Bool.and_eq_false_iff,decide_eq_false_iff_not,Decidable.not_not]at this;rcases this with h |h
   ·exact absurd hm h
   ·exact h
  have hin:=List.mem_range.1 h2;rw[BE (R:=(· <= ·)) (f:=f) (b:=(i:Int)) h1.2 (Eb xs) (qd.2 h1.1)]
  ·rw [BE (R := (· <= ·)) (f := fun i : Nat => if (i : Int) ∈ xs then f i else 0) (b := i) (by show (if (i : Int) ∈ xs then f i else 0) ≠ 0; rw [VQ h1.1]; exact h1.2) (List.pairwise_le_range) h2]
   ·show _=(if(i:Int)∈xs then f i else 0);rw[VQ h1.1]
   ·intro j hj hle hne;show(if(j:Int)∈xs then f j else 0)=0;split
    ·rename_i hm;exact hmin j oz hm
    ·rfl
  ·intro b hb hle hne;have hb:=qd.1 hb
   by_cases h0:b<0
   ·exact hf b h0
   ·have e : b = ((b.toNat : Nat) : Int) := by omega
    rw[e];exact hmin b.toNat oz (by rw[<- e];exact hb)
def iu(g:Gr)(j:Jt):Int:=if g.bo.contains j.a=true then(if g.bo.contains j.b=true then -1 else j.b)else j.a
def cw(l:Li)(g:Gr):List Int:=g.jo.map (fun j=>iu g (l.jo.getD j.toNat default))
theorem kN(l:Li)(g:Gr):(cw l g).length=g.jo.length:=by unfold cw;rw[length_map]
theorem HO{l:Li}(hl:aG l=0){g:Gr}(hg:GrOk l g):∀b∈cw l g,b<l.bo.length:=by
 intro b hb;unfold cw at hb;obtain⟨z,hz,rfl⟩:=List.mem_map.1 hb;obtain⟨z0,z1⟩:=hg.j z hz;obtain⟨j,hj⟩:=az (l:=l.jo) (i:=z.toNat) oz;rw[aO hj];obtain⟨i1,i2,_⟩:=dm hl hj;have i1:=eK i1;have i2:=eK i2;unfold iu;split
 ·split
  ·omega
  ·omega
 ·omega
def bZ(l:Li)(g:Gr)(own:Bool):List Int:=cw l g++(if own=true then g.bo else[])
theorem wL{l:Li}(hl:aG l=0){g:Gr}(hg:GrOk l g){own:Bool}:∀b∈bZ l g own,b<l.bo.length:=by
 intro b hb;rcases List.mem_append.1 hb with hb |hb
 ·exact HO hl hg b hb
 ·split at hb
  ·exact(hg.b b hb).2
  ·cases hb
theorem Pm{l:Li}{g:Gr}(hg:GrOk l g){own:Bool}:(bZ l g own).length<=5:=by
 unfold bZ;have h1:=hg.lb;have h2:=hg.lj;rw[length_append,kN];split
 ·omega
 ·simp only[length_nil];omega
def eT(a:As)(b:Int):Nat:=if b<0 then 0 else aZ a.rs (a.bs.getD b.toNat default).l
def fI(l:Li)(k:Int):Gr:=(aK l).getD k.toNat default
def gK(l:Li)(k:Int)(a:As)(own:Bool):Nat :=
  if cA l≠0 then cA l else if k<0\/((aK l).length:Int)<=k then 9 else if a.bs.length≠l.bo.length then 10 else if bc a.rs≠0 then bc a.rs
  else dh ((dW (bZ l (fI l k) own)).map (eT a))
def fe(l:Li)(k:Int)(a:As)(own:Bool):Nat:=if aG l≠0 then aG l else gK l k a own
section
variable{l:Li}{k:Int}{a:As}{own:Bool}
theorem ol(h:aG l=0):fe l k a own=gK l k a own:=by unfold fe;rw[VP oz]
theorem Rr{e:Nat}(he:(if aG l=0 then cA l else aG l)=e)(h:e≠0):fe l k a own=e:=by
 by_cases h1:aG l=0
 ·rw[VQ h1]at he;rw[ol h1];unfold gK;rw[VQ oz];exact he
 ·rw[VP h1]at he;unfold fe;rw[VQ h1];exact he
theorem Gh(h:(if aG l=0 then cA l else aG l)=0):aG l=0/\cA l=0:=by
 by_cases h1:aG l=0
 ·rw[VQ h1]at h;exact⟨h1,h⟩
 ·rw[VP h1]at h;exact absurd h h1
theorem Sp(hs:cA l≠0):gK l k a own=cA l:=by unfold gK;rw[VQ hs]
theorem Dy(hs:cA l=0)(hk:k<0\/((aK l).length:Int)<=k):gK l k a own=9:=by unfold gK;rw[VP oz,VQ hk]
theorem Ez(hs:cA l=0)(hk:¬(k<0\/((aK l).length:Int)<=k))(hb:a.bs.length≠l.bo.length):gK l k a own=10:=by
 unfold gK;rw[VP oz,VP hk,VQ hb]
theorem DA(hs:cA l=0)(hk:¬(k<0\/((aK l).length:Int)<=k))(hb:a.bs.length=l.bo.length)(hc:bc a.rs≠0):gK l k a own=bc a.rs:=by
 unfold gK;rw[VP oz,VP hk,VP oz,VQ hc]
theorem Ao(hs:cA l=0)(hk:¬(k<0\/((aK l).length:Int)<=k))(hb:a.bs.length=l.bo.length)(hc:bc a.rs=0):gK l k a own=dh ((dW (bZ l (fI l k) own)).map (eT a)):=by
 unfold gK;rw[VP oz,VP hk,VP oz,VP oz]
end
structure DyOk(E:Nat)(l:Li)(k:Int)(a:As)(own:Bool)(i:Nat)(g:Gr):Prop where
  li:aG l=0
  sp:cA l=0
  hk:k=(i:Int)
  hg:(aK l)[i]?=some g
  ok:GrOk l g
  dy:DyK l g
  ln:a.bs.length=l.bo.length
  chk:bc a.rs=0
  nd:∀b∈bZ l g own,eT a b=0
  sm:∀b∈bZ l g own,0<=b->∀p,a.bs[b.toNat]?=some p->∀x∈p.l,NR x E
def qj(E:Nat)(l:Li)(k:Int)(a:As)(own:Bool):Prop:=∀b∈bZ l (fI l k) own,0<=b->∀p,a.bs[b.toNat]?=some p->∀x∈p.l,NR x E
theorem Ad{l:Li}{k:Int}{a:As}{own:Bool}{E:Nat}(hs:qj E l k a own)(h:fe l k a own=0):∃i g,DyOk E l k a own i g:=by
 unfold fe at h;split at h
 ·rename_i h1;exact absurd h h1
 ·rename_i h1;have h1:=Decidable.not_not.1 h1;unfold gK at h;split at h
  ·rename_i h2;exact absurd h h2
  ·rename_i h2;split at h
   ·cases h
   ·rename_i h3;split at h
    ·cases h
    ·rename_i h4;split at h
     ·rename_i h5;exact absurd h h5
     ·rename_i h5;obtain⟨g,hg⟩:=az (l:=aK l) (i:=k.toNat) oz;have e:fI l k=g:=aO hg;rw[e]at h;obtain⟨d1,d2⟩:=nV h1 (mem_of_getElem? hg);refine⟨k.toNat,g,h1,by omega,by omega,hg,d2,d1,by omega,by omega,fun b hb=>?_,e▸hs⟩;exact oD h _ (List.mem_map.2 ⟨b,qd.2 hb,rfl⟩)
theorem DyOk.body{E:Nat}{l:Li}{k:Int}{a:As}{own:Bool}{i:Nat}{g:Gr}(h:DyOk E l k a own i g){b:Int}(hb:b∈bZ l g own)(h0:0<=b):∃p,a.bs[b.toNat]?=some p/\aZ a.rs p.l=0/\∀x∈p.l,NR x E:=by
 have h1:=wL h.li h.ok b hb;obtain⟨p,hp⟩:=az (l:=a.bs) (i:=b.toNat) (by have:=h.ln;omega);have h2:=h.nd b hb;unfold eT at h2;rw[VP oz,aO hp]at h2;exact⟨p,hp,h2,h.sm b hb h0 p hp⟩
theorem B9(n:Nat):50000000000<=lm n:=ju n
theorem yU{k:Int}{n:Nat}(h:cond (aa .lss k 0) true (aa .geq k (n:Int))=true):k<0\/(n:Int)<=k:=by
 by_cases h1:k<0
 ·exact .inl h1
 ·refine .inr ?_;have h2:aa .lss k 0=false:=decide_eq_false h1;rw[h2]at h;exact of_decide_eq_true (p:=k>=n) h
theorem yr{k:Int}{n:Nat}(h:cond (aa .lss k 0) true (aa .geq k (n:Int))=false):¬(k<0\/(n:Int)<=k):=by
 intro h1
 by_cases h2:k<0
 ·rw[show aa .lss k 0=true from decide_eq_true h2]at h;cases h
 ·rw[show aa .lss k 0=false from decide_eq_false h2]at h;have h3:¬(k>=n):=of_decide_eq_false h;omega
theorem zF{k:Int}{n:Nat}(h:¬(k<0\/(n:Int)<=k)):∃i:Nat,k=i/\i<n:=⟨k.toNat,by omega,by omega⟩
theorem qr{a b:Nat}(h:aa .neq (a:Int) (b:Int)=true):a≠b:=by
 have h1:((a:Int) != (b:Int))=true:=h;have h2:=bne_iff_ne.1 h1;omega
theorem qQ{a b:Nat}(h:aa .neq (a:Int) (b:Int)=false):a=b:=by
 have h1:((a:Int) != (b:Int))=false:=h;have h2:(a:Int)=b:=by simpa only[bne_eq_false_iff_eq]using h1
 omega
theorem xO{r:(k:Nat)->T k}{n:Nat}(p q:Rat):(qE (p+q):E r n)=qE p+qE q:=T.ofQ_add n p q
theorem QL{r:(k:Nat)->T k}{n:Nat}(p:Rat):(qE (-p):E r n)=-qE p:=T.ofQ_neg n p
theorem vA{r:(k:Nat)->T k}{n:Nat}(p q:Rat):(qE (p-q):E r n)=qE p-qE q:=by
 rw[Rat.sub_eq_add_neg,xO,QL];grind
theorem rf{r:(k:Nat)->T k}{n:Nat}(p q:Rat):(qE (p*q):E r n)=qE p*qE q:=(T.mul_ofQ r n p q).symm
def ax(l:Li)(body pt:Int):Rat×Rat:=(((cF l body).getD pt.toNat default).x.q,((cF l body).getD pt.toNat default).y.q)
abbrev qC(p:Rat×Rat):List AV:=[bl (rt p.1).neg,ws (rt p.1).num,ws (rt p.1).den,bl (rt p.2).neg,ws (rt p.2).num,ws (rt p.2).den]
abbrev qP(p:Rat×Rat):AV:=.agg (qC p)
structure Sm(e:Nat)(p:Rat×Rat):Prop where
  x:Qb e p.1
  y:Qb e p.2
structure MkP(l:Li)(body pt:Int)(n k:Nat)(bd:Bd)(m:Mk):Prop where
  hn:body=n
  hk:pt=k
  gbd:l.bo[n]?=some bd
  gm:bd.pts[k]?=some m
  ex:m.x=rt (ax l body pt).1
  ey:m.y=rt (ax l body pt).2
  sm:Sm 1000 (ax l body pt)
theorem sa{l:Li}(hl:l.ok)(hli:aG l=0){body pt:Int}(h1:br body l.bo.length=true)(h2:br pt (cF l body).length=true):∃n k bd m,MkP l body pt n k bd m:=by
 obtain⟨bd,g1,g2,g3,g4⟩:=p8 h1;rw[g2]at h2;obtain⟨m,g5,g6,g7,g8⟩:=ui h2;have hv:=L0 hli g1 g5;have ho:=(hl.bo bd g3).pts m g7;have e:ax l body pt=(m.x.q,m.y.q):=by unfold ax;rw[g2,g6]
 exact⟨body.toNat,pt.toNat,bd,m,by omega,by omega,g1,g5,by rw[e];exact Rt.eq_rt ho.x hv.1,by rw[e];exact Rt.eq_rt ho.y hv.2,by rw[e];exact⟨ho.qx.mono oz,ho.qy.mono oz⟩⟩
theorem gI{l:Li}(hl:l.ok)(hli:aG l=0){body pt:Int}(h1:br body l.bo.length=true)(h2:br pt (cF l body).length=true):Sm 1000 (ax l body pt):=by
 obtain⟨n,k,bd,m,h⟩:=sa hl hli h1 h2;exact h.sm
def aV(l:Li)(a:As)(body pt:Int):Et (llq a.rs)×Et (llq a.rs):=oR l a body pt
structure PlP(E:Nat)(l:Li)(a:As)(body pt:Int)(n k:Nat)(bd:Bd)(m:Mk)(b:Pl):Prop where
  mp:MkP l body pt n k bd m
  gb:a.bs[n]?=some b
  eq:oR l a body pt=kZ (llq a.rs) b m
  av:b.av=Pq.av ⟨lq b.c,lq b.s,lq b.x,lq b.y⟩
  ok:Pq.ok (llq a.rs).length E ⟨lq b.c,lq b.s,lq b.x,lq b.y⟩
def Pd(E:Nat)(a:As)(body:Int):Prop:=∃p,a.bs[body.toNat]?=some p/\aZ a.rs p.l=0/\∀x∈p.l,NR x E
theorem sU{E:Nat}{l:Li}(hl:l.ok)(hli:aG l=0){a:As}(al:AB a)(hc:bc a.rs=0){body pt:Int}(h1:br body l.bo.length=true)(h2:br pt (cF l body).length=true)(hb:Pd E a body):∃n k bd m b,PlP E l a body pt n k bd m b:=by
 obtain⟨n,k,bd,m,h⟩:=sa hl hli h1 h2;obtain⟨b,gb,hb,hbn⟩:=hb;obtain⟨tw,_⟩:=bN al.tr hc;have h5:a.rs.length<=5:=by have:=tw.five;rwa [A0]at this
 have h9:=MU hb hbn h5;have e:body.toNat=n:=by have:=h.hn;omega
 have e2:pt.toNat=k:=by have:=h.hk;omega
 rw[e]at gb;obtain⟨bd',g1,g2,_,_⟩:=p8 h1;rw[e]at g1;have:bd'=bd:=Option.some.inj (g1.symm.trans h.gbd);subst this;refine⟨n,k,bd',m,b,h,gb,?_,h9.1,by rw[A0];exact h9.2⟩;unfold oR;rw[e,e2,aO gb,g2,aO h.gm]
structure DyS(a:As):Prop where
  tr:TR a.rs 64990
  one:bc a.rs=0->(llq a.rs).length<=1
theorem DyS.ct{a:As}(h:DyS a)(hc:bc a.rs=0):Ct (llq a.rs) 310000 65000:=by
 obtain⟨tw,_⟩:=bN h.tr hc;refine⟨⟨64990,tw,?_⟩,by omega,by omega,by omega,by omega⟩;have h1:=gz 64990 (h.one hc);have h2:eB 64990 1=64992:=by simp only[eB]
 omega
theorem gV{l:Li}(hl:l.ok)(hli:aG l=0){a:As}(al:AB a)(S:DyS a)(hc:bc a.rs=0){body pt:Int}(h1:br body l.bo.length=true)(h2:br pt (cF l body).length=true)(hb:Pd 3900000 a body) :
  Zu 310000 65000 (aV l a body pt).1 40 40/\Zu 310000 65000 (aV l a body pt).2 40 40:=by
 obtain⟨n,k,bd,m,b,hp⟩:=sU hl hli al hc h1 h2 hb;obtain⟨tw,_⟩:=bN S.tr hc
 have kb:kB 64990 (llq a.rs).length<=65000:=by
  have h1:=gz 64990 (S.one hc);have h2:eB 64990 1=64992:=by simp only[eB]
  show eB 64990 _<=_;omega
 have qx:Qb 1000 m.x.q:=by rw[hp.mp.ex,bt];exact hp.mp.sm.x
 have qy:Qb 1000 m.y.q:=by rw[hp.mp.ey,bt];exact hp.mp.sm.y
 have h:=z5 tw hp.ok qx qy;unfold aV;rw[hp.eq];exact⟨⟨h.1.mono oz⟩,⟨h.2.mono oz⟩⟩
theorem qD{rs:List (List Rt)}{r:Nat}(h:TR rs r)(hc:bc rs=0):an (llq rs)=.agg [.lst 1 (rs.map nR)]:=(bN h hc).2.symm
theorem L3{x y:Option Blk}{k:Nat}{z:Blk}(h:lk [(1000,x),(1001,y)] k=some z):1000<=k:=by
 rw[aP]at h;split at h
 ·omega
 ·rw[aP]at h;split at h
  ·omega
  ·cases h
theorem ma{s:AS}{k k':Nat}{x y:Blk}(h:lk s.hp k=some x)(h':lk s.hp k'=some y):∀q z,lk [(k,some x),(k',some y)] q=some z->lk s.hp q=some z:=by
 intro q z hz;rw[aP]at hz;split at hz
 ·rename_i e;cases hz;rw[e];exact h
 ·rw[aP]at hz;split at hz
  ·rename_i e;cases hz;rw[e];exact h'
  ·cases hz
def bn(p q:Rat×Rat):Rat×Rat:=(p.1-q.1,p.2-q.2)
def bF(p q:Rat×Rat):Rat:=p.1*q.1+p.2*q.2
def pX(p q:Rat×Rat):Rat:=p.1*q.2-p.2*q.1
theorem Sm.sub{e f:Nat}{p q:Rat×Rat}(hp:Sm e p)(hq:Sm f q):Sm (e+f+1) (bn p q):=⟨hp.x.sub hq.x,hp.y.sub hq.y⟩
theorem Sm.dot{e f:Nat}{p q:Rat×Rat}(hp:Sm e p)(hq:Sm f q):Qb (e+f+(e+f)+1) (bF p q):=(hp.x.mul hq.x).add (hp.y.mul hq.y)
theorem Sm.cross{e f:Nat}{p q:Rat×Rat}(hp:Sm e p)(hq:Sm f q):Qb (e+f+(e+f)+1) (pX p q):=(hp.x.mul hq.y).sub (hp.y.mul hq.x)
theorem Sm.mono{e f:Nat}{p:Rat×Rat}(hp:Sm e p)(h:e<=f):Sm f p:=⟨hp.x.mono h,hp.y.mono h⟩
theorem lU{q:Rat}{e w:Nat}(h:Qb e q)(he:e<=w*310000):Qz 310000 q w:=⟨(Cb.one h).mono he⟩
def ah(l:Li)(j:Jt)(b:Int):Rat×Rat:=if j.a=b then ax l b j.point else ax l b j.on
def am(l:Li)(a:As)(j:Jt)(b:Int):Et (llq a.rs)×Et (llq a.rs):=if j.a=b then aV l a j.b j.on else aV l a j.a j.point
structure PinP(E:Nat)(l:Li)(a:As)(j:Jt)(b:Int):Prop where
  tie:(j.a=b/\Pd E a j.b)\/(j.a≠b/\j.b=b/\Pd E a j.a)
theorem PinP.or{E:Nat}{l:Li}{a:As}{j:Jt}{b:Int}(h:PinP E l a j b):j.a=b\/j.b=b:=by
 rcases h.tie with h9 |h9
 ·exact .inl h9.1
 ·exact .inr h9.2.1
theorem gO{l:Li}(hl:l.ok)(hli:aG l=0){a:As}(al:AB a)(S:DyS a)(hc:bc a.rs=0){i:Nat}{j:Jt}(hj:l.jo[i]?=some j){b:Int}(h:PinP 3900000 l a j b) :
  Zu 310000 65000 (am l a j b).1 40 40/\Zu 310000 65000 (am l a j b).2 40 40:=by
 obtain⟨i1,i2,i3,i4,_⟩:=dm hli hj;unfold am;rcases h.tie with⟨e,hb⟩ |⟨e,e2,hb⟩
 ·rw[VQ e];exact gV hl hli al S hc i2 i4 hb
 ·rw[VP e];exact gV hl hli al S hc i1 i3 hb
theorem dL{l:Li}(hl:l.ok)(hli:aG l=0){i:Nat}{j:Jt}(hj:l.jo[i]?=some j){b:Int}(h:j.a=b\/j.b=b):Sm 1000 (ah l j b):=by
 obtain⟨i1,i2,i3,i4,_⟩:=dm hli hj;unfold ah
 by_cases e:j.a=b
 ·rw[VQ e];subst e;exact gI hl hli i1 i3
 ·rw[VP e];rcases h with h |h
  ·exact absurd h e
  ·subst h;exact gI hl hli i2 i4
theorem JW{bs:List Int}{b:Int}(h:b∈bs):bs.contains b=true:=List.contains_iff_mem.2 h
theorem IW{bs:List Int}{b:Int}(h:b∉bs):bs.contains b=false:=by
 cases hc:bs.contains b with
 |false=>rfl
 |true=>exact absurd (List.contains_iff_mem.1 hc) h
theorem DyOk.ancs{E:Nat}{l:Li}{k:Int}{a:As}{own:Bool}{n:Nat}{g:Gr}(h:DyOk E l k a own n g){z b:Int}{j:Jt}(hz:z∈g.jo)(hj:l.jo[z.toNat]?=some j)(hb:iu g j=b)(h0:0<=b):Pd E a b:=by
 refine h.body ?_ h0;unfold bZ cw;refine List.mem_append_left _ (List.mem_map.2 ⟨z,hz,?_⟩);rw[aO hj];exact hb
theorem DyOk.pin{E:Nat}{l:Li}{k:Int}{a:As}{own:Bool}{n:Nat}{g:Gr}(h:DyOk E l k a own n g){kd z b:Int}{j:Jt}{bs:List Int}(hbs:g.bo=bs)(t:TieO l kd bs z b j)(hz:z∈g.jo)(hb:b∈bs):PinP E l a j b:=by
 subst hbs;obtain⟨i1,i2,_⟩:=dm h.li t.hj;have i1:=eK i1;have i2:=eK i2;rcases t.tie with⟨e,hn⟩ |⟨e,hn⟩
 ·refine⟨.inl ⟨e,h.ancs hz t.hj ?_ i2.1⟩⟩;unfold iu;rw[VQ (JW (e▸hb)),VP (by rw[IW hn];simp)]
 ·refine⟨.inr ⟨fun e2=>hn (e2▸hb),e,h.ancs hz t.hj ?_ i1.1⟩⟩;unfold iu;rw[VP (by rw[IW hn];simp)]
theorem DyOk.own{E:Nat}{l:Li}{k:Int}{a:As}{n:Nat}{g:Gr}(h:DyOk E l k a true n g){b:Int}(hb:b∈g.bo):Pd E a b:=by
 refine h.body ?_ (h.ok.b b hb).1;unfold bZ;rw[VQ rfl];exact List.mem_append_right _ hb
structure RrrP(E:Nat)(l:Li)(a:As)(g:Gr)(i k z0 z1 z2:Int)(j0 j1 j2:Jt):Prop where
  eq:g=⟨1,[i,k],[z0,z1,z2],0⟩
  h0:l.jo[z0.toNat]?=some j0
  h1:l.jo[z1.toNat]?=some j1
  h2:l.jo[z2.toNat]?=some j2
  p0:PinP E l a j0 i
  p1:PinP E l a j1 k
  t1:j2.a=i\/j2.b=i
  t2:j2.a=k\/j2.b=k
structure SlP(E:Nat)(l:Li)(a:As)(g:Gr)(kd i z0 z1:Int)(j0 j:Jt):Prop where
  eq:g=⟨kd,[i],[z0,z1],0⟩
  h0:l.jo[z0.toNat]?=some j0
  h1:l.jo[z1.toNat]?=some j
  p0:PinP E l a j0 i
  p1:PinP E l a j i
  hk:j.kind≠0
theorem DyOk.rrr{E:Nat}{l:Li}{k:Int}{a:As}{own:Bool}{n:Nat}{g:Gr}(h:DyOk E l k a own n g)(hk:g.kind=1):∃i k z0 z1 z2 j0 j1 j2,RrrP E l a g i k z0 z1 z2 j0 j1 j2:=by
 have hd:=h.dy;cases hd with
 |drv _ _ _ _=>exact absurd hk (by simp)
 |pr _ _ _=>exact absurd hk (by simp)
 |rp _ _ _=>exact absurd hk (by simp)
 | @rrr i k z0 z1 z2 j0 j1 j2 ne t0 t1 h0 h2 kd tie =>
  refine⟨i,k,z0,z1,z2,j0,j1,j2,rfl,t0.hj,t1.hj,h2,h.pin rfl t0 (by simp) (by simp),h.pin rfl t1 (by simp) (by simp),?_,?_⟩
  ·rcases tie with h9 |h9
   ·exact .inl h9.1
   ·exact .inr h9.1
  ·rcases tie with h9 |h9
   ·exact .inr h9.2
   ·exact .inl h9.2
theorem DyOk.pr{E:Nat}{l:Li}{k:Int}{a:As}{own:Bool}{n:Nat}{g:Gr}(h:DyOk E l k a own n g)(hk:g.kind=2):∃i z0 z1 j0 j,SlP E l a g 2 i z0 z1 j0 j/\j.a=i/\Pd E a j.b:=by
 have hd:=h.dy;cases hd with
 |drv _ _ _ _=>exact absurd hk (by simp)
 |rrr _ _ _ _ _ _ _=>exact absurd hk (by simp)
 |rp _ _ _=>exact absurd hk (by simp)
 | @pr i z0 z1 j0 j1 t0 t1 ha =>
  have p1:PinP E l a j1 i:=h.pin rfl t1 (by simp) (by simp);refine⟨i,z0,z1,j0,j1,⟨rfl,t0.hj,t1.hj,h.pin rfl t0 (by simp) (by simp),p1,by rw[t1.kd];decide⟩,ha,?_⟩;rcases p1.tie with h9 |h9
  ·exact h9.2
  ·exact absurd ha h9.1
theorem DyOk.rp{E:Nat}{l:Li}{k:Int}{a:As}{own:Bool}{n:Nat}{g:Gr}(h:DyOk E l k a own n g)(h0:g.kind≠0)(h1:g.kind≠1)(h2:g.kind≠2):∃i z0 z1 j0 j,SlP E l a g 3 i z0 z1 j0 j/\j.a≠i/\j.b=i/\Pd E a j.a:=by
 have hd:=h.dy;cases hd with
 |drv _ _ _ _=>exact absurd rfl h0
 |rrr _ _ _ _ _ _ _=>exact absurd rfl h1
 |pr _ _ _=>exact absurd rfl h2
 | @rp i z0 z1 j0 j1 t0 t1 ha =>
  have p1:PinP E l a j1 i:=h.pin rfl t1 (by simp) (by simp);refine⟨i,z0,z1,j0,j1,⟨rfl,t0.hj,t1.hj,h.pin rfl t0 (by simp) (by simp),p1,by rw[t1.kd];decide⟩,ha,?_⟩;rcases p1.tie with h9 |h9
  ·exact absurd h9.1 ha
  ·exact⟨h9.2.1,h9.2.2⟩
def ba(c p:Rat×Rat):Rat:=bF (bn c p) (bn c p)
theorem Qf{e f:Nat}{c p:Rat×Rat}(hc:Sm e c)(hp:Sm f p):Qb (e+f+1+(e+f+1)+(e+f+1+(e+f+1))+1) (ba c p):=(hc.sub hp).dot (hc.sub hp)
def be(l:Li)(g:Gr)(n:Nat):Jt:=l.jo.getD (g.jo.getD n 0).toNat default
def b9(g:Gr)(n:Nat):Int:=g.bo.getD n 0
section
variable(l:Li)(a:As)
def fF(i:Int)(j:Jt):Rat×Rat:=bn (ax l i j.to) (ax l i j.on)
def cM(i:Int)(j0 j:Jt):Rat:=pX (fF l i j) (bn (ax l i j.on) (ah l j0 i))
def iz(i:Int)(j:Jt):Rat:=bF (fF l i j) (fF l i j)
def aW{ts:LL}(p q:Et ts×Et ts):Et ts×Et ts:=(p.1-q.1,p.2-q.2)
def gN{ts:LL}(p q:Et ts×Et ts):Et ts:=dotE p.1 p.2 q.1 q.2
def k9{ts:LL}(p q:Et ts×Et ts):Et ts:=crsE p.1 p.2 q.1 q.2
def er(i:Int)(j0 j:Jt):Et (llq a.rs)×Et (llq a.rs):=aW (aV l a j.a j.point) (am l a j0 i)
def cK(i:Int)(j0 j:Jt):Et (llq a.rs):=gN (er l a i j0 j) (er l a i j0 j)
def xh(g:Gr):Et (llq a.rs) :=
  if g.kind=0 then qE 1
  else if g.kind=1 then
    qE 4*(qE (ba (ah l (be l g 2) (b9 g 0)) (ah l (be l g 0) (b9 g 0)))*gN (aW (am l a (be l g 0) (b9 g 0)) (am l a (be l g 1) (b9 g 1))) (aW (am l a (be l g 0) (b9 g 0)) (am l a (be l g 1) (b9 g 1))))
      - ((qE (ba (ah l (be l g 2) (b9 g 0)) (ah l (be l g 0) (b9 g 0)))+gN (aW (am l a (be l g 0) (b9 g 0)) (am l a (be l g 1) (b9 g 1))) (aW (am l a (be l g 0) (b9 g 0)) (am l a (be l g 1) (b9 g 1))))-qE (ba (ah l (be l g 2) (b9 g 1)) (ah l (be l g 1) (b9 g 1))))
        * ((qE (ba (ah l (be l g 2) (b9 g 0)) (ah l (be l g 0) (b9 g 0)))+gN (aW (am l a (be l g 0) (b9 g 0)) (am l a (be l g 1) (b9 g 1))) (aW (am l a (be l g 0) (b9 g 0)) (am l a (be l g 1) (b9 g 1))))-qE (ba (ah l (be l g 2) (b9 g 1)) (ah l (be l g 1) (b9 g 1))))
  else if g.kind=2 then
    gN (aW (aV l a (be l g 1).b (be l g 1).to) (aV l a (be l g 1).b (be l g 1).on)) (aW (aV l a (be l g 1).b (be l g 1).to) (aV l a (be l g 1).b (be l g 1).on))*qE (ba (ax l (b9 g 0) (be l g 1).point) (ah l (be l g 0) (b9 g 0)))
      - k9 (aW (aV l a (be l g 1).b (be l g 1).to) (aV l a (be l g 1).b (be l g 1).on)) (aW (am l a (be l g 0) (b9 g 0)) (aV l a (be l g 1).b (be l g 1).on))
        * k9 (aW (aV l a (be l g 1).b (be l g 1).to) (aV l a (be l g 1).b (be l g 1).on)) (aW (am l a (be l g 0) (b9 g 0)) (aV l a (be l g 1).b (be l g 1).on))
  else qE (iz l (b9 g 0) (be l g 1))*cK l a (b9 g 0) (be l g 0) (be l g 1)-qE (cM l (b9 g 0) (be l g 0) (be l g 1))*qE (cM l (b9 g 0) (be l g 0) (be l g 1))
end
section
variable{E:Nat}{l:Li}{a:As}{g:Gr}
theorem RrrP.at{i k z0 z1 z2:Int}{j0 j1 j2:Jt}(h:RrrP E l a g i k z0 z1 z2 j0 j1 j2):be l g 0=j0/\be l g 1=j1/\be l g 2=j2/\b9 g 0=i/\b9 g 1=k/\g.kind=1:=by
 rw[h.eq];exact⟨aO h.h0,aO h.h1,aO h.h2,rfl,rfl,rfl⟩
theorem SlP.at{kd i z0 z1:Int}{j0 j:Jt}(h:SlP E l a g kd i z0 z1 j0 j):be l g 0=j0/\be l g 1=j/\b9 g 0=i/\g.kind=kd:=by
 rw[h.eq];exact⟨aO h.h0,aO h.h1,rfl,rfl⟩
end
section
variable{ts:LL}
def qv(p:Rat×Rat):Et ts×Et ts:=(qE p.1,qE p.2)
theorem jJ(p q:Rat×Rat):aW (qv p:Et ts×Et ts) (qv q)=qv (bn p q):=by
 unfold aW qv bn;rw[vA,vA]
theorem rQ(p q:Rat×Rat):gN (qv p:Et ts×Et ts) (qv q)=qE (bF p q):=by
 unfold gN dotE qv bF;rw[xO,rf,rf]
theorem uS(p q:Rat×Rat):k9 (qv p:Et ts×Et ts) (qv q)=qE (pX p q):=by
 unfold k9 crsE qv pX;rw[vA,rf,rf]
def au(p q:Et ts×Et ts):Et ts:=gN (aW p q) (aW p q)
theorem zR(p q:Rat×Rat):au (qv p:Et ts×Et ts) (qv q)=qE (ba p q):=by
 unfold au ba;rw[jJ,rQ]
theorem IV(q:Rat):ak (qE q:Et ts)=bI q:=T.sgn_ofQ _ _ q
theorem xq(x:Rat):0<=x*x:=by
 rcases(Rat.le_total:0<=x\/x<=0)with h |h
 ·exact Rat.mul_nonneg h h
 ·have h1 : 0 <= -x := by grind
  have h2:=Rat.mul_nonneg h1 h1;grind
theorem Kt(p q:Rat×Rat):0<=ba p q:=by
 unfold ba bF bn;have h1:=xq (p.1-q.1);have h2:=xq (p.2-q.2);dsimp only;grind
theorem q9(p q:Rat×Rat):0<=ak (qE (ba p q):Et ts):=by
 rw[IV];have h:=Kt p q;unfold bI;split
 ·grind
 ·split <;> omega
def cm(p:Et ts×Et ts)(r:Et ts)(q:Et ts×Et ts)(s:Et ts):Et ts:=qE 4*(r*au p q)-((r+au p q)-s)*((r+au p q)-s)
end
section
variable{E:Nat}{l:Li}{a:As}{g:Gr}
theorem DE{i z0 z1:Int}{j0 j:Jt}(h:SlP E l a g 3 i z0 z1 j0 j) :
  xh l a g=gN (aW (qv (ax l i j.to)) (qv (ax l i j.on))) (aW (qv (ax l i j.to)) (qv (ax l i j.on)))*au (aV l a j.a j.point) (am l a j0 i)
   - k9 (aW (qv (ax l i j.to)) (qv (ax l i j.on))) (aW (qv (ax l i j.on)) (qv (ah l j0 i)))*k9 (aW (qv (ax l i j.to)) (qv (ax l i j.on))) (aW (qv (ax l i j.on)) (qv (ah l j0 i))):=by
 obtain⟨e0,e1,b0,hk⟩:=h.at;unfold xh;rw[VP oz,VP oz,VP oz,e0,e1,b0,jJ,jJ,rQ,uS];rfl
end
def d5(n:Nat)(xs:List Int):List Bool:=(List.range n).map (fun i:Nat=>decide ((i:Int)∈xs))
theorem q8(n:Nat)(xs:List Int):(d5 n xs).length=n:=by unfold d5;rw[length_map,List.length_range]
theorem qz{n i:Nat}(h:i<n)(xs:List Int):(d5 n xs)[i]?=some (decide ((i:Int)∈xs)):=by
 unfold d5;rw[getElem?_map,List.getElem?_range h];rfl
theorem Vx(n:Nat):d5 n []=List.replicate n false:=by
 apply List.ext_getElem?;intro i
 by_cases h:i<n
 ·rw[qz h,getElem?_replicate,VQ h];simp
 ·rw[getElem?_eq_none (by rw[q8];omega),getElem?_eq_none (by rw[length_replicate];omega)]
theorem GN{n:Nat}{xs ys:List Int}{b:Int}{v:Bool}(h0:0<=b)(hn:b<n)(h:∀i:Nat,i<n->decide ((i:Int)∈ys)=if(i:Int)=b then v else decide ((i:Int)∈xs)):d5 n ys=(d5 n xs).set b.toNat v:=by
 apply List.ext_getElem?;intro i
 by_cases hi:i<n
 ·rw[qz hi,h i hi,List.getElem?_set,q8]
  by_cases e:(i:Int)=b
  ·rw[VQ e,VQ oz,VQ oz]
  ·rw[VP e,VP oz,qz hi]
 ·rw[getElem?_eq_none (by rw[q8];omega),getElem?_eq_none (by rw[length_set,q8];omega)]
theorem Ts{n:Nat}{xs:List Int}{b:Int}(h:b<0):d5 n (xs++[b])=d5 n xs:=by
 unfold d5;refine List.map_congr_left (fun i _=>decide_eq_decide.2 ?_);simp only[mem_append,List.mem_singleton];constructor
 ·rintro(h1 |h1)
  ·exact h1
  ·omega
 ·exact .inl
theorem Vt{n:Nat}{xs:List Int}{b:Int}(h0:0<=b)(hn:b<n):d5 n (xs++[b])=(d5 n xs).set b.toNat true :=
 GN h0 hn fun i _=>by
  by_cases e:(i:Int)=b
  ·rw[VQ e];simp[e]
  ·rw[VP e];simp[e]
theorem Qq{n:Nat}{xs ys:List Int}{q:Nat}{b:Int}{own:Bool}(hb:ys[q]?=some b)(h0:0<=b)(hn:b<n) :
  d5 n (xs++(if own=true then ys.take (q+1)else[]))=(d5 n (xs++(if own=true then ys.take q else[]))).set b.toNat (cond (decide (b∈xs++(if own=true then ys.take q else[]))) true own) :=
 GN h0 hn fun i _=>by
  cases own
  ·simp only[Bool.false_eq_true,if_false,append_nil]
   by_cases e:(i:Int)=b
   ·rw[VQ e,e];cases decide (b∈xs) <;> rfl
   ·rw[VP e]
  ·simp only[if_true];rw[cD hb]
   by_cases e:(i:Int)=b
   ·rw[VQ e];simp[e]
   ·rw[VP e];simp[e]
def mw(l:Li)(g:Gr)(a:As)(own:Bool)(i:Nat):Nat:=if(i:Int)∈bZ l g own then eT a i else 0
theorem MT(a:As)(b:Int)(h:b<0):eT a b=0:=by unfold eT;rw[VQ h]
theorem To{l:Li}(hl:aG l=0){g:Gr}(hg:GrOk l g){a:As}{own:Bool}:dh ((dW (bZ l g own)).map (eT a))=dh ((List.range l.bo.length).map (mw l g a own)) :=
 JQ (wL hl hg) (MT a)
def rC(j:Jt)(b:Int):Int:=if j.a=b then j.point else j.on
def pP(j:Jt)(b:Int):Int:=if j.a=b then j.b else j.a
def mC(j:Jt)(b:Int):Int:=if j.a=b then j.on else j.point
theorem DyOk.ne{E:Nat}{l:Li}{k:Int}{a:As}{own:Bool}{n:Nat}{i k2 z0 z1 z2:Int}(h:DyOk E l k a own n ⟨1,[i,k2],[z0,z1,z2],0⟩):i≠k2:=by
 have hd:=h.dy;generalize hg:(⟨1,[i,k2],[z0,z1,z2],0⟩:Gr)=g at hd;cases hd with
 |drv _ _ _ _=>simp at hg
 |pr _ _ _=>simp at hg
 |rp _ _ _=>simp at hg
 |rrr ne _ _ _ _ _ _=>simp at hg;obtain⟨⟨rfl,rfl⟩,_⟩:=hg;exact ne
structure Bulk{H:Type}(bk:DataW H->Nat)(bka:List (DataW H)->Nat):Prop where
  one:∀d,1<=bk d
  nil:bka []=0
  cons:∀d l,bka (d::l)=bk d+bka l
  slice:∀e s,bka e+1<=bk (.slice e s)
  agg:∀l,bka l<=bk (.agg l)
section
variable{P:Program}{W:World}{H:Type}{enc:TypeId×Value->H}{bk:DataW H->Nat}{bka:List (DataW H)->Nat}
theorem Bulk.pick(B:Bulk bk bka){α:Type}{m:α->Nat}:∀{l:List α}{xs:List (DataW H)},l.length<=xs.length->(∀(i:Nat)(a:α),l[i]?=some a->∃x,xs[i]?=some x/\m a<=bk x)->(l.map m).sum<=bka xs
 |[],xs,_,_=>by simp
 |a::l,[],hl,_=>by simp at hl
 |a::l,x::xs,hl,h=>by
  obtain⟨y,hy,h1⟩:=h 0 a rfl;cases hy;have h2:=B.pick (l:=l) (xs:=xs) (by simpa using hl) (fun i b hb=>h (i+1) b hb);rw[B.cons,map_cons,List.sum_cons];omega
def so(P:Program)(W:World)(enc:TypeId×Value->H)(bk:DataW H->Nat)(t:TypeId){α:Type}(f:α->AV)(p:α->Prop)(m:α->Nat):Prop :=
  ∀(sp:Nat->Bool)(fuel:Nat)(cs:List Value)(x:DataW H×List MemPlace),DataW.trod enc P W 0 sp true fuel t cs=some x->(∀n∈x.1.weights P t,n<=reachBytes)->∃a,p a/\mL W cs (f a).cells/\m a<=bk x.1
theorem c9.m{t:TypeId}{α:Type}{f:α->AV}{p:α->Prop}(h:c9 P W enc t f p):so P W enc bk t f p (fun _=>0):=by
 intro sp fuel cs x hx hw;obtain⟨a,h1,h2⟩:=h sp fuel cs x hx hw;exact⟨a,h1,h2,zero_le _⟩
theorem c9.m1(B:Bulk bk bka){t:TypeId}{α:Type}{f:α->AV}{p:α->Prop}(h:c9 P W enc t f p):so P W enc bk t f p (fun _=>1):=by
 intro sp fuel cs x hx hw;obtain⟨a,h1,h2⟩:=h sp fuel cs x hx hw;exact⟨a,h1,h2,B.one _⟩
theorem so.map{α β:Type}{t:TypeId}{f:α->AV}{p:α->Prop}{m:α->Nat}(h:so P W enc bk t f p m)(g:α->β)(f':β->AV)(p':β->Prop)(m':β->Nat)(hg:∀a,p a->p' (g a)/\f' (g a)=f a/\m' (g a)<=m a):so P W enc bk t f' p' m':=by
 intro sp fuel cs x hx hwt;obtain⟨a,ha,hc,hm⟩:=h sp fuel cs x hx hwt;obtain⟨h1,h2,h3⟩:=hg a ha;exact⟨g a,h1,by rw[h2];exact hc,le_trans h3 hm⟩
end
open Go.Proofs
section
variable{W:World}{H:Type}{enc:TypeId×Value->H}
theorem MO:c9 prog W enc 349 (fun n:Nat=>u32 n) (fun n=>n<4294967296) :=
 (DV (k:=.u32) Tryz.underlying349).map Int.toNat _ _ (fun n h=>by
  have h1:0<=n/\n<=4294967295:=by simpa[Lit.wf,IntKind.min,IntKind.max,IntKind.signed,IntKind.bits]using h
  have h2:((n.toNat:Nat):Int)=n:=by omega
  exact⟨by omega,by unfold u32;rw[h2]⟩)
theorem Iq:c9 prog W enc 43 ws (fun l=>Ws l/\l.length<=281474976710656) :=
 (o7 Tryz.underlying43 (n:=1) (by kernel_rfl) oz (by kernel_rfl) MO (fun _=>rfl)).map id _ _ (fun l h=>⟨⟨fun x hx=>h.1 x hx,h.2⟩,rfl⟩)
theorem G5:c9 prog W enc 4 bl (fun _=>True):=UX Tryz.underlying4
theorem nK:c9 prog W enc 3 i64 (fun _=>True):=(DV (k:=.i64) Tryz.underlying3).map id _ _ (fun n h=>⟨trivial,rfl⟩)
theorem rL:c9 prog W enc 9 (fun s:ByteArray=>AV.v (.string s)) (fun s=>s.size<=281474976710656):=Nw Tryz.underlying9
theorem zx:c9 prog W enc 45 Rt.av Rt.wok :=
 (nP (n := 3) Tryz.underlying45 (by kernel_rfl)
  (.cons rfl (n:=1) (by kernel_rfl) G5 (fun _=>rfl) (.cons rfl (n:=1) (by kernel_rfl) Iq (fun _=>rfl) (.cons rfl (n:=1) (by kernel_rfl) Iq (fun _=>rfl) (.nil _)))) (fun _=>rfl)).map
  (fun z=>⟨z.1,z.2.1,z.2.2.1⟩) _ _ (fun z h=>⟨⟨h.2.1.1,h.2.2.1.1⟩,rfl⟩)
theorem OL:c9 prog W enc 39 (fun l:List Int=>.lst 1 (l.map i64)) (fun l=>(∀b∈l,True)/\l.length<=281474976710656) :=
 o7 Tryz.underlying39 (n:=1) (by kernel_rfl) oz (by kernel_rfl) nK (fun _=>rfl)
theorem Ut:c9 prog W enc 47 Tn.av (fun x=>x.t.wok) :=
 (nP (n := 4) Tryz.underlying47 (by kernel_rfl) (.cons rfl (n := 3) (by kernel_rfl) zx (fun _ => rfl) (.cons rfl (n := 1) (by kernel_rfl) G5 (fun _ => rfl) (.nil _))) (fun _ => rfl)).map
  (fun z=>⟨z.1,z.2.1⟩) _ _ (fun z h=>⟨h.1,rfl⟩)
theorem PY:c9 prog W enc 122 Mk.av (fun m=>m.name.size<=281474976710656/\m.x.wok/\m.y.wok) :=
 (nP (n := 7) Tryz.underlying122 (by kernel_rfl)
  (.cons rfl (n:=1) (by kernel_rfl) rL (fun _=>rfl) (.cons rfl (n:=3) (by kernel_rfl) zx (fun _=>rfl) (.cons rfl (n:=3) (by kernel_rfl) zx (fun _=>rfl) (.nil _)))) (fun _=>rfl)).map
  (fun z=>⟨z.1,z.2.1,z.2.2.1⟩) _ _ (fun z h=>⟨⟨h.1,h.2.1,h.2.2.1⟩,rfl⟩)
theorem Lv:c9 prog W enc 120 Bd.av (fun b=>b.name.size<=281474976710656/\b.pts.length<=281474976710656/\∀m∈b.pts,m.name.size<=281474976710656/\m.x.wok/\m.y.wok) :=
 (nP (n := 2) Tryz.underlying120 (by kernel_rfl)
  (.cons rfl (n:=1) (by kernel_rfl) rL (fun _=>rfl) (.cons rfl (n:=1) (by kernel_rfl) (o7 Tryz.underlying118 (n:=7) (by kernel_rfl) oz (by kernel_rfl) PY (fun _=>rfl)) (fun _=>rfl) (.nil _))) (fun _=>rfl)).map
  (fun z=>⟨z.1,z.2.1⟩) _ _ (fun z h=>⟨⟨h.1,h.2.1.2,h.2.1.1⟩,rfl⟩)
theorem RA:c9 prog W enc 75 Jt.av (fun j=>j.name.size<=281474976710656) :=
 (nP (n := 7) Tryz.underlying75 (by kernel_rfl)
  (.cons rfl (n := 1) (by kernel_rfl) rL (fun _ => rfl) (.cons rfl (n := 1) (by kernel_rfl) nK (fun _ => rfl) (.cons rfl (n := 1) (by kernel_rfl) nK (fun _ => rfl) (.cons rfl (n := 1) (by kernel_rfl) nK (fun _ => rfl)
   (.cons rfl (n:=1) (by kernel_rfl) nK (fun _=>rfl) (.cons rfl (n:=1) (by kernel_rfl) nK (fun _=>rfl) (.cons rfl (n:=1) (by kernel_rfl) nK (fun _=>rfl) (.nil _)))))))) (fun _=>rfl)).map
  (fun z=>⟨z.1,z.2.1,z.2.2.1,z.2.2.2.1,z.2.2.2.2.1,z.2.2.2.2.2.1,z.2.2.2.2.2.2.1⟩) _ _ (fun z h=>⟨h.1,rfl⟩)
theorem UJ:c9 prog W enc 94 Dr.av (fun d=>d.name.size<=281474976710656) :=
 (nP (n := 2) Tryz.underlying94 (by kernel_rfl) (.cons rfl (n := 1) (by kernel_rfl) rL (fun _ => rfl) (.cons rfl (n := 1) (by kernel_rfl) nK (fun _ => rfl) (.nil _))) (fun _ => rfl)).map
  (fun z=>⟨z.1,z.2.1⟩) _ _ (fun z h=>⟨h.1,rfl⟩)
abbrev SU(l:Li):List AV:=[.v (.string l.name),.lst 2 (l.bo.map Bd.av),.lst 7 (l.jo.map Jt.av),.lst 2 (l.dv.map Dr.av)]
theorem NT:c9 prog W enc 26 (fun l:Li=>.agg (SU l)) Li.okw :=
 (nP (n := 4) Tryz.underlying26 (by kernel_rfl)
  (.cons rfl (n := 1) (by kernel_rfl) rL (fun _ => rfl)
   (.cons rfl (n := 1) (by kernel_rfl) (o7 Tryz.underlying22 (n := 2) (by kernel_rfl) oz (by kernel_rfl) Lv (fun _ => rfl)) (fun _ => rfl)
    (.cons rfl (n := 1) (by kernel_rfl) (o7 Tryz.underlying23 (n := 7) (by kernel_rfl) oz (by kernel_rfl) RA (fun _ => rfl)) (fun _ => rfl)
     (.cons rfl (n:=1) (by kernel_rfl) (o7 Tryz.underlying24 (n:=2) (by kernel_rfl) oz (by kernel_rfl) UJ (fun _=>rfl)) (fun _=>rfl) (.nil _))))) (fun _=>rfl)).map
  (fun z=>⟨z.1,z.2.1,z.2.2.1,z.2.2.2.1⟩) _ _ (fun z h=>⟨⟨h.1,h.2.1.1,h.2.2.1.1,h.2.2.2.1.1,h.2.1.2,h.2.2.1.2,h.2.2.2.1.2⟩,rfl⟩)
theorem Ll:c9 prog W enc 84 (fun l:List Tn=>.lst 4 (l.map Tn.av)) (fun l=>(∀x∈l,x.t.wok)/\l.length<=281474976710656) :=
 o7 Tryz.underlying84 (n:=4) (by kernel_rfl) oz (by kernel_rfl) Ut (fun _=>rfl)
end
open Go.Proofs Go.Proofs.YtlilpljpajeafaaGreat
open Go.ChangeShapes Go.WideShapes Go.ChangeAt Go.RowKit
theorem own:ownKnob prog.godebug=none:=by kernel_rfl
theorem F6:laidOutB prog=true:=by kernel_rfl
theorem Si:prog.stopsHeard=true:=by kernel_rfl
theorem LB:prog.plainKeys=true:=by kernel_rfl
theorem OB:mapsRowed prog=true:=by kernel_rfl
theorem Tk:prog.mayEnter=true:=by kernel_rfl
theorem Qa:prog.liftsFinal=false:=by kernel_rfl
theorem LS{v:Value}(h:∀cs,v≠.agg cs):v.cells=#[v]:=by
 cases v <;> first |rfl |exact absurd rfl (h _)
theorem GK{P:Program}{W:World}{r:Reach}{b0:Nat}{t e:TypeId}{v:Value}(ht:P.underlying t=some (.slice e))(hval:Value.okWide P W r b0 t v):v.cells=#[v]:=by
 refine LS (fun cs h=>?_);subst h;unfold Value.okWide at hval;rw[ht]at hval;unfold Cell.okWide at hval;rw[ht]at hval;unfold Cell.ok at hval;rw[ht]at hval;exact hval
theorem An{H:Type}{enc:TypeId×Value->H}{W W':World}{t:TypeId}{v:Value}{d:DataW H}{ps:List MemPlace}{sp':Nat->Bool}(hr:prog.readableRec t=true)(ht:t<prog.types.size)
  (h:DataW.Trod enc prog W 0 (fun _=>true) true t v d ps) (hb:Below W.heap.size W W') (hlt:∀x∈ps,x.block<W.heap.size) (hs:∀p∈ps,sp' p.block=true):DataW.Trod enc prog W' 0 sp' true t v d ps :=
 WideElems.Trod_stays F6 hr ht h (fun x hx=>hb.same (hlt x hx)) hs
end Go.Lw
namespace Go.Lw
open Go.Proofs
theorem EA(m:List Nat)(hm:Ws m)(hl:m.length<=fh):FP 290 [ws m] (bl (!decide (m=[])&&(⟨false,m⟩:Wh).valid)):=by
 refine af func290 ?_;refine gl ?_;refine bS ?_;refine l7 (fun h=>(ja (by simp[aa]at h;omega) (by unfold fh at hl;unfold aY;exact le_trans hl oz))) ?_;refine lJ (fun h=>(ch (i:=m.length-1) (by simp[aa]at h;omega))) ?_;refine ae ?_
 by_cases h:m=[]
 ·subst h;rfl
 ·have h1:0 < m.length:=List.length_pos_iff.2 h;have h2:aa .gtr (m.length:Int) 0 = true:=by simp [aa,h1]
  simp only[bl,h,decide_false,Bool.not_false,Bool.true_and,Wh.valid,List.getLast?_eq_getElem?,jm (show m.length-1<m.length by omega),aa];congr 2;generalize ai m _=x;rw[Bool.eq_iff_iff];simp[h1]
theorem BI:FP 176 [] (zA 1):=by
 refine af func176 ?_;refine gc (Gv 1 oz) ?_;refine ae ?_
 first |rfl |(simp;done)
theorem uu(r:Rt)(h:r.ok):FP 193 [r.av] (bl r.valid):=by
 have hr:=h;have hn:=h.n0;have hd:=h.d0;have hl1:r.num.length<=137438953472:=h.2.2.1;have hl2:r.den.length<=137438953472:=h.2.2.2;refine af func193 ?_;refine gl ?_;refine bS ?_;refine gC (fun t12=>?_) (fun t12=>?_)
 ·have h0 : r.num = [] /\ r.den = [] := by simpa [aa] using t12
  refine ae ?_;unfold Rt.valid;rw[VQ h0];rfl
 have h0:¬(r.num=[]/\r.den=[]):=by
  have:=t12;simp[aa]at this;exact fun h=>this h.1 h.2
 refine gc (EA r.num hr.1 hr.2.2.1) ?_;refine bM (fun _=>(EA r.den hr.2.1 hr.2.2.2)) ?_;refine bM (fun _=>(Hl r.n0 r.d0 hn hd (by show r.num.length+r.den.length<_;unfold aC;omega))) ?_;refine bM (fun _=>BI) ?_;refine bM (fun _=>(SZ (Rt.gcd_zs hr) wc)) ?_;refine ae ?_;exact congrArg bl (PU h0).symm
theorem mV(r:Rt)(h:r.ok):FP 194 [r.av] (.tup [zA r.q.num,zA r.q.den]):=by
 have hl1:r.num.length<=137438953472:=h.2.2.1;have hl2:r.den.length<=137438953472:=h.2.2.2;refine af func194 ?_;refine gc (uu r h) ?_;refine bS ?_;refine gC (fun t12=>?_) (fun t12=>?_)
 ·have h0:¬(r.valid=true/\r.num≠[]):=by
   have:=t12;intro h';simp[aa,h'.1,h'.2]at this
  refine gc BI ?_;refine gR ?_;exact bw (by rw[Rt.zero h0];exact Sub.tup (.cons Ch (.cons (.refl _) .nil)))
 have h0:r.valid=true/\r.num≠[]:=by
  have:=t12;cases hv:r.valid
  ·rw[hv]at this;cases this
  ·rw[hv]at this;exact⟨rfl,by simpa[aa]using this⟩
 obtain⟨e1,e2,e3,e4,e5,e6⟩:=Rt.parts h h0.1 h0.2;refine gD ?_;refine bf ?_;rw[e1,e2];exact HH e3 e4 e5
theorem tL{n d:Int}(hn:Zs n)(hd:Zs d)(h0:d≠0):FP 174 [zA n,zA d] (qA (Rat.divInt n d)):=by
 refine af func174 ?_;refine gc (vE hn) ?_;refine gC (fun t14=>?_) (fun t14=>?_)
 ·have e0 : n=0 := Int.sign_eq_zero_iff_zero.1 (by simpa[aa]using t14);refine gR ?_;exact iC (by rw[e0,Rat.zero_divInt];exact gL)
 have e0:n≠0:=fun h=>by rw[h]at t14;cases t14
 refine gc (vE hd) ?_;refine uF [2,3,4] [4] (fun(n1 d1:Int)=>[]) (fun n1 d1=>[(2,some (.box (zA n1).cells)),(3,some (.box (zA d1).cells))]) (fun n1 d1=>0<d1/\n1≠0/\Zs n1/\Zs d1/\Rat.divInt n1 d1=Rat.divInt n d) ?_ ?_
 ·intro K1 J1;refine gC (fun t18=>?_) (fun t18=>?_)
  ·have e1 : d<0 := Int.sign_eq_neg_one_iff_neg.1 (by have := Int.sign_trichotomy d;have h9 : d.sign<0 := (by simpa[aa]using t18);omega);refine gc (xI hn) ?_;refine gc (xI hd) ?_;refine gD ?_;exact nE J1 (-n) (-d) ⟨by omega,by omega,hn.neg,hd.neg,Je n d⟩
  have e1:0<d:=by
   have h9:0<=d.sign:=by simpa[aa]using t18
   have:=Int.sign_nonneg_iff.1 h9;omega
  exact nE J1 n d ⟨e1,e0,hn,hd,rfl⟩
 rintro n1 d1 ⟨f1,f2,f3,f4,f5⟩;have g2:Zs (Int.gcd n1 d1:Int):=f3.of_le (by rw[natAbs_natCast];exact Nat.le_of_dvd oz (Int.gcd_dvd_natAbs_left _ _));have g3:(Int.gcd n1 d1:Int)≠0:=by have:=Int.gcd_pos_of_ne_zero_left d1 f2;omega
 refine gc (Pr f3 f4) ?_;refine gc (EX f3 g2 g3) ?_;refine gc (EX f4 g2 g3) ?_;refine ae ?_;rw[<- f5,<- Ql f1 f2];rfl
theorem LM{n d:Int}(hn:Zs n)(hd:Zs d):FP 298 [zA n,zA d] (.tup [qA (Rat.divInt n d),i64 (if d=0 then 8 else 0)]):=by
 refine af func298 ?_;refine gc (vE hd) ?_;refine gC (fun t8=>?_) (fun t8=>?_)
 ·have h0 : d=0 := Int.sign_eq_zero_iff_zero.1 (by simpa[aa]using t8);refine gR ?_;exact bw (by rw[VQ h0,h0,Rat.divInt_zero];exact Sub.tup (.cons gL (.cons (.refl _) .nil)))
 have h0:d≠0:=fun h=>by rw[h]at t8;cases t8
 refine gc (tL hn hd h0) ?_;refine bf ?_;rw[VP h0];rfl
theorem lg(n:Int)(h:-9223372036854775808<=n/\n<=9223372036854775807):FP 85 [i64 n] (qA n):=by
 have hz:Zs n:=⟨2,by omega,by unfold Lz;simp only[Nat.reducePow];omega⟩
 refine af func85 ?_;refine gc (Gv n h) ?_;refine gc BI ?_;refine gc (tL hz wc oz) ?_;refine ae ?_;exact congrArg qA (Rat.num_divInt_den (n:Rat))
theorem EK(a:Rt)(ha:a.ok):FP 199 [a.av] (qA (-a.q)):=by
 have za:=ha.qs;refine af func199 ?_;refine gc (mV a ha) ?_;refine gc (xI za.num) ?_;refine gc (tL za.num.neg za.den (by have:=a.q.den_nz;omega)) ?_;refine gD ?_;refine ae ?_;rw[F4];rfl
theorem wG(a:Rt)(ha:a.ok):FP 103 [a.av] (i64 (bI a.q)):=by
 refine af func103 ?_;refine gc (mV a ha) ?_;refine gc (vE ha.qs.num) ?_;refine ae ?_;rw[Gj]
theorem xc(a b:Rt)(ha:a.ok)(hb:b.ok):FP 104 [a.av,b.av] (qA (a.q+b.q)):=by
 have za:=ha.qs;have zb:=hb.qs;have m1:=za.mul zb;have m2:=zb.mul za;refine af func104 ?_;refine gc (mV a ha) ?_;refine gc (mV b hb) ?_;refine gc (oH za.num zb.den) ?_;refine gc (oH zb.num za.den) ?_;refine gc (OR m1.1 m2.1) ?_;refine gc (oH za.den zb.den) ?_;refine gc (tL (za.cross zb) m1.2.2.1 (Int.mul_ne_zero (by have:=a.q.den_nz;omega) (by have:=b.q.den_nz;omega))) ?_;refine gD ?_;refine ae ?_;rw[yQ];rfl
theorem FR(a b:Rt)(ha:a.ok)(hb:b.ok):FP 107 [a.av,b.av] (qA (a.q-b.q)):=by
 refine af func107 ?_;refine gc (EK b hb) ?_;refine gc (xc a (rt (-b.q)) ha hb.qs.neg.ok) ?_;refine gD ?_;refine ae ?_;rw[bt,<- Rat.sub_eq_add_neg];rfl
theorem DF(a b:Rt)(ha:a.ok)(hb:b.ok):FP 105 [a.av,b.av] (qA (a.q*b.q)):=by
 have za:=ha.qs;have zb:=hb.qs;have m1:=za.mul zb;refine af func105 ?_;refine gc (mV a ha) ?_;refine gc (mV b hb) ?_;refine gc (oH za.num zb.num) ?_;refine gc (oH za.den zb.den) ?_;refine gc (tL m1.2.1 m1.2.2.1 (Int.mul_ne_zero (by have:=a.q.den_nz;omega) (by have:=b.q.den_nz;omega))) ?_;refine gD ?_;refine ae ?_;rw[zP];rfl
theorem Dp(a b:Rt)(ha:a.ok)(hb:b.ok):FP 198 [a.av,b.av] (.tup [qA (a.q/b.q),i64 (if b.q=0 then 8 else 0)]):=by
 have za:=ha.qs;have zb:=hb.qs;have m1:=za.mul zb;refine af func198 ?_;refine gc (mV a ha) ?_;refine gc (mV b hb) ?_;refine gc (oH za.num zb.den) ?_;refine gc (oH za.den zb.num) ?_;refine gc (LM m1.1 m1.2.2.2) ?_;refine gD ?_;refine bf ?_
 have e1:((a.q.den:Int)*b.q.num=0)=(b.q=0):=by
  apply propext;rw[<- Rat.num_eq_zero,Int.mul_eq_zero];exact⟨fun h=>h.resolve_left (by have:=a.q.den_nz;omega),.inr⟩
 simp only[AE,e1];rfl
theorem Cp(a b:Rt)(ha:a.ok)(hb:b.ok)(hs:Qs (a.q-b.q)):FP 51 [a.av,b.av] (i64 (bI (a.q-b.q))):=by
 refine af func51 ?_;refine gc (FR a b ha hb) ?_;refine gc (wG (rt (a.q-b.q)) hs.ok) ?_;refine ae ?_;rw[bt]
theorem tN{α:Type}(f:α->AV)(l:List α)(hl:l.length<=281474976710656):FP 326 [.lst 3 (l.map f)] (i64 (cI l.length)):=by
 refine af func326 ?_;refine aN [0] [] (fun(k:Nat)=>[(3,some (i64 k))]) (fun _=>[]) (fun k=>k<=48/\∀j,j<k->2^j<l.length) (fun k=>48-k) 0 ⟨by omega,fun j h=>by omega⟩ ?_;rintro k ⟨hk,hj⟩ K1 J1;refine gs (fj (.const _) (.tmp rfl) oz (kD oz) rfl) ?_;refine gl ?_;refine gC (fun t8=>?_) (fun t8=>?_)
 ·have h1 : 2 ^ k < l.length := by have := t8; simp only [aa, decide_eq_true_eq] at this; omega
  have h2:k<48:=by
   rcases lt_or_ge k 48 with h |h
   ·exact h
   ·have:2 ^ 48 <= 2 ^ k:=bT h;have:(2:Nat) ^ 48 = 281474976710656:=by decide
    omega
  refine ga (cV oz) ?_;exact aH J1 (k+1) ⟨by omega,fun j h=>by rcases lt_or_ge j k with h3 |h3;exact hj j h3;(have:j=k:=by omega);subst this;exact h1⟩
 have h1:l.length<=2^k:=by have:=t8;simp only[aa,decide_eq_false_iff_not]at this;omega
 have h2:=EN hj h1;refine gs (fj (.const _) (.tmp rfl) oz (kD oz) rfl) ?_;refine gl ?_;refine gC (fun t15=>?_) (fun t15=>?_)
 ·have h3 : 2 ^ k ≠ l.length := by have := t15; simp only [aa, bne_iff_ne, ne_eq] at this; omega
  refine ae ?_;unfold cI;rw[h2,VP h3];rfl
 have h3:2^k=l.length:=by have:=t15;simp only[aa,bne_eq_false_iff_eq]at this;omega
 refine ae ?_;unfold cI;rw[h2,VQ h3]
theorem C7(ts:List (List Rt))(a:List Rt)(ha:∀r∈a,r.ok)(hl:a.length<=281474976710656)(ht:ts.length<=281474976710656):FP 227 [cf ts,nR a] (bm (bQ ts.length a)):=by
 refine af func227 ?_;refine gl ?_;refine HE [1,4] [] [] [] (¬(a≠[]/\(cI a.length<0\/(ts.length:Int)<cI a.length))) ?_ ?_
 ·intro K1 J1;refine gC (fun t10=>?_) (fun t10=>?_)
  ·have h0 : a ≠ [] := fun h => by rw [h] at t10; simp [aa] at t10
   refine gc (tN Rt.av a hl) ?_;refine bS ?_;refine gC (fun t21=>?_) (fun t21=>?_)
   ·have h1:cI a.length<0\/(ts.length:Int)<cI a.length:=by
     have h9:=t21
     by_cases h:cI a.length<0
     ·exact .inl h
     ·simp only[aa,decide_eq_false h,cond_false,decide_eq_true_eq]at h9;exact .inr h9
    refine ae ?_;unfold bQ;rw[VQ ⟨h0,h1⟩];rfl
   have h1:¬(cI a.length<0\/(ts.length:Int)<cI a.length):=by
    have h9:=t21
    by_cases h:cI a.length<0
    ·simp only[aa,decide_eq_true h,cond_true]at h9;cases h9
    ·simp only[aa,decide_eq_false h,cond_false,decide_eq_false_iff_not]at h9;exact fun h'=>h'.elim h h9
   exact vr J1 (fun h=>h1 h.2)
  have h0:a=[]:=by
   cases a with
   |nil=>rfl
   |cons c l=>simp[aa]at t10
  exact vr J1 (fun h=>h.1 h0)
 rintro hn;refine gl ?_;refine aN [23,24] [] (fun(i:Nat)=>[(25,some (i64 i))]) (fun _=>[]) (fun i=>i<=a.length/\(a.take i).all Rt.valid=true) (fun i=>a.length-i) 0 ⟨zero_le _,by simp⟩ ?_;rintro i ⟨hi,hv⟩ K2 J2;refine gC (fun t26=>?_) (fun t26=>?_)
 ·have hin : i < a.length := by simpa [aa] using t26
  obtain⟨r,hr⟩:=az hin;have hrok:=ha r (mem_of_getElem? hr);refine gi (ay hr) ?_;refine gc (tX r hrok) ?_;refine gC (fun t31=>?_) (fun t31=>?_)
  ·have hrv : r.valid = false := by simpa using t31
   refine ae ?_;unfold bQ;rw[VP hn,VP]
   ·rfl
   ·rw[all_eq_true];intro h;rw[h r (mem_of_getElem? hr)]at hrv;cases hrv
  have hrv:r.valid=true:=by simpa using t31
  refine ga aE ?_;exact aH J2 (i+1) ⟨by omega,by rw[cD hr,all_append,hv];simp[hrv]⟩
 have hin:i=a.length:=by have:a.length<=i:=(by simpa[aa]using t26);omega
 subst hin;rw[take_length]at hv;refine ae ?_;unfold bQ;rw[VP hn,VQ hv];rfl
theorem IK(a:List Rat)(ha:∀q∈a,Qs q)(hl:a.length<=281474976710656):FP 357 [nA a] (bl (bj a)):=by
 refine af func357 ?_;refine gl ?_;refine aN [5,6] [] (fun(i:Nat)=>[(7,some (i64 i))]) (fun _=>[]) (fun i=>i<=a.length/\bj (a.take i)=true) (fun i=>a.length-i) 0 ⟨zero_le _,by simp[bj]⟩ ?_;rintro i ⟨hi,hv⟩ K1 J1;refine gC (fun t8=>?_) (fun t8=>?_)
 ·have hin : i < a.length := by simpa [aa] using t8
  obtain⟨q,hq⟩:=az hin;have hqs:=ha q (mem_of_getElem? hq);refine gi (ay hq) ?_;refine gc (uP (rt q) hqs.ok) ?_;refine gC (fun t13=>?_) (fun t13=>?_)
  ·have h0:q≠0:=by
    intro h;have h9:=t13;rw[bt,h]at h9;cases h9
   refine ae ?_
   have:bj a=false:=by
    rw[Bool.eq_false_iff];intro h;exact h0 (by simpa using List.all_eq_true.1 h q (mem_of_getElem? hq))
   rw[this];rfl
  have h0:q=0:=by
   have h9:bI q=0:=by have:=t13;rw[bt]at this;simpa[aa]using this
   exact lN h9
  refine ga aE ?_;exact aH J1 (i+1) ⟨by omega,by rw[cD hq];simp only[bj,all_append,and_eq_true];exact⟨hv,by simp[h0]⟩⟩
 have hin:i=a.length:=by have:a.length<=i:=(by simpa[aa]using t8);omega
 subst hin;rw[take_length]at hv;refine ae ?_;rw[hv];rfl
theorem HQ(a:List Rat)(hl:a.length<=281474976710656):FP 330 [nA a] (bl (bj a)):=by
 refine af func330 ?_;refine gl ?_;refine aN [5,6] [] (fun(i:Nat)=>[(7,some (i64 i))]) (fun _=>[]) (fun i=>i<=a.length/\bj (a.take i)=true) (fun i=>a.length-i) 0 ⟨zero_le _,by simp[bj]⟩ ?_;rintro i ⟨hi,hv⟩ K1 J1;refine gC (fun t8=>?_) (fun t8=>?_)
 ·have hin : i < a.length := by simpa [aa] using t8
  obtain⟨q,hq⟩:=az hin;refine gi (ay hq) ?_;refine bS ?_;refine bS ?_;refine gC (fun t24=>?_) (fun t24=>?_)
  ·have h0:q≠0:=Fo t24;refine ae ?_
   have:bj a=false:=by
    rw[Bool.eq_false_iff];intro h;exact h0 (by simpa using List.all_eq_true.1 h q (mem_of_getElem? hq))
   rw[this];rfl
  have h0:q=0:=I3 t24;refine ga aE ?_;exact aH J1 (i+1) ⟨by omega,by rw[cD hq];simp only[bj,all_append,and_eq_true];exact⟨hv,by simp[h0]⟩⟩
 have hin:i=a.length:=by have:a.length<=i:=(by simpa[aa]using t8);omega
 subst hin;rw[take_length]at hv;refine ae ?_;rw[hv];rfl
theorem AW(a:List Rat)(ha:∀q∈a,Qs q)(hl:a.length<=1099511627776):FP 269 [nA a] (nA a):=by
 refine af func269 ?_;refine gl ?_;refine gW (Wk.virt 900 3 rfl) ?_;refine aN [6,7] [] (fun(i:Nat)=>[(3,some (.ms 900 3 0 i)),(8,some (i64 i))]) (fun i=>[(900,some (.row 3 ((a.take i).map qA)))]) (fun i=>i<=a.length) (fun i=>a.length-i) 0 (zero_le _) ?_;rintro i hi K1 J1;refine gC (fun t9=>?_) (fun t9=>?_) (st2:=(7,0))
 ·have hin : i < a.length := by simpa [aa] using t9
  obtain⟨q,hq⟩:=az hin;have hqs:=(ha q (mem_of_getElem? hq)).ok;have hl1:(rt q).num.length<=137438953472:=hqs.2.2.1;have hl2:(rt q).den.length<=137438953472:=hqs.2.2.2;refine gi (ay hq) ?_;refine gs (gf T43 rfl T349 rfl rfl rfl) ?_;refine gs (lS (.tmp rfl) rfl rfl (.tmp rfl) T43 rfl T349 rfl rfl (by simp only[length_map];omega) rfl rfl) ?_;refine gs (gf T43 rfl T349 rfl rfl rfl) ?_;refine gs (lS (.tmp rfl) rfl rfl (.tmp rfl) T43 rfl T349 rfl rfl (by simp only[length_map];omega) rfl rfl) ?_;refine gs (bO (.tmp rfl) rfl (by simp;omega) (.tmp rfl) T67 rfl T45 rfl rfl (by simp;omega) rfl rfl) ?_;refine gD ?_ (6,0);refine gW (Wk.of (sl:=[(3,some (.ms 25 3 0 (i+1))),(6,some (nA a)),(7,some (i64 a.length)),(8,some (i64 i))]) (hp:=[(25,some (.row 3 ((a.take (i+1)).map qA)))]) aR (.cons rfl (BlkSub.of (by rw[cD hq,map_append];rfl)) .nil)) ?_ (6,0);refine gW (Wk.rk (k:=25) (d:=900) rfl rfl) ?_;refine ga aE ?_;exact aH J1 (i+1) hin
 have hin:i=a.length:=by have:a.length<=i:=(by simpa[aa]using t9);omega
 subst hin;refine gW ((Wk.freeze (k:=900) rfl).trans<|Wk.of (sl:=[(3,some (nA a))]) (hp:=[]) (.cons rfl (Sub.of (by rw[bD (by simp),take_length];rfl)) .nil) .nil) ?_;refine ae ?_;rfl
end Go.Lw
