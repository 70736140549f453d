/- SingularMirrored: for any linkage and any turns the law returns true and leaves its arguments as they were. No other condition. Part 4 of 8: what the later parts need -/
import Derived.Test.YtpdiojikejnehaaGreatRc
import Derived.Test.YtpdiojikejnehaaGreatRows
set_option linter.unusedVariables false
open List (mem_append nil_append append_nil drop_drop map_take)
open List renaming mem_of_getElem? → Xx, mem_cons_of_mem → X8, map_cons → Yi, mem_cons → X6, length_cons → XK, mem_cons_self → X7, length_append → XZ, length_nil → XM, getD_eq_getElem?_getD → Xy, getElem?_eq_none → XN, all_eq_true → X9, getElem?_take → X0, getElem?_map → XE, getElem?_eq_getElem → XC, drop_eq_nil_of_le → X2, getElem?_replicate → X1, map_append → XQ, length_take → XO, take_of_length_le → XR, drop_zero → Yh, take_length → XP, not_mem_nil → XV, length_map → XA, length_replicate → X5, map_replicate → Yc, map_set → Yg, length_set → Yj
open Nat renaming le_refl → XD, lt_of_lt_of_le → XS, lt_or_ge → XH, le_trans → XW, mul_le_mul_right → XY, mul_le_mul_left → XL, zero_le → XJ, pow_add → Yb, lt_of_le_of_lt → XX
open Option renaming map_eq_some_iff → XB
open Bool renaming and_eq_true → XF, or_eq_true → Yf
open Int renaming toNat_natCast → X3, natAbs_natCast → X4
open Go.Proofs.Tryz
namespace Go.Lw
theorem BW:∀(j k v:Nat),j<=k->(bm k v).take j=bm j v
 |0,_,_,_=>by simp[bm]
 |j+1,0,_,h=>by omega
 |j+1,k+1,v,h=>by
  rw[bm,bm,List.take_succ_cons,BW j k _ oz]
theorem Je{m:List Nat}(h:Ws m):(ofNat (val m)).length<=m.length:=fj (b9 m h)
theorem Hn{m:List Nat}(h:Ws m):m.take (ofNat (val m)).length=ofNat (val m):=by
 have h1:=tz m h;have h2:=tz (ofNat (val m)) (dk _);rw[cg]at h2;have h3:=BW _ _ (val m) (Je h);rw[<- h1,<- h2]at h3;exact h3
theorem E4{m:List Nat}{n:Nat}(h:Ws m)(hn:n<=m.length)(hv:val (m.take n)=val m)(h0:n=0\/ah m (n-1)≠0):n=(ofNat (val m)).length:=by
 have h1:m.take n=ofNat (val m):=by
  refine HJ (fT h n) ?_ hv;intro x hx;rcases h0 with h0 |h0
  ·subst h0;simp at hx
  ·have hn0 : n ≠ 0 := by intro h3; subst h3; simp at hx
   rw[List.getLast?_eq_getElem?,XO,Nat.min_eq_left hn,X0,Yl oz,iY oz]at hx;cases hx;exact h0
 rw[<- h1,XO,Nat.min_eq_left hn]
theorem AO(l:List Nat)(i:Nat):val l=val (l.take i)+4294967296^i*val (l.drop i):=by
 rcases XH i l.length with h |h
 ·exact z5 oz
 ·rw[eT h,X2 h];simp[val]
theorem tX(l:List Nat)(i:Nat):val (l.drop i)=ah l i+4294967296*val (l.drop (i+1)):=by
 rcases XH i l.length with h |h
 ·exact pj h
 ·rw[p6 h,X2 h,X2 oz];rfl
theorem JE{a b:List Nat}{i:Nat}(ha:Ws a)(he:val (a.drop (i+1))=val (b.drop (i+1)))(hx:ah a i<ah b i):val a<val b:=by
 rw[AO a (i+1),AO b (i+1),he];have:=Gu ha hx;omega
theorem Ly{xs ys:List AV}(hl:xs.length=ys.length)(h1:∀(j:Nat)(y:AV),ys[j]?=some y->y.one=true)(h:∀(j:Nat)(x y:AV),xs[j]?=some x->ys[j]?=some y->Sub x y):Sub (.agg xs) (.agg ys):=by
 intro g S m v hr;cases hr with
 |agg hn h2 hr =>
  refine .agg (hn.trans hl) h1 ?_;intro j u c hu hc
  have hj:j<xs.length:=by
   rw[hl];rcases XH j ys.length with h |h
   ·exact h
   ·rw[XN h]at hc;cases hc
  exact h j _ c (XC hj) hc _ _ _ _ (hr j u _ hu (XC hj))
theorem Sy:Sub (.agg [.v (.bool false),.v (.slice none 0 0)]) (zA 0):=by
 show Sub (.agg [.v (.bool false),.v (.slice none 0 0)]) (.agg [bl false,ws []]);refine Ly rfl ?_ ?_
 ·intro j y hy
  match j,hy with
  |0,hy=>cases hy;rfl
  |1,hy=>cases hy;rfl
 ·intro j x y hx hy
  match j,hx,hy with
  |0,hx,hy=>cases hx;cases hy;exact Sub.refl _
  |1,hx,hy=>cases hx;cases hy;exact Sub.nil _ _ _
theorem Gn{out:List Nat}{i x:Nat}(h:out.length=i):val (out++[x])=val out+4294967296^i*x:=by
 rw[qF,h];simp[val]
theorem F5{o c P x y u w:Nat}(hu:u<4294967296)(hw:w<4294967296)(hc:c<=1)(h:o+y=x+c*P) :
  (o+P*((4294967296+u-w-c)%4294967296))+(y+P*w)=(x+P*u)+(1-(4294967296+u-w-c)/2^32)*(P*4294967296):=by
 have h0:(4294967296+u-w-c)%4294967296+w+c=u+(1-(4294967296+u-w-c)/2^32)*4294967296:=by omega
 generalize(1-(4294967296+u-w-c)/2^32)=q at *;generalize(4294967296+u-w-c)%4294967296=r at *;grind
theorem EX{a b out:List Nat}{c:Nat}(ha:Ws a)(hw:Ws out)(ho:out.length=a.length)(hle:val b<=val a)
  (h:val out+val (b.take a.length)=val (a.take a.length)+c*4294967296^a.length):val out=val a-val b:=by
 have hb:=AO b a.length;have h2:=b9 a ha
 have h3:val (b.drop a.length)=0:=by
  rcases Nat.eq_zero_or_pos (val (b.drop a.length))with h4 |h4
  ·exact h4
  ·have:=XL (4294967296^a.length) h4;omega
 rw[h3,Nat.mul_zero,Nat.add_zero]at hb;rw[<- hb,XP]at h;have h1:=b9 out hw;rw[ho]at h1;cases c with
 |zero=>omega
 |succ c=>rw[Nat.succ_mul]at h;omega
theorem G4{z:Int}{k:Nat}(h:Lz k z)(hk:k<=a8):(ofInt z).ok:=⟨dk _,XW h.len hk⟩
theorem HL{z:Int}{k:Nat}(h:Lz k z):(ofInt z).mag.length<=k:=h.len
theorem Pw(x y:Int):(x-y).sign=gp x y:=by
 unfold gp;have h:=yH (x-y)
 (repeat' split) <;> omega
open Go.Proofs
theorem lw(m:List Nat)(i:Nat)(hm:Ws m):FP 375 [ws m,i64 i] (u64 (ah m i)):=by
 refine aj func375 ?_;refine gl ?_;refine gC (fun t8=>?_) (fun t8=>?_)
 ·simp[aa]at t8;have:=bW hm i;refine gi (ci (i:=i) t8) ?_;refine gv (u64_in oz) ?_;refine af ?_;rfl
 simp[aa]at t8;refine af ?_;simp[u64,p6 t8]
theorem IV(w:Wh)(h:w.ok):FP 368 [w.av] (bl w.valid):=by
 have hl:w.mag.length<=a8:=h.2;refine aj func368 ?_;refine gl ?_;refine gC (fun t6=>?_) (fun t6=>?_)
 ·have h0 : w.mag = [] := by simpa [aa] using t6
  refine af ?_;simp[bl,Wh.valid,h0]
 have h0:w.mag.length≠0:=by simpa[aa]using t6
 refine gl ?_;refine ga (ji oz oz) ?_;refine gi (ci (i:=w.mag.length-1) oz) ?_;refine af ?_;have h1:w.mag≠[]:=fun h=>h0 (by rw[h];rfl)
 simp only[bl,Wh.valid,Yk h1,List.getLast?_eq_getElem?,iY (show w.mag.length-1<w.mag.length by omega),aa];congr 2;generalize ah w.mag _=x;rw[Bool.eq_iff_iff];simp
theorem kp(w:Wh)(h:w.ok):FP 312 [w.av] (ws w.m):=by
 refine aj func312 ?_;refine gc (IV w h) ?_;refine gC (fun t5=>?_) (fun t5=>?_)
 ·have h0 : w.valid = false := by simpa [aa] using t5
  refine gR ?_;exact l0 (by rw[show w.m=[] by simp[Wh.m,h0]];exact Sub.nil _ _ _)
 have h0:w.valid=true:=by simpa[aa]using t5
 refine af ?_;simp only[Wh.m,h0];rfl
theorem iO(w:Wh)(h:w.ok):FP 313 [w.av] (bl w.n):=by
 refine aj func313 ?_;refine gc (IV w h) ?_;refine af ?_;simp only[Wh.n,bl];cases w.valid <;> rfl
theorem yj(d:Nat)(hd:Nat.blt d 1000=true)(m:List Nat)(hm:Ws m)(hb:m.length<=aD) :
  Con prog 362 [ws m] [] (.ms d 1 0 (ofNat (val m)).length) [(d,some (.row 1 (m.map u32)))]:=by
 have hb':=hb;unfold aD at hb;refine gF func362 (fun k z h=>by cases h) ?_;refine gs (iK T43 rfl T350 rfl rfl rfl) ?_;refine gs (bX (.tmp rfl) rfl rfl (.tmp rfl) T43 rfl T350 rfl rfl (by simp only[XA];omega) rfl rfl) ?_;refine aW [] [6] (fun(n:Nat)=>[(3,some (.ms 6 1 0 n))]) (fun _=>[]) (fun n=>n<=m.length/\val (m.take n)=val m) (fun n=>n) m.length ⟨XD _,by rw[XP]⟩ ?_ (h1:=(.cons rfl (Sub.of (by rw[XA,Nat.zero_add])) .nil));rintro n ⟨hn,hv⟩ K1 J1;refine oF (fun h=>(ji (by simp[aa]at h;omega) (by unfold a8;omega))) ?_;refine gs (fq rfl rfl rfl (fun h=>b8 (n:=n-1) (.opt rfl (o1 h)) (.opt rfl (o1 h)) T43 rfl T350 rfl oz (by simp[aa]at h;omega) rfl)) ?_;refine gs (fq rfl rfl rfl (fun h=>ez (.opt rfl (o1 h)) rfl (ci (i:=n-1) (by simp[aa]at h;omega)) T350 rfl rfl rfl)) ?_;refine gC (fun t18=>?_) (fun t18=>?_)
 ·have t18 : 0 < n /\ ah m (n - 1) = 0 := by simpa [aa] using t18
  refine ga (ji oz (by unfold a8;omega)) ?_;refine gs (wl (.tmp rfl) (.none _) (.some _ (.tmp rfl) oz) T43 rfl T350 rfl oz oz rfl) ?_;exact aO J1 (n-1) ⟨by omega,by have h:=@dj m (n-1);rw[show n-1+1=n by omega,t18.2]at h;simp at h;omega⟩ (hw:=Wk.of (.cons rfl (Sub.of (by congr 1)) .nil) (.k .nil))
 have t18:0<n->ah m (n-1)≠0:=by simpa[aa]using t18
 have hn1:=E4 hm hn hv (by rcases Nat.eq_zero_or_pos n with h |h;(exact .inl h);exact .inr (t18 h));subst hn1;refine gR ?_;exact az.own1 rfl hd rfl
theorem pu(m:List Nat)(hm:Ws m)(hb:m.length<=aD):FP 362 [ws m] (ws (ofNat (val m))):=by
 have h:=Con.freeze (by rw[XA,Nat.zero_add];exact Je hm) (yj 0 rfl m hm hb)
 rwa [Yh,<- map_take,Hn hm]at h
theorem jV(b:Bool)(m:List Nat)(hm:Ws m)(hb:m.length<=aD):FP 295 [bl b,ws m] (zA (sgn b (val m))):=by
 refine aj func295 ?_;refine gc (pu m hm hb) ?_;refine gl ?_;refine gC (fun t9=>?_) (fun t9=>?_)
 ·have h0:val m=0:=by
   have:=cg (val m);have h9:ofNat (val m)=[]:=List.length_eq_zero_iff.1 (by simpa[aa]using t9);rw[h9]at this;exact this.symm
  refine gR ?_;exact l0 (by rw[h0,show sgn b 0=0 by cases b <;> rfl];exact Sy)
 have h0:val m≠0:=by
  intro h;rw[h]at t9;cases t9
 refine af ?_
 rw[show zA (sgn b (val m))=.agg [bl b,ws (ofNat (val m))] by
  unfold zA ofInt Wh.av;rw[show(sgn b (val m)).natAbs=val m by unfold sgn;split <;> omega,show decide (sgn b (val m)<0)=b by cases b <;> simp[sgn] <;> omega]]
theorem yA(a b:List Nat)(ha:Ws a)(hb:Ws b):FP 335 [ws a,ws b] (i64 (if val a<val b then -1 else if val b<val a then 1 else 0)):=by
 refine aj func335 ?_ (0,0);refine r8 (t:=0) rfl (fun hla=>?_);refine r8 (t:=1) rfl (fun hlb=>?_);unfold a8 at hla hlb;refine go ?_;refine gl ?_;refine gl ?_;refine gs (vq (.tmp rfl) (.tmp rfl) rfl) ?_;refine ga (eg oz) ?_;refine aW [0,1] [] (fun(n:Nat)=>[(5,some (i64 ((n:Int)-1)))]) (fun _=>[]) (fun n=>n<=281474976710656/\val (a.drop n)=val (b.drop n)) (fun n=>n) (max a.length b.length) ⟨by omega,by rw[X2 oz,X2 oz]⟩ ?_ (h1:=(.cons rfl (Sub.int oz) .nil));rintro n ⟨hn,hd⟩ K1 J1;refine gC (fun t13=>?_) (fun t13=>?_)
 ·have hn0 : 1 <= n := by have := t13; simp [aa] at this; omega
  obtain⟨k,rfl⟩:∃k,n=k+1:=⟨n-1,by omega⟩
  have hk:((k+1:Nat):Int)-1=(k:Int):=by omega
  rw[hk];refine gc (lw a k ha) ?_;refine gc (lw b k hb) ?_;refine gC (fun t22=>?_) (fun t22=>?_)
  ·have h3 : ah a k ≠ ah b k := by simpa [aa, Int.ofNat_inj] using t22
   refine gc (lw a k ha) ?_;refine gc (lw b k hb) ?_;refine gC (fun t29=>?_) (fun t29=>?_)
   ·have h4 : ah a k < ah b k := by simpa [aa] using t29
    have h5:=JE ha hd h4;refine af ?_;simp[i64,h5]
   have h4:ah b k<ah a k:=by have:ah b k<=ah a k:=(by simpa[aa]using t29);omega
   have h5:=JE hb hd.symm h4;refine af ?_;simp[i64,h5,Nat.lt_asymm h5]
  have h3:ah a k=ah b k:=by simpa[aa,Int.ofNat_inj]using t22
  refine ga (eg oz) ?_;exact aO J1 k ⟨by omega,by rw[tX a,tX b,hd,h3]⟩
 have hn0:n=0:=by have:=t13;simp[aa]at this;omega
 subst hn0;refine af ?_;simp at hd;simp[i64,hd]
theorem BN(a b:List Nat)(ha:Ws a)(hb:Ws b)(la:a.length<aD)(lb:b.length<aD):FP 334 [ws a,ws b] (ws (ofNat (val a+val b))):=by
 unfold aD at la lb;obtain⟨n,hn⟩:∃n,n=max a.length b.length+1:=⟨_,rfl⟩
 refine aj func334 ?_;refine gl ?_;refine gl ?_;refine gs (vq (.tmp rfl) (.tmp rfl) rfl) ?_;refine ga (show _=(n:Int) by rw[du oz];omega) ?_;refine gW (Wk.virt 900 1 rfl) ?_;refine iQ [0,1,14] [] (fun(out:List Nat)(c i:Nat)=>[(5,some (.ms 900 1 0 i)),(6,some (u64 c)),(15,some (i64 i))]) (fun out _ _=>[(900,some (.row 1 (out.map u32)))]) (fun out c i=>out.length=i/\i<=n/\Ws out/\c<=1/\val out+c*4294967296^i=val (a.take i)+val (b.take i)) (fun _ _ i=>n-i) ([]) 0 0 ⟨rfl,by omega,ss,by omega,by simp[val]⟩ ?_;rintro out c i ⟨ho,hi,hw,hc,hv⟩ K1 J1;refine gC (fun t16=>?_) (fun t16=>?_) (st2:=(9,0))
 ·have hin : i < n := by simpa [aa] using t16
  have h1:=bW ha i;have h2:=bW hb i;obtain⟨s,hs⟩:∃s,s=c+(ah a i+ah b i):=⟨_,rfl⟩
  have h3:=yb (u:=ah a i) (w:=ah b i) hv;rw[<- hs]at h3;refine gc (by apply lw <;> assumption) ?_;refine gc (by apply lw <;> assumption) ?_;refine ga (iF oz) ?_;refine ga ((iF oz).trans (show _=(s:Int) by congr 1;omega)) ?_;refine gv (dK _) ?_;refine gs (bX (.tmp rfl) rfl (by rw[XA,ho]) (.tmp rfl) T43 rfl T350 rfl rfl (by simp;omega) rfl rfl) ?_;refine gs (eM (.tmp rfl) (.const _) oz (gI _ 32 oz) rfl) ?_ (8,0);refine gW (Wk.of (sl:=[(0,some (ws a)),(1,some (ws b)),(5,some (.ms 31 1 0 (i+1))),(6,some (u64 (s/2^32))),(14,some (i64 n)),(15,some (i64 i))]) (hp:=[(31,some (.row 1 ((out++[s%4294967296]).map u32)))]) aZ (.cons rfl (BlkSub.of (by rw[XQ];rfl)) .nil)) ?_ (8,0);refine gW (Wk.rk (k:=31) (d:=900) rfl rfl) ?_;refine ga (du oz) ?_;exact gS J1 (out++[s%4294967296]) (s/2^32) (i+1) ⟨by simp[ho],by omega,uS hw (rN oz),by omega,by rw[Gn ho,dj,dj,Nat.pow_succ];exact h3⟩
 have hin:i=n:=by have:n<=i:=(by simpa[aa]using t16);omega
 refine gW ((Wk.freeze (k:=900) rfl).trans<|Wk.of (sl:=[(5,some (ws out))]) (hp:=[]) (.cons rfl (Sub.of (bJ (by simp[ho]))) .nil) .nil) ?_;refine gc (pu out hw (by unfold aD;omega)) ?_;refine af ?_;subst hin;rw[DA ha hb hn ho (by rw[eT (l:=out) oz];exact hv)]
theorem A9(a b:List Nat)(ha:Ws a)(hb:Ws b)(la:a.length<aD)(hle:val b<=val a):FP 336 [ws a,ws b] (ws (ofNat (val a-val b))):=by
 unfold aD at la;obtain⟨n,hn⟩:∃n,n=a.length:=⟨_,rfl⟩
 refine aj func336 ?_;refine gl ?_;refine gW (Wk.virt 900 1 rfl) ?_;refine iQ [0,1] [] (fun(out:List Nat)(c i:Nat)=>[(5,some (.ms 900 1 0 i)),(6,some (u64 c)),(10,some (i64 n)),(11,some (i64 i))]) (fun out _ _=>[(900,some (.row 1 (out.map u32)))]) (fun out c i=>out.length=i/\i<=n/\Ws out/\c<=1/\val out+val (b.take i)=val (a.take i)+c*4294967296^i) (fun _ _ i=>n-i) ([]) 0 0 ⟨rfl,by omega,ss,by omega,by simp[val]⟩ ?_ (h1:=(.k (.k (.cons rfl (Sub.int (by rw[hn])) (.k .nil)))))
 rintro out c i ⟨ho,hi,hw,hc,hv⟩ K1 J1;refine gC (fun t12=>?_) (fun t12=>?_) (st2:=(9,0))
 ·have hin : i < n := by simpa [aa] using t12
  have h1:=bW ha i;have h2:=bW hb i;obtain⟨s,hs⟩:∃s,s=4294967296+ah a i-ah b i-c:=⟨_,rfl⟩
  have h3:=F5 h1 h2 hc hv;rw[<- hs]at h3;refine gc (by apply lw <;> assumption) ?_;refine ga ((iF (x:=4294967296) oz)) ?_;refine gc (by apply lw <;> assumption) ?_;refine ga ((kL oz oz).trans (by rw[Yl oz])) ?_;refine ga ((kL oz oz).trans (show _=(s:Int) by rw[Yl oz];congr 1;omega)) ?_;refine gv (dK _) ?_;refine gs (bX (.tmp rfl) rfl (by rw[XA,ho]) (.tmp rfl) T43 rfl T350 rfl rfl (by simp;omega) rfl rfl) ?_;refine gs (eM (.tmp rfl) (.const _) oz (gI _ 32 oz) rfl) ?_;refine ga ((kL (x:=1) oz oz).trans (by rw[Yl oz])) ?_ (8,0);refine gW (Wk.of (sl:=[(0,some (ws a)),(1,some (ws b)),(5,some (.ms 28 1 0 (i+1))),(6,some (u64 (1-s/2^32:Nat))),(10,some (i64 n)),(11,some (i64 i))]) (hp:=[(28,some (.row 1 ((out++[s%4294967296]).map u32)))]) aZ (.cons rfl (BlkSub.of (by rw[XQ];rfl)) .nil)) ?_ (8,0);refine gW (Wk.rk (k:=28) (d:=900) rfl rfl) ?_;refine ga (du oz) ?_;exact gS J1 (out++[s%4294967296]) (1-s/2^32) (i+1) ⟨by simp[ho],by omega,uS hw (rN oz),by omega,by rw[Gn ho,dj,dj,Nat.pow_succ];exact h3⟩
 have hin:i=n:=by have:n<=i:=(by simpa[aa]using t12);omega
 refine gW ((Wk.freeze (k:=900) rfl).trans<|Wk.of (sl:=[(5,some (ws out))]) (hp:=[]) (.cons rfl (Sub.of (bJ (by simp[ho]))) .nil) .nil) ?_;refine gc (pu out hw (by unfold aD;omega)) ?_;refine af ?_;subst hin;subst hn;rw[EX ha hw ho hle hv]
theorem ML(a b:List Nat)(ha:Ws a)(hb:Ws b)(la:a.length+b.length<=aD):FP 337 [ws a,ws b] (ws (ofNat (val a*val b))):=by
 have la':=la;unfold aD at la;refine aj func337 ?_;refine gl ?_;refine gl ?_;refine ga (iZ (by unfold a8;omega) (by unfold a8;omega)) ?_;refine gs (gV (.tmp rfl) T43 rfl T350 rfl rfl oz (by dsimp only;omega) rfl) ?_;refine gl ?_;refine gz [0,1,17] [] (fun(out:List Nat)(i:Nat)=>[(5,some (.ms 15 1 0 (a.length+b.length))),(18,some (i64 i))]) (fun out _=>[(15,some (.row 1 (out.map u32)))]) (fun out i=>out.length=a.length+b.length/\i<=a.length/\Ws out/\val (out.take (i+b.length))=val (a.take i)*val b) (fun _ i=>a.length-i) (List.replicate (a.length+b.length) 0) 0 ⟨by simp,by omega,lA _,by simp[val,vl]⟩ ?_ (h2:=(.cons rfl (BlkSub.of (by rw[Yc];rfl)) .nil))
 rintro out i ⟨ho,hi,hw,hv⟩ K1 J1;refine gC (fun t19=>?_) (fun t19=>?_) (st2:=(14,0))
 ·have hin : i < a.length := by simpa [aa] using t19
  have h1:=bW ha i;refine gl ?_;refine iQ [0,1,17,18,6,22] [] (fun(o:List Nat)(c k:Nat)=>[(5,some (.ms 15 1 0 (a.length+b.length))),(7,some (u64 c)),(23,some (i64 k))]) (fun o _ _=>[(15,some (.row 1 (o.map u32)))]) (fun o c k=>o.length=a.length+b.length/\k<=b.length/\Ws o/\c<4294967296/\val (o.take (i+b.length))+c*4294967296^(i+k)=val (out.take (i+b.length))+4294967296^i*(ah a i*val (b.take k))) (fun _ _ k=>b.length-k) out 0 0 ⟨ho,by omega,hw,by omega,by simp[val]⟩ ?_
  rintro o c k ⟨ho2,hk,hw2,hc,hv2⟩ K2 J2;refine gC (fun t24=>?_) (fun t24=>?_)
  ·have hkn : k < b.length := by simpa [aa] using t24
   have h2:=bW hb k;have h3:=bW hw2 (i+k);have h4:=wN h1 h2;obtain⟨s,hs⟩:∃s,s=c+(ah a i*ah b k+ah o (i+k)):=⟨_,rfl⟩
   have h5:=Iu (x:=s%4294967296) (show i+k<o.length by omega) (show i+k<i+b.length by omega);have h6:=G9 h5 hs hv2;refine gi (gw (n:=i) oz (by first |omega |(simp;omega))) ?_;refine gv (u64_in oz) ?_;refine gi (gw (n:=k) oz (by first |omega |(simp;omega))) ?_;refine gv (u64_in oz) ?_;refine ga (vR oz) ?_;refine ga (iZ (by unfold a8;omega) (by unfold a8;omega)) ?_;refine gs (b8 (n:=i+k) (.tmp rfl) (.tmp rfl) T43 rfl T350 rfl oz (by first |omega |(simp;omega)) rfl) ?_;refine gs (ez (.tmp rfl) rfl (ci (i:=i+k) oz) T350 rfl rfl rfl) ?_;refine gv (u64_in oz) ?_;refine ga (iF oz) ?_;refine ga ((iF oz).trans (show _=(s:Int) by congr 1;omega)) ?_;refine gD ?_;refine ga (iZ (by unfold a8;omega) (by unfold a8;omega)) ?_;refine gv (dK _) ?_;refine gs (eM (.tmp rfl) (.const _) oz (gI _ 32 oz) rfl) ?_;refine gs (b8 (n:=i+k) (.tmp rfl) (.tmp rfl) T43 rfl T350 rfl oz (by first |omega |(simp;omega)) rfl) ?_;refine gs (dT (.tmp rfl) rfl (ci (i:=i+k) oz) rfl (.tmp rfl) rfl rfl T350 rfl rfl) ?_;refine ga (du oz) ?_;exact gS J2 (o.set (i+k) (s%4294967296)) (s/2^32) (k+1) ⟨by simp[ho2],by omega,f7 hw2 oz,by omega,by rw[show i+(k+1)=(i+k)+1 from rfl,show s/2^32=s/4294967296 from rfl,Nat.pow_succ,h6,dj];simp only[Yb];grind⟩ (hw:=Wk.of aZ (.cons rfl (BlkSub.of (by rw[Yg];rfl)) .nil))
  have hkn:k=b.length:=by have:b.length<=k:=(by simpa[aa]using t24);omega
  subst hkn;have h5:=lO (x:=c) (show i+b.length<o.length by omega);rw[XP]at hv2;refine gl ?_;refine ga (iZ (by unfold a8;omega) (by unfold a8;omega)) ?_;refine gv ((dK c).trans (by rw[Nat.mod_eq_of_lt hc])) ?_;refine gs (b8 (n:=i+b.length) (.tmp rfl) (.tmp rfl) T43 rfl T350 rfl oz (by first |omega |(simp;omega)) rfl) ?_;refine gs (dT (.tmp rfl) rfl (ci (i:=i+b.length) oz) rfl (.tmp rfl) rfl rfl T350 rfl rfl) ?_;refine ga (du oz) ?_;exact fU J1 (o.set (i+b.length) c) (i+1) ⟨by simp[ho2],by omega,f7 hw2 hc,by rw[show i+1+b.length=i+b.length+1 by omega,h5,dj];simp only[Yb]at *;grind⟩ (hw:=Wk.of aZ (.cons rfl (BlkSub.of (by rw[Yg];rfl)) .nil))
 have hin:i=a.length:=by have:a.length<=i:=(by simpa[aa]using t19);omega
 subst hin;rw[XP,eT oz]at hv;refine gW ((Wk.freeze (k:=15) rfl).trans<|Wk.of (sl:=[(5,some (ws out))]) (hp:=[]) (.cons rfl (Sub.of (bJ (by simp[ho]))) .nil) .nil) ?_;refine gc (pu out hw oz) ?_;refine af ?_;rw[hv]
theorem AE(a:Wh)(ha:a.ok):FP 221 [a.av] (i64 a.z.sign):=by
 obtain⟨e1,e2,e3⟩:=Fe ha;refine aj func221 ?_;refine gc (kp a ha) ?_;refine gl ?_;refine gC (fun t6=>?_) (fun t6=>?_)
 ·have h0 : a.m.length = 0 := by simpa [aa] using t6
  refine af ?_;rw[e1 h0];rfl
 have h0:a.m.length≠0:=by simpa[aa]using t6
 have hval:a.valid=true:=by
  unfold Wh.m at h0;split at h0
  ·assumption
  ·exact absurd rfl h0
 refine gc (iO a ha) ?_;refine gC (fun t8=>?_) (fun t8=>?_)
 ·have h1 : a.neg = true := by unfold Wh.n at t8; rw [hval] at t8; simpa using t8
  refine af ?_;rw[e2 h0 h1];rfl
 have h1:a.neg=false:=by unfold Wh.n at t8;rw[hval]at t8;simpa using t8
 refine af ?_;rw[e3 h0 h1];rfl
theorem C3(a:Wh)(ha:a.ok)(la:a.mag.length<aD):FP 292 [a.av] (zA (-a.z)):=by
 refine aj func292 ?_;refine gc (iO a ha) ?_;refine gc (kp a ha) ?_;refine gc (jV _ a.m (Wh.ws ha) (Nat.le_of_lt (Wh.small ha la))) ?_;refine gD ?_;refine af ?_;rw[Wh.z_eq,<- GW];rfl
theorem UI(a b:Wh)(ha:a.ok)(hb:b.ok)(la:a.mag.length+b.mag.length<=aD):FP 248 [a.av,b.av] (zA (a.z*b.z)):=by
 have h1:=Wh.m_le (w:=a);have h2:=Wh.m_le (w:=b);have h3:(ofNat (val a.m*val b.m)).length<=a.m.length+b.m.length:=fj (by rw[Yb];exact Nat.mul_lt_mul'' (b9 _ (Wh.ws ha)) (b9 _ (Wh.ws hb)));refine aj func248 ?_;refine gc (iO a ha) ?_;refine gc (iO b hb) ?_;refine gc (kp a ha) ?_;refine gc (kp b hb) ?_;refine gc (ML a.m b.m (Wh.ws ha) (Wh.ws hb) oz) ?_;refine gc (jV _ _ (dk _) oz) ?_;refine gD ?_;refine af ?_;rw[cg,Cv];rfl
theorem DL(a b:Wh)(ha:a.ok)(hb:b.ok)(la:a.mag.length<aD)(lb:b.mag.length<aD):FP 247 [a.av,b.av] (zA (a.z+b.z)):=by
 have h1:=Wh.m_le (w:=a);have h2:=Wh.m_le (w:=b);have hla:val a.m<4294967296^(max a.m.length b.m.length):=XS (b9 _ (Wh.ws ha)) (Nat.pow_le_pow_right oz oz);have hlb:val b.m<4294967296^(max a.m.length b.m.length):=XS (b9 _ (Wh.ws hb)) (Nat.pow_le_pow_right oz oz);have h3:(ofNat (val a.m+val b.m)).length<=max a.m.length b.m.length+1:=fj (by rw[Nat.pow_succ];omega);have h4:(ofNat (val a.m-val b.m)).length<=max a.m.length b.m.length:=fj oz;have h5:(ofNat (val b.m-val a.m)).length<=max a.m.length b.m.length:=fj oz;refine aj func247 ?_;refine gc (kp a ha) ?_;refine gc (kp b hb) ?_;refine gD ?_;refine gc (iO a ha) ?_;refine gc (iO b hb) ?_;refine gD ?_;refine gC (fun t15=>?_) (fun t15=>?_)
 ·have h0 : a.n = b.n := by simpa using t15
  refine gc (iO a ha) ?_;refine gc (BN a.m b.m (Wh.ws ha) (Wh.ws hb) oz oz) ?_;refine gc (jV _ _ (dk _) oz) ?_;refine af ?_;rw[cg,Cm h0];rfl
 have h0:a.n≠b.n:=by simpa using t15
 refine gc (yA a.m b.m (Wh.ws ha) (Wh.ws hb)) ?_;refine gC (fun t25=>?_) (fun t25=>?_)
 ·have h6:val b.m<=val a.m:=by
   rcases XH (val a.m) (val b.m)with h |h
   ·rw[Yl h]at t25;cases t25
   ·exact h
  refine gc (iO a ha) ?_;refine gc (A9 a.m b.m (Wh.ws ha) (Wh.ws hb) oz oz) ?_;refine gc (jV _ _ (dk _) oz) ?_;refine af ?_;rw[cg,BV h0 h6];rfl
 have h6:val a.m<val b.m:=by
  rcases XH (val a.m) (val b.m)with h |h
  ·exact h
  ·rw[Yk oz]at t25;split at t25 <;> cases t25
 refine gc (iO b hb) ?_;refine gc (A9 b.m a.m (Wh.ws hb) (Wh.ws ha) oz oz) ?_;refine gc (jV _ _ (dk _) oz) ?_;refine af ?_;rw[cg,I4 h0 oz];rfl
theorem FM(n:Int)(h:-9223372036854775808<=n/\n<=9223372036854775807):FP 188 [i64 n] (zA n):=by
 obtain⟨N,hN⟩:∃N,N=n.natAbs:=⟨_,rfl⟩
 have hNB:N<18446744073709551616:=by omega
 refine aj func188 ?_;refine gv (show IntKind.u64.wrap n=((n%18446744073709551616:Int)) by simp only[IntKind.wrap,IntKind.signed,IntKind.bits,Bool.false_and,if_false,Bool.false_eq_true];omega) ?_;refine gC (fun t7=>?_) (fun t7=>?_) (st2:=(77777,0))
 ·have hn : n < 0 := by simpa [aa] using t7
  refine gs (vm (.tmp rfl) rfl) ?_ (4,0);refine gW (Wk.of (sl:=[(0,some (i64 n)),(2,some (.ptr 2 0)),(3,some (u64 N))]) (hp:=[(2,some (.box [.v (.bool false),nS]))]) (.k (.k (.cons rfl (Sub.int (by simp only[IntKind.wrap,IntKind.signed,IntKind.bits,Bool.false_and,if_false,Bool.false_eq_true];omega)) .nil))) (.k .nil)) ?_;refine gv (dK _) ?_;refine gs (eM (.tmp rfl) (.const _) oz (gI _ 32 oz) rfl) ?_;refine gv ((dK _).trans (by rw[Nat.mod_eq_of_lt (show N/2^32<4294967296 by omega)])) ?_;refine gc (jV (aa .lss n 0) [N%4294967296,N/2^32] (v7 hNB) (by unfold aD;simp)) ?_;refine af ?_;rw[xF hNB,show sgn (aa .lss n 0) N=n by simp only[sgn,aa,decide_eq_true_eq];split <;> omega];rfl
 have hn:¬n<0:=by simpa[aa]using t7
 refine gW (Wk.of (sl:=[(0,some (i64 n)),(2,some (.ptr 2 0)),(3,some (u64 N))]) (hp:=[(2,some (.box [.v (.bool false),nS]))]) (.k (.k (.cons rfl (Sub.int oz) .nil))) (.k .nil)) ?_;refine gv (dK _) ?_;refine gs (eM (.tmp rfl) (.const _) oz (gI _ 32 oz) rfl) ?_;refine gv ((dK _).trans (by rw[Nat.mod_eq_of_lt (show N/2^32<4294967296 by omega)])) ?_;refine gc (jV (aa .lss n 0) [N%4294967296,N/2^32] (v7 hNB) (by unfold aD;simp)) ?_;refine af ?_;rw[xF hNB,show sgn (aa .lss n 0) N=n by simp only[sgn,aa,decide_eq_true_eq];split <;> omega];rfl
theorem SV(a b:Wh)(ha:a.ok)(hb:b.ok)(la:a.mag.length<aD)(lb:b.mag.length<aD):FP 374 [a.av,b.av] (zA (a.z-b.z)):=by
 have h1:=(Wh.lz hb).neg;have h2:=HL h1;refine aj func374 ?_;refine gc (C3 b hb lb) ?_;refine gc (DL a (ofInt (-b.z)) ha (G4 h1 hb.2) la oz) ?_;refine gD ?_;refine af ?_;rw[dU,<- Int.sub_eq_add_neg];rfl
theorem O8(a b:Wh)(ha:a.ok)(hb:b.ok)(la:a.mag.length<aD)(lb:b.mag.length<aD):FP 327 [a.av,b.av] (i64 (gp a.z b.z)):=by
 have h1:=(Wh.lz ha).sub (Wh.lz hb);have h2:=HL h1;refine aj func327 ?_;refine gc (SV a b ha hb la lb) ?_;refine gc (AE (ofInt (a.z-b.z)) (G4 h1 (by unfold a8;unfold aD at la lb;omega))) ?_;refine af ?_;rw[dU,Pw]
theorem pK{A:List Nat}{n:Nat}:AV.lst 1 (((A.map u32).drop 0).take n)=ws (A.take n):=by
 rw[Yh,<- map_take];rfl
theorem Jc(A:List Nat):(Blk.row 1 (A.map u32)).sc=true:=by
 simp only[Blk.sc,List.all_map];rw[X9];intro x _;rfl
theorem oi{A:List Nat}{n i:Nat}(h:i<n):ah (A.take n) i=ah A i:=by
 simp[ah,h]
theorem FR{A:List Nat}{n i:Nat}(h:n<=i):ah (A.take n) i=0:=p6 (by simp;omega)
theorem Ll{x:Nat}(h:0<x):ba x=ba (x/2)+1:=by
 rcases XH x 2 with h1 |h1
 ·have : x = 1 := by omega
  subst this;decide
 ·have:=sJ (x:=x) (k:=1) oz;rw[show x/2^1=x/2 from rfl]at this;omega
theorem Uv{a:List Nat}{n:Nat}(ha:Ws a)(na:Nz a)(hl:a.length=n+1):ba (val a)=32*n+ba (ah a n):=by
 have ht:ah a n≠0:=by
  refine na _ ?_;rw[List.getLast?_eq_getElem?,hl];exact iY oz
 have hv:val a=val (a.take n)+4294967296^n*ah a n:=by rw[<- dj,eT oz]
 have hlt:=oc ha n;have hp:(4294967296:Nat)^n=2^(32*n):=by rw[Nat.pow_mul]
 rw[hp]at hv hlt
 have h1:val a/2^(32*n)=ah a n:=by
  rw[hv,Nat.add_mul_div_left _ _ (Nat.pow_pos oz),Nat.div_eq_of_lt hlt,Nat.zero_add]
 have h2:2^(32*n)<=val a:=by
  have:=XL (2^(32*n)) (show 1<=ah a n by omega);omega
 rw[sJ h2,h1]
theorem Ij{o A:List Nat}{n v:Nat}(ho:Ws o)(hl:o.length=A.length)(hn:n<=A.length)(hd:o.drop n=A.drop n)(hv:val (o.take n)=v):o=wr A 0 (bm n v):=by
 have h1:bw o 0 n=bm n v:=vB (mS ho _ _) (n7 oz) (by rw[bw,Yh,hv]);rw[<- h1];exact yE (by simp) (by rw[Nat.zero_add];exact hd) oz
theorem yp(k:Nat)(A:List Nat)(n i:Nat)(hA:Ws A)(hn:n<=A.length) :
  Con prog 375 [.ms k 1 0 n,i64 i] [(k,some (.row 1 (A.map u32)))] (u64 (ah (A.take n) i)) [(k,some (.row 1 (A.map u32)))]:=by
 refine Con.borrow (args:=[ws (A.take n),i64 i]) k 1 (A.map u32) rfl rfl rfl ?_ rfl (fun k' x h=>by cases h) (lw (A.take n) i (fT hA n));intro j x' hj
 match j,hj with
 |0,hj=>cases hj;exact .inr ⟨0,n,rfl,by simpa using hn,by rw[pK];rfl⟩
 |1,hj=>cases hj;exact .inl rfl
theorem VA(k1 k2:Nat)(hk:k1≠k2)(A D:List Nat)(n p:Nat)(hA:Ws A)(hD:Ws D)(hn:n<=A.length)(hp:p<=D.length) :
  Con prog 335 [.ms k1 1 0 n,.ms k2 1 0 p] [(k1,some (.row 1 (A.map u32))),(k2,some (.row 1 (D.map u32)))]
   (i64 (if val (A.take n)<val (D.take p)then -1 else if val (D.take p)<val (A.take n)then 1 else 0)) [(k1,some (.row 1 (A.map u32))),(k2,some (.row 1 (D.map u32)))]:=by
 have h1:Con prog 335 [ws (A.take n),.ms k2 1 0 p] [(k2,some (.row 1 (D.map u32)))]
   (i64 (if val (A.take n)<val (D.take p)then -1 else if val (D.take p)<val (A.take n)then 1 else 0)) [(k2,some (.row 1 (D.map u32)))]:=by
  refine Con.borrow (args:=[ws (A.take n),ws (D.take p)]) k2 1 (D.map u32) rfl rfl rfl ?_ rfl (fun k' x h=>by cases h) (yA (A.take n) (D.take p) (fT hA n) (fT hD p));intro j x' hj
  match j,hj with
  |0,hj=>cases hj;exact .inl rfl
  |1,hj=>cases hj;exact .inr ⟨0,p,rfl,by simpa using hp,by rw[pK];rfl⟩
 refine Con.borrow (args:=[ws (A.take n),.ms k2 1 0 p]) k1 1 (A.map u32) ?_ ?_ rfl ?_ rfl ?_ h1
 ·rw[aT,Yk hk];rfl
 ·rw[aT,Yk hk];rfl
 ·intro j x' hj
  match j,hj with
  |0,hj=>cases hj;exact .inr ⟨0,n,rfl,by simpa using hn,by rw[pK];rfl⟩
  |1,hj=>cases hj;exact .inl rfl
 ·intro k' x h;obtain⟨_,h⟩:=fC h;cases h;exact Jc D
theorem TG(k:Nat)(A b:List Nat)(n:Nat)(hA:Ws A)(hb:Ws b)(hn:n<=A.length) :
  Con prog 335 [.ms k 1 0 n,ws b] [(k,some (.row 1 (A.map u32)))]
   (i64 (if val (A.take n)<val b then -1 else if val b<val (A.take n)then 1 else 0)) [(k,some (.row 1 (A.map u32)))]:=by
 refine Con.borrow (args:=[ws (A.take n),ws b]) k 1 (A.map u32) rfl rfl rfl ?_ rfl (fun k' x h=>by cases h) (yA (A.take n) b (fT hA n) hb);intro j x' hj
 match j,hj with
 |0,hj=>cases hj;exact .inr ⟨0,n,rfl,by simpa using hn,by rw[pK];rfl⟩
 |1,hj=>cases hj;exact .inl rfl
theorem Xi(a:List Nat)(ha:Ws a)(na:Nz a)(la:a.length<=aD):FP 389 [ws a] (i64 (ba (val a))):=by
 unfold aD at la;refine aj func389 ?_;refine gl ?_;refine gC (fun t7=>?_) (fun t7=>?_)
 ·have h0 : a=[] := List.length_eq_zero_iff.1 (by simpa[aa]using t7);refine af ?_;subst h0;rfl
 have h0:a.length≠0:=by simpa[aa]using t7
 obtain⟨n,hn⟩:∃n,a.length=n+1:=⟨a.length-1,by omega⟩
 have hB:=Uv ha na hn;have ht:=bW ha n;refine gl ?_;refine ga (show _=(n:Int) by rw[eg oz];omega) ?_;refine ga (show _=((32*n:Nat):Int) by rw[Bh oz];omega) ?_;refine gl ?_;refine ga (show _=(n:Int) by rw[eg oz];omega) ?_;refine gi (gw (n:=n) oz (by first |omega |(simp;omega))) ?_;refine gz [] [] (fun(x c:Nat)=>[(3,some (i64 c)),(4,some (u32 x))]) (fun _ _=>[]) (fun x c=>x<4294967296/\c<=281474976710656/\c+ba x=ba (val a)) (fun x _=>x) (ah a n) (32*n) ⟨ht,by omega,hB.symm⟩ ?_;rintro x c ⟨hx,hc,hv⟩ K1 J1;refine gC (fun t19=>?_) (fun t19=>?_)
 ·have hx0 : 0 < x := by simpa [aa] using t19
  have h2:=Ll hx0
  have h3:ba (val a)<=32*n+32:=by
   have:=(zw (x:=ah a n)  (by
    refine na _ ?_;rw[List.getLast?_eq_getElem?,hn];exact iY oz) ht).1
   omega
  refine ga (show _=((c+1:Nat):Int) by rw[du oz];omega) ?_;refine gs (eM (.tmp rfl) (.const _) oz (qB x 1 oz) rfl) ?_;exact fU J1 (x/2^1) (c+1) ⟨by omega,by omega,by rw[show x/2^1=x/2 from rfl];omega⟩
 have hx0:x=0:=by have:x<=0:=(by simpa[aa]using t19);omega
 subst hx0;refine af ?_;rw[<- hv];rfl
theorem AD(A:List Nat)(n:Nat)(hA:Ws A)(hn:n<=A.length)(la:A.length<=aD) :
  Con prog 388 [.ms 1000 1 0 n] [(1000,some (.row 1 (A.map u32)))] (.ms 1000 1 0 (ofNat (val (A.take n))).length) [(1000,some (.row 1 (A.map u32)))]:=by
 unfold aD at la;refine gF func388 (fun k z h=>bD h) ?_;refine aW [] [1000] (fun(j:Nat)=>[(0,some (.ms 1000 1 0 j))]) (fun _=>[]) (fun j=>j<=n/\val (A.take j)=val (A.take n)) (fun j=>j) n ⟨XD _,rfl⟩ ?_;rintro j ⟨hj,hv⟩ K1 J1;refine oF (fun h=>(ji (by simp[aa]at h;omega) (by unfold a8;omega))) ?_;refine gs (fq rfl rfl rfl (fun h=>b8 (n:=j-1) (.opt rfl (o1 h)) (.opt rfl (o1 h)) T43 rfl T350 rfl oz (by simp[aa]at h;omega) rfl)) ?_;refine gs (fq rfl rfl rfl (fun h=>ez (.opt rfl (o1 h)) rfl (ci (i:=j-1) (by simp[aa]at h;omega)) T350 rfl rfl rfl)) ?_;refine gC (fun t14=>?_) (fun t14=>?_)
 ·have t14 : 0 < j /\ ah A (j - 1) = 0 := by simpa [aa] using t14
  refine ga (ji oz (by unfold a8;omega)) ?_;refine gs (wl (.tmp rfl) (.none _) (.some _ (.tmp rfl) oz) T43 rfl T350 rfl oz oz rfl) ?_;exact aO J1 (j-1) ⟨by omega,by have h:=@dj A (j-1);rw[show j-1+1=j by omega,t14.2]at h;simp at h;omega⟩ (hw:=Wk.of (.cons rfl (Sub.of (by congr 1)) .nil) (.k .nil))
 have t14:0<j->ah A (j-1)≠0:=by simpa[aa]using t14
 have hn1 := E4 (m := A.take n) (n := j) (fT hA n) (by simp; omega) (by rw [List.take_take, Nat.min_eq_left hj]; exact hv) (by
  rcases Nat.eq_zero_or_pos j with h |h
  ·exact .inl h
  ·exact .inr (by rw[oi oz];exact t14 h))
 subst hn1;refine gR ?_;exact az.own2 rfl rfl rfl
theorem uK(A:List Nat)(n:Nat)(hA:Ws A)(hn:n<=A.length)(la:A.length<=aD) :
  Con prog 386 [.ms 1000 1 0 n] [(1000,some (.row 1 (A.map u32)))] (.ms 1000 1 0 (ofNat (val (A.take n)/2)).length) [(1000,some (.row 1 ((wr A 0 (bm n (val (A.take n)/2))).map u32)))]:=by
 have la':=la;unfold aD at la;refine gF func386 (fun k z h=>bD h) ?_;refine gz [5] [] (fun(o:List Nat)(i:Nat)=>[(0,some (.ms 1000 1 0 n)),(6,some (i64 i))]) (fun o _=>[(1000,some (.row 1 (o.map u32)))]) (fun o i=>o.length=A.length/\i<=n/\Ws o/\o.drop i=A.drop i/\val (o.take i)=val (A.take n)/2^1%4294967296^i) (fun _ i=>n-i) A 0 ⟨rfl,by omega,hA,rfl,by simp[val,Nat.mod_one]⟩ ?_;rintro o i ⟨ho,hi,hw,hd,hv⟩ K1 J1;refine gC (fun t7=>?_) (fun t7=>?_)
 ·have hin : i < n := by simpa [aa] using t7
  have e1:ah (o.take n) i=ah (A.take n) i:=by rw[oi hin,oi hin];exact p8 hd
  have hd2:o.drop (i+1)=A.drop (i+1):=by
   have h1:(o.drop i).drop 1=(A.drop i).drop 1:=by rw[hd]
   rwa [drop_drop,drop_drop]at h1
  have e2:ah (o.take n) (i+1)=ah (A.take n) (i+1):=by
   rcases XH (i+1) n with h |h
   ·rw[oi h,oi h];exact p8 hd2
   ·rw[FR h,FR h]
  have b1:=bW (fT hA n) i;have b2:=bW (fT hA n) (i+1);have h3:=IX (n:=1) (fT hA n) (show i<(A.take n).length by simp;omega) (show i<o.length by omega) oz hv;refine gt (aH (yp 1000 o n i hw oz) (bB rfl rfl) aI rfl rfl) ?_;refine gs (eM (.tmp rfl) (.const _) oz ((gI _ 1 oz).trans (by rw[e1])) rfl) ?_;refine ga (iZ (y:=1) (by unfold a8;omega) (by unfold a8;omega)) ?_;refine gt (aH (yp 1000 o n (i+1) hw oz) (bB rfl rfl) aI rfl rfl) ?_;refine gs (iU (.tmp rfl) (.const _) oz ((q9 (n:=31) oz oz).trans (by rw[e2])) rfl) ?_;refine gs (jB (.tmp rfl) (.tmp rfl) rfl ((tM oz oz).trans (by rw[zQ oz])) rfl) ?_;refine gv ((dK _).trans (show _=(((ah (A.take n) i+ah (A.take n) (i+1)*2^32)/2^1%4294967296:Nat):Int) by congr 1;omega)) ?_;refine gs (b8 (n:=i) (.tmp rfl) (.tmp rfl) T43 rfl T350 rfl oz (by first |omega |(simp;omega)) rfl) ?_;refine gs (dT (.tmp rfl) rfl (ci (i:=i) oz) rfl (.tmp rfl) rfl rfl T350 rfl rfl) ?_;refine ga (du oz) ?_;exact fU J1 (o.set i ((ah (A.take n) i+ah (A.take n) (i+1)*2^32)/2^1%4294967296)) (i+1) ⟨by simp[ho],by omega,f7 hw oz,rX hd,h3⟩ (hw:=Wk.of aZ (.cons rfl (BlkSub.of (by rw[Yg];rfl)) .nil))
 have hin:i=n:=by have:n<=i:=(by simpa[aa]using t7);omega
 subst hin;have hlt:=oc hA i;have hv':val (o.take i)=val (A.take i)/2:=by rw[hv,Nat.mod_eq_of_lt oz]
 have h9:=Ij hw ho hn hd hv';refine gt (aH (AD o i hw oz oz) (cB rfl) aI rfl rfl) ?_;refine gR ?_;exact az.own2 rfl (by rw[<- h9]) (by rw[hv'];rfl)
theorem IL(A b:List Nat)(n:Nat)(hA:Ws A)(hb:Ws b)(hn:n<=A.length)(la:A.length<=aD)(hle:val b<=val (A.take n)) :
  Con prog 387 [.ms 1000 1 0 n,ws b] [(1000,some (.row 1 (A.map u32)))] (.tup []) [(1000,some (.row 1 ((wr A 0 (bm n (val (A.take n)-val b))).map u32)))]:=by
 unfold aD at la;refine gF func387 (fun k z h=>bD h) ?_;refine iQ [1,8] [] (fun(o:List Nat)(c i:Nat)=>[(0,some (.ms 1000 1 0 n)),(4,some (u64 c)),(9,some (i64 i))]) (fun o _ _=>[(1000,some (.row 1 (o.map u32)))]) (fun o c i=>o.length=A.length/\i<=n/\Ws o/\c<=1/\o.drop i=A.drop i/\val (o.take i)+val (b.take i)=val (A.take i)+c*4294967296^i) (fun _ _ i=>n-i) A 0 0 ⟨rfl,by omega,hA,by omega,rfl,by simp[val]⟩ ?_;rintro o c i ⟨ho,hi,hw,hc,hd,hv⟩ K1 J1;refine gC (fun t10=>?_) (fun t10=>?_)
 ·have hin : i < n := by simpa [aa] using t10
  have e1:ah (o.take n) i=ah A i:=by rw[oi hin];exact p8 hd
  have h1:=bW hA i;have h2:=bW hb i;obtain⟨s,hs⟩:∃s,s=4294967296+ah A i-ah b i-c:=⟨_,rfl⟩
  have h3:=F5 h1 h2 hc hv;rw[<- hs]at h3;refine gt (aH (yp 1000 o n i hw oz) (bB rfl rfl) aI rfl rfl) ?_;refine ga ((iF (x:=4294967296) oz).trans (by rw[e1])) ?_;refine gc (lw b i hb) ?_;refine ga ((kL oz oz).trans (by rw[Yl oz])) ?_;refine ga ((kL oz oz).trans (show _=(s:Int) by rw[Yl oz];congr 1;omega)) ?_;refine gv (dK _) ?_;refine gs (eM (.tmp rfl) (.const _) oz (gI _ 32 oz) rfl) ?_;refine ga ((kL (x:=1) oz oz).trans (by rw[Yl oz])) ?_;refine gs (b8 (n:=i) (.tmp rfl) (.tmp rfl) T43 rfl T350 rfl oz (by first |omega |(simp;omega)) rfl) ?_;refine gs (dT (.tmp rfl) rfl (ci (i:=i) oz) rfl (.tmp rfl) rfl rfl T350 rfl rfl) ?_;refine ga (du oz) ?_;exact gS J1 (o.set i (s%4294967296)) (1-s/2^32) (i+1) ⟨by simp[ho],by omega,f7 hw oz,by omega,rX hd,by rw[lO oz,dj,dj,Nat.pow_succ];exact h3⟩ (hw:=Wk.of aZ (.cons rfl (BlkSub.of (by rw[Yg];rfl)) .nil))
 have hin:i=n:=by have:n<=i:=(by simpa[aa]using t10);omega
 subst hin;have hl:(A.take i).length=i:=by simp;omega
 have h4:=EX (a:=A.take i) (b:=b) (out:=o.take i) (fT hA i) (fT hw i) (by simp;omega) hle (by rw[hl,XR (show(A.take i).length<=i by omega)];exact hv);have h9:=Ij hw ho hn hd h4;refine gR ?_;exact az.own2 rfl (by rw[<- h9]) rfl
theorem DO{x:Nat}(h:x<=9223372036854775807):IntKind.i64.wrap ((x:Int).tdiv 32)=((x/32:Nat):Int):=by
 rw[show(32:Int)=((32:Nat):Int)from rfl,<- Int.ofNat_tdiv];exact i64_in oz
theorem HX{x:Nat}:(x:Int).tmod 32=((x%32:Nat):Int):=(Int.ofNat_tmod _ _).symm
theorem ug(i:Nat):(4294967296:Nat)^i=2^(32*i):=by rw[Nat.pow_mul]
theorem Xu{a:List Nat}(ha:Ws a){k:Nat}(hk:k/32<a.length):ah a (k/32)/2^(k%32)%2=val a/2^k%2:=by
 have h1:val a/2^k=(val a/4294967296^(k/32))/2^(k%32):=by
  rw[ug,Nat.div_div_eq_div_mul,<- Yb];congr 2;omega
 rw[h1,wU ha _ oz,tX];generalize val (a.drop (k/32+1))=R
 have h2:4294967296*R=2^(k%32)*(2*(2^(31-k%32)*R)):=by
  have:(4294967296:Nat)=2^(k%32)*(2*2^(31-k%32)):=by
   rw[<- Nat.pow_succ',<- Yb,show k%32+(31-k%32).succ=32 by omega]
  conv=>lhs;rw[this]
  grind
 rw[h2,Nat.add_mul_div_left _ _ (Nat.pow_pos oz),Nat.add_mul_mod_self_left]
theorem Ou{w c:Nat}(hc:c<=1):w*2^1%4294967296 ||| c=w*2^1%4294967296+c:=by
 have h:w*2^1%4294967296=(w%2147483648)*2^1:=by omega
 rw[h];exact sP oz
theorem MR{o c P rt w bit:Nat}(hw:w<4294967296)(h:o+c*P=2*rt+bit) :
  (o+P*(w*2^1%4294967296+c))+(w/2^31)*(P*4294967296)=2*(rt+P*w)+bit:=by
 have h0:w*2^1%4294967296+(w/2^31)*4294967296=2*w:=by omega
 generalize w*2^1%4294967296=r at *;generalize w/2^31=q at *;grind
theorem Vc{q:List Nat}(hq:Ws q){k Y:Nat}(hk:k/32<q.length)(h:val q=2^(k+1)*Y) :
  ah q (k/32) ||| 2^(k%32)=ah q (k/32)+2^(k%32)/\ah q (k/32)+2^(k%32)<4294967296:=by
 have h1:=wU hq (k/32) oz;rw[tX,h,ug,show k+1=32*(k/32)+(k%32+1) by omega,Yb,Nat.mul_assoc,Nat.mul_div_cancel_left _ (Nat.pow_pos oz)]at h1;have hw:=bW hq (k/32);generalize ah q (k/32)=w at *;generalize val (q.drop (k/32+1))=R at *
 have hB:(4294967296:Nat)=2^(k%32+1)*2^(31-k%32):=by
  rw[<- Yb,show k%32+1+(31-k%32)=32 by omega]
 have h2:w%2^(k%32+1)=0:=by
  have h3:(w+4294967296*R)%2^(k%32+1)=0:=by rw[<- h1];exact Nat.mul_mod_right _ _
  rw[hB,Nat.mul_assoc,Nat.add_mul_mod_self_left]at h3;exact h3
 have h4:w=2^(k%32+1)*(w/2^(k%32+1)):=by
  have:=Nat.div_add_mod w (2^(k%32+1));omega
 have h5:2^(k%32)<2^(k%32+1):=by rw[Nat.pow_succ];have:=Nat.pow_pos (n:=k%32) (show 0<2 by omega);omega
 constructor
 ·rw[h4];exact(Nat.two_pow_add_eq_or_of_lt h5 _).symm
 ·have h6:w/2^(k%32+1)<2^(31-k%32):=by
   rw[Nat.div_lt_iff_lt_mul (Nat.pow_pos oz),Nat.mul_comm,<- hB];exact hw
  have h7:=XL (2^(k%32+1)) (show w/2^(k%32+1)+1<=2^(31-k%32)from h6);rw[<- hB,Nat.mul_add,<- h4]at h7;omega
theorem PK{q:List Nat}(hq:Ws q){k Y:Nat}(hk:k/32<q.length)(h:val q=2^(k+1)*Y) :
  val (q.set (k/32) (ah q (k/32)+2^(k%32)))=2^k*(2*Y+1):=by
 have h1:=zE (x:=ah q (k/32)+2^(k%32)) hk;rw[Nat.mul_add]at h1;have h2:4294967296^(k/32)*2^(k%32)=2^k:=by rw[ug,<- Yb];congr 1;omega
 rw[h2,h,Nat.pow_succ]at h1;grind
theorem KE{V Bv k:Nat}(hB:0<Bv) :
  (Bv<=2*(V/2^(k+1)%Bv)+V/2^k%2->V/2^k%Bv=2*(V/2^(k+1)%Bv)+V/2^k%2-Bv/\V/2^k/Bv=2*(V/2^(k+1)/Bv)+1) /\
  (2*(V/2^(k+1)%Bv)+V/2^k%2<Bv->V/2^k%Bv=2*(V/2^(k+1)%Bv)+V/2^k%2/\V/2^k/Bv=2*(V/2^(k+1)/Bv)):=by
 have h1:V/2^(k+1)=V/2^k/2:=by rw[Nat.pow_succ,Nat.div_div_eq_div_mul]
 rw[h1];generalize V/2^k=X;have h2:=Nat.div_add_mod X 2;have h3:=Nat.div_add_mod (X/2) Bv;have h4:=Nat.mod_lt (X/2) hB;have h5:=Nat.mod_lt X (show 0<2 by omega);generalize X/2%Bv=r at *;generalize X/2/Bv=q at *;generalize X%2=b at *;generalize X/2=Y at *;constructor
 ·intro h;have:=xx (a:=X) (w:=Bv) (q:=2*q+1) (r:=2*r+b-Bv) (by rw[Nat.mul_add,Nat.mul_one,show Bv*(2*q)=2*(Bv*q) by grind];omega) oz;exact⟨this.2,this.1⟩
 ·intro h;have:=xx (a:=X) (w:=Bv) (q:=2*q) (r:=2*r+b) (by rw[show Bv*(2*q)=2*(Bv*q) by grind];omega) oz;exact⟨this.2,this.1⟩
theorem Wm{A l:List Nat}(h:l.length=A.length):wr A 0 l=l:=by
 unfold wr;rw[X2 oz];simp
theorem GV{V:Nat}:V/2^ba V=0:=Nat.div_eq_of_lt xa
theorem H0{a:List Nat}(ha:Ws a){k:Nat}(h:k<ba (val a)):k/32<a.length:=by
 rcases XH (k/32) a.length with h1 |h1
 ·exact h1
 ·exfalso;have h2:=b9 a ha;rw [ug] at h2;have h3:val a ≠ 0:=by intro h0; rw [h0] at h; simp [ba] at h
  have h4:=vh h3;have h5:2^(32*a.length)<=2^(ba (val a)-1):=pb oz;omega
theorem Oo(a b:List Nat)(ha:Ws a)(hb:Ws b)(na:Nz a)(hb0:val b≠0)(la:a.length<aD)(lb:b.length<aD) :
  FP 361 [ws a,ws b] (.tup [ws (ofNat (val a/val b)),ws (ofNat (val a%val b))]):=by
 have la':=la;have lb':=lb;unfold aD at la lb;obtain⟨V,hV⟩:∃V,V=val a:=⟨_,rfl⟩
 obtain⟨Bv,hBv⟩:∃Bv,Bv=val b:=⟨_,rfl⟩
 have hBp:0<Bv:=by omega
 have hBl:2*Bv<=4294967296^(b.length+1):=by have:=b9 b hb;rw[Nat.pow_succ];omega
 have hbl:ba V<=32*a.length:=by
  rcases Nat.eq_zero_or_pos (ba V)with h |h
  ·omega
  ·have := H0 ha (k := ba V-1) (by rw[<- hV];omega);omega
 rw[<- hV,<- hBv];refine aj func361 ?_;refine gl ?_;refine gs (gV (.tmp rfl) T43 rfl T350 rfl rfl oz (by dsimp only;omega) rfl) ?_;refine gl ?_;refine ga (iZ (y:=1) (by unfold a8;omega) (by unfold a8;omega)) ?_;refine gs (gV (.tmp rfl) T43 rfl T350 rfl rfl oz (by dsimp only;omega) rfl) ?_;refine gc (hV▸Xi a ha na oz) ?_;refine ga (eg oz) ?_;refine iQ [0,1] [] (fun(q r:List Nat)(i:Nat)=>[(6,some (.ms 13 1 0 a.length)),(7,some (.ms 17 1 0 (b.length+1))),(8,some (i64 ((i:Int)-1)))]) (fun q r _=>[(13,some (.row 1 (q.map u32))),(17,some (.row 1 (r.map u32)))]) (fun q r i=>q.length=a.length/\r.length=b.length+1/\Ws q/\Ws r/\i<=ba V/\val r=V/2^i%Bv/\val q=2^i*(V/2^i/Bv)) (fun _ _ i=>i) (List.replicate a.length 0) (List.replicate (b.length+1) 0) (ba V) ⟨by simp,by simp,lA _,lA _,XD _,by rw[vl,GV,Nat.zero_mod],by rw[vl,GV,Nat.zero_div,Nat.mul_zero]⟩ ?_ (h2:=(.cons rfl (BlkSub.of (by rw[Yc];rfl)) (.cons rfl (BlkSub.of (by rw[Yc];rfl)) .nil)))
 rintro q r i ⟨hql,hrl,wq,wr',hi,hr,hq⟩ K1 J1;refine gC (fun t22=>?_) (fun t22=>?_) (st2:=(15,0))
 ·have hi0 : 1 <= i := by have := t22; simp [aa] at this; omega
  obtain⟨k,rfl⟩:∃k,i=k+1:=⟨i-1,by omega⟩
  rw[show((k+1:Nat):Int)-1=(k:Int) by omega];have hka:=H0 ha (k:=k) (by rw[<- hV];omega);have hbit:=Xu ha hka;have hwB:=bW ha (k/32);rw[<- hV]at hbit;obtain⟨bit,hbt⟩:∃bit,bit=V/2^k%2:=⟨_,rfl⟩
  have hb1:bit<=1:=by omega
  have hrlt:=Nat.mod_lt (V/2^(k+1)) hBp;have hdw:ah a (k/32)/2^(k%32)<=ah a (k/32):=Nat.div_le_self _ _;refine gs (kq (.tmp rfl) (.const _) oz (DO oz) rfl) ?_;refine gi (gw (n:=k/32) oz (by first |omega |(simp;omega))) ?_;refine gs (vG (.tmp rfl) (.const _) oz HX rfl) ?_;refine gs (eM (.tmp rfl) (.tmp rfl) oz (qB _ (k%32) oz) rfl) ?_;refine gs (jB (.tmp rfl) (.const _) rfl ((Ii (y:=1) oz oz).trans (show _=(bit:Int) by rw[Nat.and_one_is_mod,hbit,hbt])) rfl) ?_;refine iQ [0,1,8,35] [13] (fun(o:List Nat)(c j:Nat)=>[(6,some (.ms 13 1 0 a.length)),(7,some (.ms 17 1 0 (b.length+1))),(9,some (u32 c)),(36,some (i64 j))]) (fun o _ _=>[(17,some (.row 1 (o.map u32)))]) (fun o c j=>o.length=b.length+1/\Ws o/\j<=b.length+1/\c<=1/\o.drop j=r.drop j/\val (o.take j)+c*4294967296^j=2*val (r.take j)+bit) (fun _ _ j=>b.length+1-j) r bit 0 ⟨hrl,wr',by omega,hb1,rfl,by simp[val]⟩ ?_
  rintro o c j ⟨hol,wo,hj,hc,hd,hv⟩ K2 J2;refine gC (fun t37=>?_) (fun t37=>?_)
  ·have hjn : j < b.length + 1 := by have := t37; simp [aa] at this; omega
   have e1:ah o j=ah r j:=p8 hd;have h1:=bW wr' j;have h3:=MR (w:=ah r j) h1 hv;refine gs (b8 (n:=j) (.tmp rfl) (.tmp rfl) T43 rfl T350 rfl oz (by first |omega |(simp;omega)) rfl) ?_;refine gs (ez (.tmp rfl) rfl (by rw[ci (show j<o.length by omega),e1]) T350 rfl rfl rfl) ?_;refine gs (iU (.tmp rfl) (.const _) oz (DU (n:=1) oz) rfl) ?_;refine gs (jB (.tmp rfl) (.tmp rfl) rfl ((yC oz oz).trans (by rw[Ou hc])) rfl) ?_;refine gs (b8 (n:=j) (.tmp rfl) (.tmp rfl) T43 rfl T350 rfl oz (by first |omega |(simp;omega)) rfl) ?_;refine gs (ez (.tmp rfl) rfl (by rw[ci (show j<o.length by omega),e1]) T350 rfl rfl rfl) ?_;refine gs (eM (.tmp rfl) (.const _) oz (qB _ 31 oz) rfl) ?_;refine gs (b8 (n:=j) (.tmp rfl) (.tmp rfl) T43 rfl T350 rfl oz (by first |omega |(simp;omega)) rfl) ?_;refine gs (dT (.tmp rfl) rfl (ci (i:=j) oz) rfl (.tmp rfl) rfl rfl T350 rfl rfl) ?_;refine gD ?_;refine ga (du oz) ?_;exact gS J2 (o.set j (ah r j*2^1%4294967296+c)) (ah r j/2^31) (j+1) ⟨by simp[hol],f7 wo oz,by omega,by omega,rX hd,by rw[lO oz,dj];rw[show 4294967296^(j+1)=4294967296^j*4294967296 from Nat.pow_succ _ _];exact h3⟩ (hw:=Wk.of aZ (.cons rfl (BlkSub.of (by rw[Yg];rfl)) (.k .nil)))
  have hjn:j=b.length+1:=by have:b.length+1<=j:=(by have:=t37;simp[aa]at this;omega);omega
  subst hjn;rw[eT (l:=r) oz,eT (l:=o) oz,hr]at hv
  have hc0:c=0:=by
   cases c with
   |zero=>rfl
   |succ c=>rw[Nat.succ_mul]at hv;omega
  subst hc0;rw[Nat.zero_mul,Nat.add_zero]at hv;have hot:o.take (b.length+1)=o:=XR oz;obtain⟨d1,d2⟩:=KE (V:=V) (k:=k) hBp;rw[<- hbt]at d1 d2;have hcmp:=TG 17 o b (b.length+1) wo hb oz;rw[hot,<- hBv,hv]at hcmp;have hqk:k/32<q.length:=by omega
  obtain⟨w1,w2⟩:=Vc wq hqk hq;have w3:=PK wq hqk hq;refine gt (aH hcmp (bB rfl rfl) aI rfl rfl) ?_;refine gC (fun t58=>?_) (fun t58=>?_)
  ·have hge:Bv<=2*(V/2^(k+1)%Bv)+bit:=by
    rcases XH (2*(V/2^(k+1)%Bv)+bit) Bv with h |h
    ·rw[Yl h]at t58;cases t58
    ·exact h
   obtain⟨d3,d4⟩:=d1 hge;have htk:=IL o b (b.length+1) wo hb oz (by unfold aD;omega) (by rw[hot,<- hBv,hv];exact hge);rw[hot,<- hBv,hv,<- d3,Wm (by rw[eY,hol])]at htk;have hx2:V/2^k%Bv<4294967296^(b.length+1):=by have:=Nat.mod_lt (V/2^k) hBp;omega
   refine gt (aH (Con.rk 17 rfl rfl htk) (bB rfl rfl) aI rfl rfl) ?_;refine gs (kq (.tmp rfl) (.const _) oz (DO oz) rfl) ?_;refine gs (b8 (n:=k/32) (.tmp rfl) (.tmp rfl) T43 rfl T350 rfl oz oz rfl) ?_;refine gs (ez (.tmp rfl) rfl (ci (i:=k/32) hqk) T350 rfl rfl rfl) ?_;refine gs (vG (.tmp rfl) (.const _) oz HX rfl) ?_;refine gs (iU (.const _) (.tmp rfl) oz ((DU (x:=1) (n:=k%32) oz).trans (show _=((2^(k%32):Nat):Int) by rw[Nat.one_mul,Nat.mod_eq_of_lt (XX (Nat.le_add_left _ _) w2)])) rfl) ?_;refine gs (jB (.tmp rfl) (.tmp rfl) rfl ((yC (bW wq _) (XX (Nat.le_add_left _ _) w2)).trans (by rw[w1])) rfl) ?_;refine gs (b8 (n:=k/32) (.tmp rfl) (.tmp rfl) T43 rfl T350 rfl oz oz rfl) ?_;refine gs (dT (.tmp rfl) rfl (ci (i:=k/32) hqk) rfl (.tmp rfl) rfl rfl T350 rfl rfl) ?_;refine gD ?_;refine ga (eg oz) ?_;exact gS J1 (q.set (k/32) (ah q (k/32)+2^(k%32))) (bm (b.length+1) (V/2^k%Bv)) k ⟨by simp[hql],eY _ _,f7 wq w2,ke _ _,by omega,k8 _ _ hx2,by rw[w3,d4]⟩ (hw:=Wk.of aZ (.cons rfl (BlkSub.of (by first |rfl |(rw[Yg];rfl))) (.k .nil)))
  have hge:2*(V/2^(k+1)%Bv)+bit<Bv:=by
   rcases XH (2*(V/2^(k+1)%Bv)+bit) Bv with h |h
   ·exact h
   ·rw[Yk oz]at t58;split at t58 <;> cases t58
  obtain⟨d3,d4⟩:=d2 hge;refine ga (eg oz) ?_;exact gS J1 q o k ⟨hql,hol,wq,wo,by omega,by rw[hv,d3],by rw[hq,d4,Nat.pow_succ,Nat.mul_assoc]⟩ (hw:=Wk.of aZ (.cons rfl (BlkSub.of (by first |rfl |(rw[Yg];rfl))) (.k .nil)))
 have hi0:i=0:=by have:=t22;simp[aa]at this;omega
 subst hi0;refine gW ((Wk.freeze (k:=13) rfl).trans<|(Wk.freeze (k:=17) rfl).trans<|Wk.of (sl:=[(6,some (ws q)),(7,some (ws r))]) (hp:=[]) (.cons rfl (Sub.of (by rw[show AV.fz 13 1 (q.map u32) (.ms 13 1 0 a.length)=ws q from bJ (by simp[hql])];rfl)) (.cons rfl (Sub.of (bJ (by simp[hrl]))) .nil)) .nil) ?_;refine gc (pu q wq oz) ?_;refine gc (pu r wr' (by unfold aD;omega)) ?_;refine bp ?_;rw[hr,hq];simp[]
def ik(L:Nat)(A:List Nat)(n:Nat):Prop:=Ws A/\n<=A.length/\A.length<=L/\n=(ofNat (val (A.take n))).length
theorem NF(v:Nat):ofNat v=bm (ofNat v).length v:=by
 have h:=tz (ofNat v) (dk _)
 rwa [cg]at h
theorem jK{L:Nat}{A:List Nat}{n v:Nat}(h:ik L A n)(hv:v<=val (A.take n)) :
  ik L (wr A 0 (bm n v)) (ofNat v).length/\val ((wr A 0 (bm n v)).take (ofNat v).length)=v/\val ((wr A 0 (bm n v)).take n)=v:=by
 obtain⟨hw,hn,hl,hN⟩:=h;have hlt:=oc hw n;have hvl:v<4294967296^n:=by omega
 have hle:(ofNat v).length<=n:=fj hvl
 have ht:(wr A 0 (bm n v)).take n=bm n v:=by
  unfold wr;rw[List.take_zero,nil_append,List.take_append_of_le_length (by rw[eY];omega),XR (by rw[eY];omega)]
 have ht2:(wr A 0 (bm n v)).take (ofNat v).length=ofNat v:=by
  have h1:((wr A 0 (bm n v)).take n).take (ofNat v).length=(wr A 0 (bm n v)).take (ofNat v).length:=by rw[List.take_take,Nat.min_eq_left hle]
  rw[<- h1,ht,BW _ _ _ hle,<- NF]
 have hlen:(wr A 0 (bm n v)).length=A.length:=ma (by rw[eY];omega);refine⟨⟨qu hw (ke _ _),by omega,by omega,by rw[ht2,cg]⟩,by rw[ht2,cg],by rw[ht,k8 _ _ hvl]⟩
theorem gY{L:Nat}{A:List Nat}{n:Nat}(h:ik L A n)(hx:0<val (A.take n)):0<n/\val (A.take n)%2=ah A 0%2:=by
 have hn:0<n:=by
  rcases Nat.eq_zero_or_pos n with h0 |h0
  ·subst h0;simp[val]at hx
  ·exact h0
 refine⟨hn,?_⟩;have:=tX (A.take n) 0;rw[Yh,oi hn]at this;omega
theorem W9{L:Nat}{A:List Nat}{n:Nat}(h:ik L A n):A.take n=ofNat (val (A.take n)):=by
 obtain⟨hw,hn,hl,hN⟩:=h;have h1:=Hn (fT hw n);rw[<- hN,List.take_take,Nat.min_self]at h1;exact h1
theorem Er{L:Nat}{A:List Nat}{n:Nat}(h:ik L A n):n=0↔val (A.take n)=0:=by
 constructor
 ·intro h0;subst h0;rfl
 ·intro h0;have h1:=h.2.2.2;rw[h0]at h1;exact h1
theorem Tr{x y:Nat}(hx:x%2=0)(hy:y%2=0):Nat.gcd x y=2*Nat.gcd (x/2) (y/2):=by
 rw[<- Nat.gcd_mul_left,Nat.mul_div_cancel' (Nat.dvd_of_mod_eq_zero hx),Nat.mul_div_cancel' (Nat.dvd_of_mod_eq_zero hy)]
theorem H7{x y:Nat}(hx:x%2=0)(hy:y%2=1):Nat.gcd (x/2) y=Nat.gcd x y:=by
 have h1:x=2*(x/2):=by omega
 have h2:Nat.Coprime 2 y:=by
  rw[Nat.Coprime,Nat.gcd_rec,hy];rfl
 conv=>rhs;rw[h1]
 exact(Nat.Coprime.gcd_mul_left_cancel _ h2).symm
theorem DK{x y:Nat}(h:y<=x):Nat.gcd (x-y) y=Nat.gcd x y:=Nat.gcd_sub_self_left h
theorem DS{t L g V:Nat}(hg:0<g)(h:2^t*g<=V)(hV:V<4294967296^L):t<32*L:=by
 rw[ug]at hV;have h1:=XL (2^t) (show 1<=g from hg);rcases XH t (32*L)with h2 |h2
 ·exact h2
 ·have:=pb h2;omega
theorem Cn(A D:List Nat)(n p:Nat)(hA:Ws A)(hD:Ws D)(hn:n<=A.length)(hp:p<=D.length)(la:A.length<=aD)(hle:val (D.take p)<=val (A.take n)) :
  Con prog 387 [.ms 901 1 0 n,.ms 902 1 0 p] [(902,some (.row 1 (D.map u32))),(901,some (.row 1 (A.map u32)))] (.tup [])
   [(902,some (.row 1 (D.map u32))),(901,some (.row 1 ((wr A 0 (bm n (val (A.take n)-val (D.take p)))).map u32)))]:=by
 have h1:=Con.rk 901 rfl rfl (IL A (D.take p) n hA (fT hD p) hn la hle);refine Con.borrow (args:=[.ms 901 1 0 n,ws (D.take p)]) 902 1 (D.map u32) rfl rfl rfl ?_ rfl ?_ h1
 ·intro j x' hj
  match j,hj with
  |0,hj=>cases hj;exact .inl rfl
  |1,hj=>cases hj;exact .inr ⟨0,p,rfl,by simpa using hp,by rw[pK];rfl⟩
 ·intro k' x h;obtain⟨_,h⟩:=fC h;cases h;exact Jc _
theorem wh{A:List Nat}(hA:Ws A){i:Nat}:n8 .and .u32 (ah A i:Int) 1=((ah A i%2:Nat):Int) :=
 (Ii (y:=1) (bW hA i) oz).trans (by rw[Nat.and_one_is_mod])
theorem Td(a b:List Nat)(ha:Ws a)(hb:Ws b)(na:Nz a)(nb:Nz b)(la:a.length+b.length<aD):FP 360 [ws a,ws b] (ws (ofNat (Nat.gcd (val a) (val b)))):=by
 have la':=la;unfold aD at la;have ea:=pZ ha na;have eb:=pZ hb nb;obtain⟨L,hL⟩:∃L,L=a.length+b.length:=⟨_,rfl⟩
 obtain⟨G,hG⟩:∃G,G=Nat.gcd (val a) (val b):=⟨_,rfl⟩
 rw[<- hG];refine aj func360 ?_;refine gt (aH (yj 901 rfl a ha (by unfold aD;omega)) (cB rfl) aI rfl rfl) ?_;refine gt (aH (yj 902 rfl b hb (by unfold aD;omega)) (cB rfl) aI rfl rfl) ?_ (2,0);refine gW (Wk.of (sl:=[(0,some (.ms 901 1 0 a.length)),(1,some (.ms 902 1 0 b.length))]) (hp:=[(901,some (.row 1 (a.map u32))),(902,some (.row 1 (b.map u32)))]) (.cons rfl (Sub.of (by rw[ea])) (.cons rfl (Sub.of (by rw[eb])) .nil)) (.k (.k .nil))) ?_;refine gC (fun t12=>?_) (fun t12=>?_) (st1:=(3,0))
 ·have h0 : a=[] := List.length_eq_zero_iff.1 (by simpa[aa]using t12);refine gW ((Wk.freeze (k:=902) rfl).trans<|Wk.of (sl:=[(1,some (ws b))]) (hp:=[]) (.cons rfl (Sub.of (bJ (by simp))) .nil) .nil) ?_;refine af ?_;rw[hG,h0];simp[val,eb]
 have h0:a≠[]:=fun h=>by rw[h]at t12;simp[aa]at t12
 refine gC (fun t16=>?_) (fun t16=>?_) (st1:=(5,0))
 ·have h1 : b=[] := List.length_eq_zero_iff.1 (by simpa[aa]using t16);refine gW ((Wk.freeze (k:=901) rfl).trans<|Wk.of (sl:=[(0,some (ws a))]) (hp:=[]) (.cons rfl (Sub.of (bJ (by simp))) .nil) .nil) ?_;refine af ?_;rw[hG,h1];simp[val,ea]
 have h1:b≠[]:=fun h=>by rw[h]at t16;simp[aa]at t16
 have va:=nW na h0;have vb:=nW nb h1;have hGp:0<G:=by rw[hG];exact Nat.gcd_pos_of_pos_left _ va
 have hGa:G<=val a:=by rw[hG];exact Nat.gcd_le_left _ va
 have vla:=b9 a ha;refine GC [] [] (fun(A D:List Nat)(n p t:Nat)=>[(0,some (.ms 901 1 0 n)),(1,some (.ms 902 1 0 p)),(5,some (i64 t))]) (fun A D _ _ _=>[(901,some (.row 1 (A.map u32))),(902,some (.row 1 (D.map u32)))]) (fun A D n p t=>ik L A n/\ik L D p/\0<val (A.take n)/\0<val (D.take p)/\G=2^t*Nat.gcd (val (A.take n)) (val (D.take p))) (fun A _ n _ _=>val (A.take n)) a b a.length b.length 0 ⟨⟨ha,XD _,by omega,by rw[XP,ea]⟩,⟨hb,XD _,by omega,by rw[XP,eb]⟩,by rw[XP];exact va,by rw[XP];exact vb,by rw[XP,XP,hG];simp⟩ ?_
 rintro A D n p t ⟨gA,gD,pA,pD,hg⟩ K1 J1;refine gs (b8 (n:=0) (.tmp rfl) (.const _) T43 rfl T350 rfl oz (by have:=(gY gA pA).1;omega) rfl) ?_;refine gs (ez (.tmp rfl) rfl (ci (i:=0) (by have:=(gY gA pA).1;have:=gA.2.1;omega)) T350 rfl rfl rfl) ?_;refine gs (jB (.tmp rfl) (.const _) rfl (wh gA.1) rfl) ?_;refine gs (fq rfl rfl rfl (fun h=>b8 (n:=0) (.opt rfl (o1 h)) (.const _) T43 rfl T350 rfl oz (by have:=(gY gD pD).1;omega) rfl)) ?_;refine gs (fq rfl rfl rfl (fun h=>ez (.opt rfl (o1 h)) rfl (ci (i:=0) (by have:=(gY gD pD).1;have:=gD.2.1;omega)) T350 rfl rfl rfl)) ?_;refine gs (fq rfl rfl rfl (fun h=>jB (.opt rfl (o1 h)) (.const _) rfl (wh gD.1) rfl)) ?_;refine gC (fun t29=>?_) (fun t29=>?_)
 ·have hev:ah A 0%2=0/\ah D 0%2=0:=by
   have:=t29;simp[aa]at this;omega
  have xA:val (A.take n)%2=0:=by rw[(gY gA pA).2];exact hev.1
  have xD:val (D.take p)%2=0:=by rw[(gY gD pD).2];exact hev.2
  obtain⟨k1,k2,k3⟩:=jK gA (v:=val (A.take n)/2) oz;obtain⟨m1,m2,m3⟩:=jK gD (v:=val (D.take p)/2) oz;have ht:t<32*a.length:=DS (Nat.gcd_pos_of_pos_left _ pA) (by rw[<- hg];exact hGa) vla;refine gt (aH (Con.rekeyR 901 rfl (uK A n gA.1 gA.2.1 (by have:=gA.2.2.1;unfold aD;omega))) (cB rfl) aI rfl rfl) ?_;refine gt (aH (Con.rekeyR 902 rfl (uK D p gD.1 gD.2.1 (by have:=gD.2.2.1;unfold aD;omega))) (cB rfl) aI rfl rfl) ?_;refine ga (show _=((t+1:Nat):Int) by rw[du oz];omega) ?_;exact Ik J1 (wr A 0 (bm n (val (A.take n)/2))) (wr D 0 (bm p (val (D.take p)/2))) ((ofNat (val (A.take n)/2)).length) ((ofNat (val (D.take p)/2)).length) (t+1) ⟨k1,m1,by rw[k2];omega,by rw[m2];omega,by rw[k2,m2,hg,Tr xA xD,Nat.pow_succ];grind⟩ (by rw[k2];omega)
 have hod:val (A.take n)%2=1\/val (D.take p)%2=1:=by
  rw[(gY gA pA).2,(gY gD pD).2];have:=t29;simp[aa]at this;omega
 refine WJ [5] [] (fun(A1 D1:List Nat)(n1 p1:Nat)=>[(0,some (.ms 901 1 0 n1)),(1,some (.ms 902 1 0 p1))]) (fun A1 D1 _ _=>[(901,some (.row 1 (A1.map u32))),(902,some (.row 1 (D1.map u32)))]) (fun A1 D1 n1 p1=>ik L A1 n1/\ik L D1 p1/\0<val (D1.take p1)/\(val (A1.take n1)%2=1\/val (D1.take p1)%2=1)/\G=2^t*Nat.gcd (val (A1.take n1)) (val (D1.take p1))) (fun A1 D1 n1 p1=>val (A1.take n1)+val (D1.take p1)) A D n p ⟨gA,gD,pD,hod,hg⟩ ?_
 rintro A1 D1 n1 p1 ⟨gA1,gD1,pD1,hod1,hg1⟩ K2 J2;refine gC (fun t38=>?_) (fun t38=>?_) (st2:=(19,0))
 ·have pA1:0<val (A1.take n1):=by
   have h3:n1≠0:=by have:=t38;simp[aa]at this;omega
   exact Nat.pos_of_ne_zero (fun h=>h3 ((Er gA1).2 h))
  refine gz [5] [902] (fun(A2:List Nat)(n2:Nat)=>[(0,some (.ms 901 1 0 n2)),(1,some (.ms 902 1 0 p1))]) (fun A2 _=>[(901,some (.row 1 (A2.map u32)))]) (fun A2 n2=>ik L A2 n2/\0<val (A2.take n2)/\val (A2.take n2)<=val (A1.take n1)/\(val (A2.take n2)%2=1\/val (D1.take p1)%2=1)/\Nat.gcd (val (A2.take n2)) (val (D1.take p1))=Nat.gcd (val (A1.take n1)) (val (D1.take p1))) (fun A2 n2=>val (A2.take n2)) A1 n1 ⟨gA1,pA1,XD _,hod1,rfl⟩ ?_
  rintro A2 n2 ⟨gA2,pA2,lA2,hod2,hg2⟩ K3 J3;refine gs (b8 (n:=0) (.tmp rfl) (.const _) T43 rfl T350 rfl oz (by have:=(gY gA2 pA2).1;omega) rfl) ?_;refine gs (ez (.tmp rfl) rfl (ci (i:=0) (by have:=(gY gA2 pA2).1;have:=gA2.2.1;omega)) T350 rfl rfl rfl) ?_;refine gs (jB (.tmp rfl) (.const _) rfl (wh gA2.1) rfl) ?_;refine gC (fun t43=>?_) (fun t43=>?_)
  ·have xA2:val (A2.take n2)%2=0:=by
    rw[(gY gA2 pA2).2];have:=t43;simp[aa]at this;omega
   obtain⟨k1,k2,k3⟩:=jK gA2 (v:=val (A2.take n2)/2) oz;refine gt (aH (Con.rekeyR 901 rfl (uK A2 n2 gA2.1 gA2.2.1 (by have:=gA2.2.2.1;unfold aD;omega))) (cB rfl) aI rfl rfl) ?_;exact fU J3 (wr A2 0 (bm n2 (val (A2.take n2)/2))) ((ofNat (val (A2.take n2)/2)).length) ⟨k1,by rw[k2];omega,by rw[k2];omega,.inr oz,by rw[k2,H7 xA2 oz,hg2]⟩ (by rw[k2];omega)
  have xA2:val (A2.take n2)%2=1:=by
   rw[(gY gA2 pA2).2];have:=t43;simp[aa]at this;omega
  refine gz [5] [901] (fun(D2:List Nat)(p2:Nat)=>[(0,some (.ms 901 1 0 n2)),(1,some (.ms 902 1 0 p2))]) (fun D2 _=>[(902,some (.row 1 (D2.map u32)))]) (fun D2 p2=>ik L D2 p2/\0<val (D2.take p2)/\val (D2.take p2)<=val (D1.take p1)/\Nat.gcd (val (A2.take n2)) (val (D2.take p2))=Nat.gcd (val (A2.take n2)) (val (D1.take p1))) (fun D2 p2=>val (D2.take p2)) D1 p1 ⟨gD1,pD1,XD _,rfl⟩ ?_;rintro D2 p2 ⟨gD2,pD2,lD2,hg3⟩ K4 J4;refine gs (b8 (n:=0) (.tmp rfl) (.const _) T43 rfl T350 rfl oz (by have:=(gY gD2 pD2).1;omega) rfl) ?_;refine gs (ez (.tmp rfl) rfl (ci (i:=0) (by have:=(gY gD2 pD2).1;have:=gD2.2.1;omega)) T350 rfl rfl rfl) ?_;refine gs (jB (.tmp rfl) (.const _) rfl (wh gD2.1) rfl) ?_;refine gC (fun t50=>?_) (fun t50=>?_)
  ·have xD2:val (D2.take p2)%2=0:=by
    rw[(gY gD2 pD2).2];have:=t50;simp[aa]at this;omega
   obtain⟨k1,k2,k3⟩:=jK gD2 (v:=val (D2.take p2)/2) oz;refine gt (aH (Con.rekeyR 902 rfl (uK D2 p2 gD2.1 gD2.2.1 (by have:=gD2.2.2.1;unfold aD;omega))) (cB rfl) aI rfl rfl) ?_;exact fU J4 (wr D2 0 (bm p2 (val (D2.take p2)/2))) ((ofNat (val (D2.take p2)/2)).length) ⟨k1,by rw[k2];omega,by rw[k2];omega,by rw[k2,Nat.gcd_comm,H7 xD2 xA2,Nat.gcd_comm,hg3]⟩ (by rw[k2];omega)
  have xD2:val (D2.take p2)%2=1:=by
   rw[(gY gD2 pD2).2];have:=t50;simp[aa]at this;omega
  refine gt (aH (VA 901 902 oz A2 D2 n2 p2 gA2.1 gD2.1 gA2.2.1 gD2.2.1) (bB rfl rfl) aI rfl rfl) ?_;refine gC (fun t56=>?_) (fun t56=>?_) (st1:=(17,0)) (st2:=(77777,0))
  ·have hlt:val (A2.take n2)<val (D2.take p2):=by
    rcases XH (val (A2.take n2)) (val (D2.take p2))with h |h
    ·exact h
    ·rw[Yk oz]at t56;split at t56 <;> cases t56
   refine gW (Wk.o (sl:=[(0,some (.ms 902 1 0 p2)),(1,some (.ms 901 1 0 n2)),(5,some (i64 t))]) (hp:=[(901,some (.row 1 (A2.map u32))),(902,some (.row 1 (D2.map u32)))])) ?_ (17,0);refine gW (Wk.rk (k:=901) (d:=903) rfl rfl) ?_ (17,0);refine gW (Wk.rk (k:=902) (d:=901) rfl rfl) ?_ (17,0);refine gW (Wk.rk (k:=903) (d:=902) rfl rfl) ?_ (17,0);refine gW (Wk.of (sl:=[(0,some (.ms 901 1 0 p2)),(1,some (.ms 902 1 0 n2)),(5,some (i64 t))]) (hp:=[(901,some (.row 1 (D2.map u32))),(902,some (.row 1 (A2.map u32)))]) (.cons rfl (Sub.refl _) (.cons rfl (Sub.refl _) (.cons rfl (Sub.refl _) .nil))) (.k (.k .nil))) ?_ (17,0);obtain⟨A3,D3,n3,p3,gA3,gD3,xA3,xD3,hle3,hg4,hs3,e1,e2,e3,e4⟩:∃A3 D3 n3 p3,ik L A3 n3/\ik L D3 p3/\val (A3.take n3)%2=1/\val (D3.take p3)%2=1/\val (D3.take p3)<=val (A3.take n3)/\Nat.gcd (val (A3.take n3)) (val (D3.take p3))=Nat.gcd (val (A2.take n2)) (val (D2.take p2))/\val (A3.take n3)+val (D3.take p3)=val (A2.take n2)+val (D2.take p2)/\A3=D2/\n3=p2/\D3=A2/\p3=n2:=⟨D2,A2,p2,n2,gD2,gA2,xD2,xA2,by omega,Nat.gcd_comm _ _,Nat.add_comm _ _,rfl,rfl,rfl,rfl⟩
   rw[<- e1,<- e2,<- e3,<- e4];refine go ?_;refine gt (aH (Cn A3 D3 n3 p3 gA3.1 gD3.1 gA3.2.1 gD3.2.1 (by have:=gA3.2.2.1;unfold aD;omega) hle3) (bB rfl rfl) aI rfl rfl) ?_;refine gt (aH (Con.rekeyR 901 rfl (AD (wr A3 0 (bm n3 (val (A3.take n3)-val (D3.take p3)))) n3 (qu gA3.1 (ke _ _)) (by rw[ma (by rw[eY];have:=gA3.2.1;omega)];exact gA3.2.1) (by rw[ma (by rw[eY];have:=gA3.2.1;omega)];have:=gA3.2.2.1;unfold aD;omega))) (cB rfl) aI rfl rfl) ?_;exact CY J2 (wr A3 0 (bm n3 (val (A3.take n3)-val (D3.take p3)))) D3 ((ofNat (val (A3.take n3)-val (D3.take p3))).length) p3 ⟨(jK gA3 oz).1,gD3,by omega,.inr xD3,by rw[(jK gA3 (v:=val (A3.take n3)-val (D3.take p3)) oz).2.1,DK hle3,hg4,hg3,hg2,hg1]⟩ (by rw[(jK gA3 (v:=val (A3.take n3)-val (D3.take p3)) oz).2.1];omega) (hw:=Wk.of (.cons rfl (Sub.of (by rw[(jK gA3 (v:=val (A3.take n3)-val (D3.take p3)) oz).2.2])) (.k (.k .nil))) (.k (.k .nil)))
  have hlt:val (D2.take p2)<=val (A2.take n2):=by
   rcases XH (val (A2.take n2)) (val (D2.take p2))with h |h
   ·rw[Yl h]at t56;cases t56
   ·exact h
  refine gW (Wk.o (sl:=[(0,some (.ms 901 1 0 n2)),(1,some (.ms 902 1 0 p2)),(5,some (i64 t))]) (hp:=[(901,some (.row 1 (A2.map u32))),(902,some (.row 1 (D2.map u32)))])) ?_ (77777,0);obtain⟨A3,D3,n3,p3,gA3,gD3,xA3,xD3,hle3,hg4,hs3,e1,e2,e3,e4⟩:∃A3 D3 n3 p3,ik L A3 n3/\ik L D3 p3/\val (A3.take n3)%2=1/\val (D3.take p3)%2=1/\val (D3.take p3)<=val (A3.take n3)/\Nat.gcd (val (A3.take n3)) (val (D3.take p3))=Nat.gcd (val (A2.take n2)) (val (D2.take p2))/\val (A3.take n3)+val (D3.take p3)=val (A2.take n2)+val (D2.take p2)/\A3=A2/\n3=n2/\D3=D2/\p3=p2:=⟨A2,D2,n2,p2,gA2,gD2,xA2,xD2,hlt,rfl,rfl,rfl,rfl,rfl,rfl⟩
  rw[<- e1,<- e2,<- e3,<- e4];obtain⟨k1,k2,k3⟩:=jK gA3 (v:=val (A3.take n3)-val (D3.take p3)) oz;refine go ?_;refine gt (aH (Cn A3 D3 n3 p3 gA3.1 gD3.1 gA3.2.1 gD3.2.1 (by have:=gA3.2.2.1;unfold aD;omega) hle3) (bB rfl rfl) aI rfl rfl) ?_;refine gt (aH (Con.rekeyR 901 rfl (AD (wr A3 0 (bm n3 (val (A3.take n3)-val (D3.take p3)))) n3 (qu gA3.1 (ke _ _)) (by rw[ma (by rw[eY];have:=gA3.2.1;omega)];exact gA3.2.1) (by rw[ma (by rw[eY];have:=gA3.2.1;omega)];have:=gA3.2.2.1;unfold aD;omega))) (cB rfl) aI rfl rfl) ?_;exact CY J2 (wr A3 0 (bm n3 (val (A3.take n3)-val (D3.take p3)))) D3 ((ofNat (val (A3.take n3)-val (D3.take p3))).length) p3 ⟨(jK gA3 oz).1,gD3,by omega,.inr xD3,by rw[(jK gA3 (v:=val (A3.take n3)-val (D3.take p3)) oz).2.1,DK hle3,hg4,hg3,hg2,hg1]⟩ (by rw[(jK gA3 (v:=val (A3.take n3)-val (D3.take p3)) oz).2.1];omega) (hw:=Wk.of (.cons rfl (Sub.of (by rw[(jK gA3 (v:=val (A3.take n3)-val (D3.take p3)) oz).2.2])) (.k (.k .nil))) (.k (.k .nil)))
 have zA1:val (A1.take n1)=0:=by
  have h3:n1=0:=by have:=t38;simp[aa]at this;omega
  exact(Er gA1).1 h3
 rw[zA1,Nat.gcd_zero_left]at hg1;refine gW ((Wk.freeze (k:=902) rfl).trans<|Wk.of (sl:=[(1,some (ws (ofNat (val (D1.take p1))))),(5,some (i64 t))]) (hp:=[]) (.cons rfl (Sub.of (by rw[uR (by rw[XA];have:=gD1.2.1;omega),pK,<- W9 gD1])) (.k .nil)) .nil) ?_;refine aW [64] [] (fun(i:Nat)=>[(1,some (ws (ofNat (2^i*val (D1.take p1))))),(65,some (i64 i))]) (fun _=>[]) (fun i=>i<=t) (fun i=>t-i) 0 (XJ _) ?_ (h1:=(.cons rfl (Sub.of (by rw[Nat.pow_zero,Nat.one_mul])) (.k .nil)));rintro i hit K5 J5;refine gC (fun t66=>?_) (fun t66=>?_)
 ·have hin : i < t := by simpa [aa] using t66
  have h3:2^i*val (D1.take p1)<=G:=by rw[hg1];exact XY _ (pb oz)
  have h4:(ofNat (2^i*val (D1.take p1))).length<=a.length:=fj oz;have ht:t<32*a.length:=DS pD1 (by rw[<- hg1];exact hGa) vla;refine gc (BN _ _ (dk _) (dk _) (by unfold aD;omega) (by unfold aD;omega)) ?_;refine ga (du oz) ?_;exact aO J5 (i+1) hin (hw:=Wk.of (.cons rfl (Sub.of (by rw[cg,Nat.pow_succ];congr 2;grind)) (.k (.k .nil))) .nil)
 have hin:i=t:=by have:t<=i:=(by simpa[aa]using t66);omega
 subst hin;refine af ?_;rw[hg1]
theorem Fk(a b:Wh)(ha:a.ok)(hb:b.ok)(la:a.mag.length+b.mag.length<aD):FP 293 [a.av,b.av] (zA (Int.gcd a.z b.z)):=by
 have h1:=Wh.m_le (w:=a);have h2:=Wh.m_le (w:=b);have h3:Int.gcd a.z b.z=Nat.gcd (val a.m) (val b.m):=by rw[Int.gcd,Wh.abs,Wh.abs]
 have h4:(ofNat (Nat.gcd (val a.m) (val b.m))).length<=a.m.length+b.m.length:=by
  rcases Nat.eq_zero_or_pos (val a.m)with h |h
  ·rw[h,Nat.gcd_zero_left,Wh.ofNat_m hb];omega
  ·exact XW (fj (XX (Nat.gcd_le_left _ h) (b9 _ (Wh.ws ha)))) oz
 refine aj func293 ?_;refine gc (kp a ha) ?_;refine gc (kp b hb) ?_;refine gc (Td a.m b.m (Wh.ws ha) (Wh.ws hb) a.nz b.nz oz) ?_;refine gc (jV false _ (dk _) oz) ?_;refine gD ?_;refine af ?_;rw[cg,h3];rfl
theorem Uu(a b:Wh)(ha:a.ok)(hb:b.ok)(la:a.mag.length+1<aD)(lb:b.mag.length<aD)(h0:b.z≠0):FP 294 [a.av,b.av] (.tup [zA (a.z/b.z),zA (a.z%b.z),i64 0]):=by
 have hm1:=Wh.m_le (w:=a);have hm2:=Wh.m_le (w:=b);have hb1:val b.m≠0:=by have:=Wh.abs (w:=b);omega
 have hl1:(ofNat (val a.m/val b.m)).length<=a.m.length:=fj (XX (Nat.div_le_self _ _) (b9 _ (Wh.ws ha)));have hmod:=Nat.mod_lt (val a.m) (show 0<val b.m by omega);have hl2:(ofNat (val a.m%val b.m)).length<=b.m.length:=fj (Nat.lt_trans hmod (b9 _ (Wh.ws hb)));have hl3:(ofNat (val a.m/val b.m+1)).length<=a.m.length+1:=fj (by have h7:=XX (Nat.div_le_self (val a.m) (val b.m)) (b9 _ (Wh.ws ha));rw[Nat.pow_succ];generalize val a.m/val b.m=m at *;omega);have hl4:(ofNat (val b.m-val a.m%val b.m)).length<=b.m.length:=fj (by have:=b9 _ (Wh.ws hb);omega);have hv1:val [1]=1:=rfl;refine aj func294 ?_;refine gc (AE b hb) ?_;refine gC (fun t11=>?_) (fun t11=>?_) (st1:=(2,0));exact absurd (Int.sign_eq_zero_iff_zero.1 (by simpa[aa]using t11)) h0;refine gc (kp a ha) ?_;refine gc (kp b hb) ?_;refine gc (Oo a.m b.m (Wh.ws ha) (Wh.ws hb) a.nz hb1 oz oz) ?_;refine gD ?_;refine gc (iO a ha) ?_;refine cQ ?_;refine gC (fun t28=>?_) (fun t28=>?_)
 ·have h1:a.n = true /\ 0 < val a.m % val b.m:=xf.1 t28;obtain ⟨e1,e2⟩:=E6 hb1 h1.1 h1.2;refine gc (BN (ofNat (val a.m / val b.m)) [1] (dk _) (rN oz) oz (by unfold aD; simp)) ?_;refine gc (kp b hb) ?_;refine gc (A9 b.m (ofNat (val a.m % val b.m)) (Wh.ws hb) (dk _) oz (by rw [cg]; omega)) ?_;refine gD ?_ (6,0);refine gW (Wk.of (sl:=[(2,some (.ptr 2 0)),(3,some (.ptr 3 0)),(4,some (.ptr 4 0)),(5,some (.ptr 5 0)),(7,some (ws (ofNat (val a.m / val b.m + 1)))),(8,some (ws (ofNat (val b.m - val a.m % val b.m))))]) (hp:=[(2,some (.box [bl a.neg,ws a.mag])),(3,some (.box [bl b.neg,ws b.mag])),(4,some (.box [.v (.bool false),nS])),(5,some (.box [.v (.bool false),nS]))]) (.k (.k (.k (.k (.cons rfl (Sub.of (by rw [cg,hv1])) (.cons rfl (Sub.of (by rw [cg])) .nil)))))) (.k (.k (.k (.k .nil))))) ?_
  refine gc (iO a ha) ?_;refine gc (iO b hb) ?_;refine gc (by apply jV _ _ (dk _) oz) ?_;refine gc (by apply jV _ _ (dk _) oz) ?_;refine gD ?_;refine gR ?_;exact tR (by rw[cg,cg,e1,show sgn false _=_ from e2];rfl)
 have h1:¬(a.n=true/\0<val a.m%val b.m):=fun h=>Bool.eq_false_iff.1 t28 (xf.2 h)
 obtain⟨e1,e2⟩:=Fq hb1 h1;refine gc (iO a ha) ?_;refine gc (iO b hb) ?_;refine gc (by apply jV _ _ (dk _) oz) ?_;refine gc (by apply jV _ _ (dk _) oz) ?_;refine gD ?_;refine gR ?_;exact tR (by rw[cg,cg,e1,show sgn false _=_ from e2];rfl)
theorem ur{x:Int}(hx:Zs x):FP 306 [zA x] (i64 x.sign):=by
 have h:=AW (ofInt x) hx.ok;rw[dU]at h;exact h
theorem uD{x:Int}(hx:Zs x):FP 234 [zA x] (zA (-x)):=by
 have h:=JX (ofInt x) hx.ok (by have:=hx.len;unfold aD;omega);rw[dU]at h;exact h
theorem E7{x y:Int}(hx:Zs x)(hy:Zs y):FP 304 [zA x,zA y] (i64 (gp x y)):=by
 have h:=Nj (ofInt x) (ofInt y) hx.ok hy.ok;rw[dU,dU]at h;exact h
theorem Sw{x y:Int}(hx:Zs x)(hy:Zs y):FP 320 [zA x,zA y] (zA (x+y)):=by
 have h:=TA (ofInt x) (ofInt y) hx.ok hy.ok (by have:=hx.len;unfold aD;omega) (by have:=hy.len;unfold aD;omega);rw[dU,dU]at h;exact h
theorem me{x y:Int}(hx:Zs x)(hy:Zs y):FP 321 [zA x,zA y] (zA (x*y)):=by
 have h:=R8 (ofInt x) (ofInt y) hx.ok hy.ok (by have:=hx.len;have:=hy.len;unfold aD;omega);rw[dU,dU]at h;exact h
theorem Kh{x y:Int}(hx:Zs x)(hy:Zs y):FP 305 [zA x,zA y] (zA (Int.gcd x y)):=by
 have h:=FS (ofInt x) (ofInt y) hx.ok hy.ok (by have:=hx.len;unfold aD;omega) (by have:=hy.len;unfold aD;omega);rw[dU,dU]at h;exact h
theorem GY{x y:Int}(hx:Zs x)(hy:Zs y)(h0:y≠0):FP 322 [zA x,zA y] (.tup [zA (x/y),zA (x%y),.v .nilIface]):=by
 have h:=NJ (ofInt x) (ofInt y) hx.ok hy.ok (by have:=hx.len;unfold aD;omega) (by have:=hy.len;unfold aD;omega) (by rw[dU];exact h0);rw[dU,dU]at h;exact h
theorem AZ{x:Int}(hx:Zs x):FP 221 [zA x] (i64 x.sign):=by
 have h:=AE (ofInt x) hx.ok;rw[dU]at h;exact h
theorem yQ{x:Int}(hx:Zs x):FP 292 [zA x] (zA (-x)):=by
 have h:=C3 (ofInt x) hx.ok (by have:=hx.len;unfold aD;omega);rw[dU]at h;exact h
theorem Od{x y:Int}(hx:Zs x)(hy:Zs y):FP 327 [zA x,zA y] (i64 (gp x y)):=by
 have h:=O8 (ofInt x) (ofInt y) hx.ok hy.ok (by have:=hx.len;unfold aD;omega) (by have:=hy.len;unfold aD;omega);rw[dU,dU]at h;exact h
theorem M2{x y:Int}(hx:Zs x)(hy:Zs y):FP 247 [zA x,zA y] (zA (x+y)):=by
 have h:=DL (ofInt x) (ofInt y) hx.ok hy.ok (by have:=hx.len;unfold aD;omega) (by have:=hy.len;unfold aD;omega);rw[dU,dU]at h;exact h
theorem yF{x y:Int}(hx:Zs x)(hy:Zs y):FP 248 [zA x,zA y] (zA (x*y)):=by
 have h:=UI (ofInt x) (ofInt y) hx.ok hy.ok (by have:=hx.len;have:=hy.len;unfold aD;omega);rw[dU,dU]at h;exact h
theorem Xn{x y:Int}(hx:Zs x)(hy:Zs y):FP 293 [zA x,zA y] (zA (Int.gcd x y)):=by
 have h:=Fk (ofInt x) (ofInt y) hx.ok hy.ok (by have:=hx.len;have:=hy.len;unfold aD;omega);rw[dU,dU]at h;exact h
theorem HO{x y:Int}(hx:Zs x)(hy:Zs y)(h0:y≠0):FP 294 [zA x,zA y] (.tup [zA (x/y),zA (x%y),i64 0]):=by
 have h:=Uu (ofInt x) (ofInt y) hx.ok hy.ok (by have:=hx.len;unfold aD;omega) (by have:=hy.len;unfold aD;omega) (by rw[dU];exact h0);rw[dU,dU]at h;exact h
def ic(e:Nat):Value:=match e with |0=>.nilIface |e+1=>.iface 60 (.int .i64 ((e+1:Nat):Int))
def br(e:Nat):AV:=.v (ic e)
theorem OW(e:Nat):ic e=.nilIface\/∃T u,ic e=.iface T u:=by cases e;exact .inl rfl;exact .inr ⟨_,_,rfl⟩
theorem xU(e:Nat):ef (ic e)=decide (e=0):=by cases e <;> simp[ic,ef]
theorem TL{e:Nat}(h:ef (ic e)=true):e=0:=by rw[xU]at h;exact of_decide_eq_true h
theorem DP{e:Nat}(h:ef (ic e)=false):e≠0:=by rw[xU]at h;exact of_decide_eq_false h
theorem cU{e:Nat}(h:(!ef (ic e))=true):e≠0:=DP (by cases h':ef (ic e) <;> simp_all)
theorem cS{e:Nat}(h:(!ef (ic e))=false):e=0:=TL (by cases h':ef (ic e) <;> simp_all)
theorem zp:FP 258 [] (zA 1):=by
 refine aj func258 ?_;refine gc (Ea 1 oz) ?_;refine af ?_
 first |rfl |(simp;done)
theorem s9(r:Rt)(h:r.ok):FP 208 [r.av] (bl r.valid):=by
 have hn:=h.n0;have hd:=h.d0;refine aj func208 ?_;refine gl ?_;refine cQ ?_;refine gC (fun t14=>?_) (fun t14=>?_)
 ·have h0 : r.num = [] /\ r.den = [] := by simpa [aa] using t14
  refine af ?_;unfold Rt.valid;rw[Yl h0];rfl
 have h0:¬(r.num=[]/\r.den=[]):=by
  have:=t14;simp[aa]at this;exact fun h=>this h.1 h.2
 refine gD ?_;refine gl ?_;refine cQ ?_;refine b7 (fun _=>(wG r.n0 hn)) ?_;refine b7 (fun _=>(wG r.d0 hd)) ?_;refine gC (fun t43=>?_) (fun t43=>?_)
 ·have h1:r.valid=false:=BJ h0 t43;refine af ?_;rw[h1];rfl
 have h1:=F4 h0 t43;refine gc (FS r.n0 r.d0 hn hd h.n0l h.d0l) ?_;refine gc (by apply zp) ?_;refine gc (E7 (Rt.gcd_zs h) ve) ?_;refine af ?_;rw[h1];rfl
theorem lG(r:Rt)(h:r.ok):FP 232 [r.av] (.tup [zA r.q.num,zA r.q.den]):=by
 have hl1:r.num.length<=137438953472:=h.2.2.1;have hl2:r.den.length<=137438953472:=h.2.2.2;refine aj func232 ?_;refine gc (s9 r h) ?_;refine cQ ?_;refine gC (fun t12=>?_) (fun t12=>?_)
 ·have h0:¬(r.valid=true/\r.num≠[]):=by
   have:=t12;intro h';simp[aa,h'.1,h'.2]at this
  refine gc zp ?_;refine gR ?_;exact dF (by rw[Rt.zero h0];exact Sub.tup (.cons I5 (.cons (.refl _) .nil)))
 have h0:r.valid=true/\r.num≠[]:=by
  have:=t12;cases hv:r.valid
  ·rw[hv]at this;cases this
  ·rw[hv]at this;exact⟨rfl,by simpa[aa]using this⟩
 obtain⟨e1,e2,e3,e4,e5,e6⟩:=Rt.parts h h0.1 h0.2;refine gs (iK T43 rfl T350 rfl rfl rfl) ?_;refine gs (bX (.tmp rfl) rfl rfl (.tmp rfl) T43 rfl T350 rfl rfl (by simp only[XA];omega) rfl rfl) ?_;refine gD ?_ (4,0);refine gW ((Wk.freeze (k:=20) rfl).trans<|Wk.of (sl:=[(1,some (.ptr 1 0)),(2,some (.ptr 2 0)),(3,some (.ptr 3 0))]) (hp:=[(1,some (.box [bl r.neg,ws r.num,ws r.den])),(2,some (.box [bl r.neg,ws r.num])),(3,some (.box [bl false,nS]))]) aZ (.k (.cons rfl (BlkSub.bL (.cons (.refl _) (.cons (.of (bJ (by simp))) .nil)) rfl) (.k .nil)))) ?_;refine gs (iK T43 rfl T350 rfl rfl rfl) ?_;refine gs (bX (.tmp rfl) rfl rfl (.tmp rfl) T43 rfl T350 rfl rfl (by simp only[XA];omega) rfl rfl) ?_;refine gD ?_ (77777,0);refine gW ((Wk.freeze (k:=26) rfl).trans<|Wk.of (sl:=[(2,some (.ptr 2 0)),(3,some (.ptr 3 0))]) (hp:=[(2,some (.box [bl r.neg,ws r.num])),(3,some (.box [bl false,ws r.den]))]) aZ (.k (.cons rfl (BlkSub.bL (.cons (.refl _) (.cons (.of (bJ (by simp))) .nil)) rfl) .nil))) ?_;refine bp ?_;rw[e1,e2];exact Gq e3 e4 e5
theorem rI{n d:Int}(hn:Zs n)(hd:Zs d)(h0:d≠0):FP 233 [zA n,zA d] (qA (Rat.divInt n d)):=by
 refine aj func233 ?_;refine gc (ur hn) ?_;refine gC (fun t9=>?_) (fun t9=>?_)
 ·have e0 : n=0 := Int.sign_eq_zero_iff_zero.1 (by simpa[aa]using t9);refine gR ?_;exact l0 (by rw[e0,Rat.zero_divInt];exact jx)
 have e0:n≠0:=fun h=>by rw[h]at t9;cases t9
 refine gc (ur hd) ?_;refine yc [2,3,4] [4] (fun(n1 d1:Int)=>[]) (fun n1 d1=>[(2,some (.box (zA n1).cells)),(3,some (.box (zA d1).cells))]) (fun n1 d1=>0<d1/\n1≠0/\Zs n1/\Zs d1/\Rat.divInt n1 d1=Rat.divInt n d) ?_ ?_
 ·intro K1 J1;refine gC (fun t13=>?_) (fun t13=>?_)
  ·have e1 : d<0 := Int.sign_eq_neg_one_iff_neg.1 (by have := Int.sign_trichotomy d;have h9 : d.sign<0 := (by simpa[aa]using t13);omega);refine gc (uD hn) ?_;refine gc (uD hd) ?_;refine gD ?_;exact pW J1 (-n) (-d) ⟨by omega,by omega,hn.neg,hd.neg,Fa n d⟩
  have e1:0<d:=by
   have h9:0<=d.sign:=by simpa[aa]using t13
   have:=Int.sign_nonneg_iff.1 h9;omega
  exact pW J1 n d ⟨e1,e0,hn,hd,rfl⟩
 rintro n1 d1 ⟨f1,f2,f3,f4,f5⟩;refine gc (Kh f3 f4) ?_;refine gc (ur f3) ?_;refine Av [2,3,4,5] [3,4,5] (fun(n2:Int)=>[(6,some (bl (decide (n1<0))))]) (fun n2=>[(2,some (.box (zA n2).cells))]) (fun n2=>n2=(n1.natAbs:Int)) ?_ ?_
 ·intro K2 J2;refine gC (fun t24=>?_) (fun t24=>?_)
  ·have e2 : n1<0 := Int.sign_eq_neg_one_iff_neg.1 (by have := Int.sign_trichotomy n1;have h9 : n1.sign<0 := (by simpa[aa]using t24);omega);refine gc (uD f3) ?_;exact qw J2 (-n1) oz (hw:=Wk.of (.cons rfl (Sub.of (by rw[show aa .lss n1.sign 0=true from t24,decide_eq_true e2];rfl)) (.k (.k (.k (.k .nil))))) (.k (.k (.k (.k .nil)))))
  have e2:0<n1:=by
   have h9:0<=n1.sign:=by simpa[aa]using t24
   have:=Int.sign_nonneg_iff.1 h9;omega
  exact qw J2 n1 oz (hw:=Wk.of (.cons rfl (Sub.of (by rw[show aa .lss n1.sign 0=false from t24,decide_eq_false oz];rfl)) (.k (.k (.k (.k .nil))))) (.k (.k (.k (.k .nil)))))
 rintro n2 g1;have g2:Zs (Int.gcd n1 d1:Int):=f3.of_le (by rw[X4];exact Nat.le_of_dvd oz (Int.gcd_dvd_natAbs_left _ _));have g3:(Int.gcd n1 d1:Int)≠0:=by have:=Int.gcd_pos_of_ne_zero_left d1 f2;omega
 have g4:Zs n2:=f3.of_le oz;refine gc (GY g4 g2 g3) ?_;refine gc (GY f4 g2 g3) ?_;refine af ?_;rw[<- f5,<- LU f1 f2,<- g1];rfl
theorem Q5{n d:Int}(hn:Zs n)(hd:Zs d):FP 404 [zA n,zA d] (.tup [qA (Rat.divInt n d),br (if d=0 then 8 else 0)]):=by
 refine aj func404 ?_;refine gc (ur hd) ?_;refine gC (fun t8=>?_) (fun t8=>?_)
 ·have h0 : d=0 := Int.sign_eq_zero_iff_zero.1 (by simpa[aa]using t8);refine gR ?_;exact dF (by rw[Yl h0,h0,Rat.divInt_zero];exact Sub.tup (.cons jx (.cons (.refl _) .nil)))
 have h0:d≠0:=fun h=>by rw[h]at t8;cases t8
 refine gc (rI hn hd h0) ?_;refine bp ?_;rw[Yk h0];rfl
theorem kA(n:Int)(h:-9223372036854775808<=n/\n<=9223372036854775807):FP 151 [i64 n] (qA n):=by
 have hz:Zs n:=⟨2,by omega,by unfold Lz;simp only[Nat.reducePow];omega⟩
 refine aj func151 ?_;refine gc (Ea n h) ?_;refine gc zp ?_;refine gc (rI hz ve oz) ?_;refine af ?_;exact congrArg qA (Rat.num_divInt_den (n:Rat))
theorem uh(a:Rt)(ha:a.ok):FP 121 [a.av] (qA (-a.q)):=by
 have za:=ha.qs;refine aj func121 ?_;refine gc (lG a ha) ?_;refine gc (uD za.num) ?_;refine gc (rI za.num.neg za.den (by have:=a.q.den_nz;omega)) ?_;refine gD ?_;refine af ?_;rw[II];rfl
theorem vf(a:Rt)(ha:a.ok):FP 209 [a.av] (i64 (bK a.q)):=by
 refine aj func209 ?_;refine gc (lG a ha) ?_;refine gc (ur ha.qs.num) ?_;refine af ?_;rw[Is]
theorem Ex(a b:Rt)(ha:a.ok)(hb:b.ok):FP 365 [a.av,b.av] (i64 (bK (a.q-b.q))):=by
 have za:=ha.qs;have zb:=hb.qs;have m1:=za.mul zb;have m2:=zb.mul za;refine aj func365 ?_;refine gc (lG a ha) ?_;refine gc (lG b hb) ?_;refine gc (me za.num zb.den) ?_;refine gc (me zb.num za.den) ?_;refine gc (E7 m1.1 m2.1) ?_;refine gD ?_;refine af ?_;rw[MJ]
theorem ni(a b:Rt)(ha:a.ok)(hb:b.ok):FP 231 [a.av,b.av] (qA (a.q+b.q)):=by
 have za:=ha.qs;have zb:=hb.qs;have m1:=za.mul zb;have m2:=zb.mul za;refine aj func231 ?_;refine gc (lG a ha) ?_;refine gc (lG b hb) ?_;refine gc (me za.num zb.den) ?_;refine gc (me zb.num za.den) ?_;refine gc (Sw m1.1 m2.1) ?_;refine gc (me za.den zb.den) ?_;refine gc (rI (za.cross zb) m1.2.2.1 (Int.mul_ne_zero (by have:=a.q.den_nz;omega) (by have:=b.q.den_nz;omega))) ?_;refine gD ?_;refine af ?_;rw[BH];rfl
theorem LE(a b:Rt)(ha:a.ok)(hb:b.ok):FP 262 [a.av,b.av] (qA (a.q-b.q)):=by
 refine aj func262 ?_;refine gc (uh b hb) ?_;refine gc (ni a (rt (-b.q)) ha hb.qs.neg.ok) ?_;refine gD ?_;refine af ?_;rw[bV,<- Rat.sub_eq_add_neg];rfl
theorem HP(a b:Rt)(ha:a.ok)(hb:b.ok):FP 286 [a.av,b.av] (qA (a.q*b.q)):=by
 have za:=ha.qs;have zb:=hb.qs;have m1:=za.mul zb;refine aj func286 ?_;refine gc (lG a ha) ?_;refine gc (lG b hb) ?_;refine gc (me za.num zb.num) ?_;refine gc (me za.den zb.den) ?_;refine gc (rI m1.2.1 m1.2.2.1 (Int.mul_ne_zero (by have:=a.q.den_nz;omega) (by have:=b.q.den_nz;omega))) ?_;refine gD ?_;refine af ?_;rw[CB];rfl
theorem Dy(a b:Rt)(ha:a.ok)(hb:b.ok):FP 385 [a.av,b.av] (.tup [qA (a.q/b.q),br (if b.q=0 then 8 else 0)]):=by
 have za:=ha.qs;have zb:=hb.qs;have m1:=za.mul zb;refine aj func385 ?_;refine gc (lG a ha) ?_;refine gc (lG b hb) ?_;refine gc (me za.num zb.den) ?_;refine gc (me za.den zb.num) ?_;refine gc (Q5 m1.1 m1.2.2.2) ?_;refine gD ?_;refine bp ?_
 have e1:((a.q.den:Int)*b.q.num=0)=(b.q=0):=by
  apply propext;rw[<- Rat.num_eq_zero,Int.mul_eq_zero];exact⟨fun h=>h.resolve_left (by have:=a.q.den_nz;omega),.inr⟩
 simp only[Jj,e1];rfl
structure Pq where
  c:List Rat
  s:List Rat
  x:List Rat
  y:List Rat
def Pq.av(p:Pq):AV:=.agg [nA p.c,nA p.s,nA p.x,nA p.y]
structure Pq.ok(n e:Nat)(p:Pq):Prop where
  c:Nm n e p.c
  s:Nm n e p.s
  x:Nm n e p.x
  y:Nm n e p.y
def Ft(p:Pse):Pq:=⟨sh 0 (de p.turn.half p.turn.t.q:Rat),sh 0 (db p.turn.half p.turn.t.q:Rat),sh 0 (p.at_.x.q:Rat),sh 0 (p.at_.y.q:Rat)⟩
def Jl(ps:List Pse):Nat:=if ps.all Pse.ok=true then 0 else 2
def ofL(ps:List Pse):List Pq:=if ps.all Pse.ok=true then ps.map Ft else[]
theorem sD{half:Bool}{t:Rat}{e:Nat}(h:Qb e t):Qb (4*e+6) (de half t):=by
 unfold de;split
 ·exact Qb.one.neg.mono oz
 ·exact((Qb.one.sub (h.mul h)).div (Qb.one.add (h.mul h))).mono oz
theorem tG{half:Bool}{t:Rat}{e:Nat}(h:Qb e t):Qb (4*e+6) (db half t):=by
 unfold db;split
 ·exact Qb.zero.mono oz
 ·exact((h.add h).div (Qb.one.add (h.mul h))).mono oz
theorem O5{n e:Nat}{q:Rat}(hn:n<=5)(h:Qb e q):Nm n (e+e) (sh 0 (q:Rat)):=by
 have h1:Nl n (sh 0 (q:Rat)):=by
  have:Nl 0 (sh 0 (q:Rat)):=eQ 0 _;rcases this with h |⟨j,hj,h⟩
  ·exact .inl h
  ·exact .inr ⟨j,by omega,h⟩
 refine⟨hn,h1,?_⟩
 have hm:∀p∈sh 0 (q:Rat),Qb e p:=by
  intro p hp
  have:p=q:=by
   unfold sh at hp;split at hp
   ·cases hp
   ·exact List.mem_singleton.1 hp
  rw[this];exact h
 obtain⟨D,N,h3,h4,h5⟩:=FQ hm
 have h6:(sh 0 (q:Rat)).length<=1:=by
  rcases(eQ 0 (q:Rat))with h |⟨j,hj,h⟩
  ·rw[h];simp
  ·have : j = 0 := by omega
   subst this;rw[h];simp
 have h7:e*(sh 0 (q:Rat)).length<=e*1:=XL _ h6;exact⟨D,N,h3,XW h4 (cM oz),XW h5 (cM oz)⟩
def L4(ts:LL)(b:Pl)(w:Pq):Bool :=
  gP ts (ae ts.length (lq b.c)) (ae ts.length w.c)&&gP ts (ae ts.length (lq b.s)) (ae ts.length w.s)&&gP ts (ae ts.length (lq b.x)) (ae ts.length w.x)&&gP ts (ae ts.length (lq b.y)) (ae ts.length w.y)
def mE(a:As)(ps:List Pse):Nat :=
  if bC a.rs≠0 then bC a.rs else if Jl ps≠0 then Jl ps else if a.bs.length≠ps.length then 10 else eD (a.bs.map (fun b=>bN a.rs b.l))
def mB(a:As)(ps:List Pse):Bool:=decide (mE a ps=0)&&(a.bs.zip ps).all (fun z=>L4 (llq a.rs) z.1 (Ft z.2))
theorem AY{α:Type}{l:List α}{f:α->Nat}{i:Nat}{x:α}(hx:l[i]?=some x)(hb:∀y∈l.take i,f y=0)(hn:f x≠0):eD (l.map f)=f x:=by
 have e:l=l.take i++l.drop i:=(List.take_append_drop i l).symm;have hi:=(List.getElem?_eq_some_iff.1 hx).1
 have e2:l.drop i=x::l.drop (i+1):=by
  rw[List.drop_eq_getElem_cons hi,(List.getElem?_eq_some_iff.1 hx).2]
 rw[e,XQ,r6 _ _ (nP (fun v hv=>by
  obtain⟨y,hy,rfl⟩:=List.mem_map.1 hv;exact hb y hy)),e2]
 show(if f x≠0 then f x else _)=_;rw[Yl hn]
theorem xR{rs:List (List Rt)}{b:Pl}{E:Nat}(h:bN rs b.l=0)(hb:∀x∈b.l,NR x E)(h5:rs.length<=5) :
  b.av=Pq.av ⟨lq b.c,lq b.s,lq b.x,lq b.y⟩/\Pq.ok rs.length E ⟨lq b.c,lq b.s,lq b.x,lq b.y⟩:=by
 have h1:=(ox h).2
 have g:∀x∈b.l,nR x=nA (lq x)/\Nm rs.length E (lq x):=fun x hx=>by
  obtain⟨e1,e2⟩:=(hb x hx).num (h1 x hx);exact⟨e1,h5,e2,(hb x hx).cb⟩
 have c:=g b.c (by simp[Pl.l]);have s:=g b.s (by simp[Pl.l]);have x:=g b.x (by simp[Pl.l]);have y:=g b.y (by simp[Pl.l]);exact⟨by unfold Pl.av Pq.av;rw[c.1,s.1,x.1,y.1],c.2,s.2,x.2,y.2⟩
instance:Inhabited Tn:=⟨⟨⟨false,[],[]⟩,false⟩⟩
def cC(n:Nat)(ok:Nat->Bool):Option Nat:=(List.range n).find? (fun i=>!ok i)
theorem gH{n i:Nat}{ok:Nat->Bool}(hi:i<n)(h:∀j,j<i->ok j=true)(he:ok i=false):cC n ok=some i:=by
 unfold cC;rw[List.find?_range_eq_some];exact⟨by rw[he];rfl,by simpa using hi,fun j hj=>by rw[h j hj];rfl⟩
theorem fM{n:Nat}{ok:Nat->Bool}(h:∀j,j<n->ok j=true):cC n ok=none:=by
 unfold cC;rw[List.find?_range_eq_none];exact fun j hj=>by rw[h j hj];rfl
theorem QW{n:Nat}{ok:Nat->Bool}(h:cC n ok=none):∀j,j<n->ok j=true:=by
 unfold cC at h;rw[List.find?_range_eq_none]at h;intro j hj;have:=h j hj;simpa using this
def jA:Option Nat->Int
  |none=>-1
  |some i=>i
theorem yt{o:Option Nat}(h:aa .geq (jA o) 0=true):∃i,o=some i:=by
 cases o with
 |none=>cases h
 |some i=>exact⟨i,rfl⟩
theorem BI{o:Option Nat}(h:aa .geq (jA o) 0=false):o=none:=by
 cases o with
 |none=>rfl
 |some i =>
  have h1:¬((i:Int)>=0):=of_decide_eq_false h;omega
abbrev fL(ts:LL)(x:List Rt):T ts.length:=ae ts.length (lq x)
def oI(ts:LL)(b:Pl)(m:Mk):T ts.length×T ts.length:=(rY ts (fL ts b.c) (fL ts b.s) (fL ts b.x) m.x.q m.y.q,sE ts (fL ts b.c) (fL ts b.s) (fL ts b.y) m.x.q m.y.q)
def s7(l:Li)(a:As)(body pt:Int):T (llq a.rs).length×T (llq a.rs).length:=oI (llq a.rs) (a.bs.getD body.toNat default) ((cA l body).getD pt.toNat default)
def xO(p:Nat×Nat):AV:=.agg [i64 p.1,i64 p.2]
theorem cK{l:Li}(h:aA l=0):fQ l=0/\d6 l=0/\fu l=0/\l.bo.length<=8/\l.bo.length≠0:=by
 unfold aA at h;split at h
 ·cases h
 ·split at h
  ·cases h
  ·split at h
   ·cases h
   ·split at h
    ·rename_i h1;exact absurd h h1
    ·rename_i g1 _ h1;split at h
     ·rename_i h2;exact absurd h h2
     ·rename_i h2;exact⟨Decidable.not_not.1 h1,Decidable.not_not.1 h2,h,by omega,by omega⟩
theorem Hr{l:Li}(h:aA l=0){i:Nat}{j:Jt}(hj:l.jo[i]?=some j):dN l j=0:=by
 have h1:=(cK h).2.1;unfold d6 at h1;split at h1
 ·cases h1
 ·have h2:=nD h1 i (List.getElem?_eq_some_iff.1 hj).1;unfold fK at h2;rw[aq hj]at h2;split at h2
  ·cases h2
  ·split at h2
   ·cases h2
   ·exact h2
theorem cO{l:Li}(h:aA l=0){i:Nat}{j:Jt}(hj:l.jo[i]?=some j) :
  bu j.a l.bo.length=true/\bu j.b l.bo.length=true/\bu j.point (cA l j.a).length=true/\bu j.on (cA l j.b).length=true/\(j.kind≠0->bu j.to (cA l j.b).length=true):=by
 have h1:=Hr h hj;unfold dN at h1;split at h1
 ·cases h1
 ·split at h1
  ·cases h1
  ·rename_i h2;split at h1
   ·cases h1
   ·split at h1
    ·cases h1
    ·rename_i h3;have a1:bu j.a l.bo.length = true:=by cases h:bu j.a l.bo.length <;> simp_all
     have a2:bu j.b l.bo.length=true:=by cases h:bu j.b l.bo.length <;> simp_all
     have a3:bu j.point (cA l j.a).length=true:=by cases h:bu j.point (cA l j.a).length <;> simp_all
     have a4:bu j.on (cA l j.b).length=true:=by cases h:bu j.on (cA l j.b).length <;> simp_all
     refine⟨a1,a2,a3,a4,fun hk=>?_⟩;rw[Yk hk]at h1;split at h1
     ·cases h1
     ·rename_i h4;cases h:bu j.to (cA l j.b).length <;> simp_all
theorem lc{l:Li}(h:aA l=0){i:Nat}{d:Dr}(hd:l.dv[i]?=some d):bu d.body l.bo.length=true:=by
 have h1:=(cK h).2.2.1;unfold fu at h1;split at h1
 ·cases h1
 ·have h2:=nD h1 i (List.getElem?_eq_some_iff.1 hd).1;unfold dM at h2;rw[aq hd]at h2;split at h2
  ·cases h2
  ·split at h2
   ·cases h2
   ·split at h2
    ·cases h2
    ·rename_i h3;cases h:bu d.body l.bo.length <;> simp_all
theorem Rw{l:Li}(h:aA l=0){n k:Nat}{b:Bd}{m:Mk}(hb:l.bo[n]?=some b)(hm:b.pts[k]?=some m):m.x.valid=true/\m.y.valid=true:=by
 have h2:=nD (cK h).1 n (List.getElem?_eq_some_iff.1 hb).1;unfold dG at h2;rw[aq hb]at h2;split at h2
 ·cases h2
 ·split at h2
  ·cases h2
  ·split at h2
   ·cases h2
   ·have h3:=nD h2 k (List.getElem?_eq_some_iff.1 hm).1;unfold dC at h3;rw[aq hm]at h3;split at h3
    ·cases h3
    ·split at h3
     ·cases h3
     ·split at h3
      ·assumption
      ·cases h3
theorem uA{ts:LL}{r e f:Nat}(tw:Tw ts r){b:Pl}{m:Mk}(hb:Pq.ok ts.length e ⟨lq b.c,lq b.s,lq b.x,lq b.y⟩)(hx:Qb f m.x.q)(hy:Qb f m.y.q) :
  Nm ts.length (3*e+2*f+2*kB r ts.length+10) (sh ts.length (oI ts b m).1)/\Nm ts.length (3*e+2*f+2*kB r ts.length+10) (sh ts.length (oI ts b m).2):=by
 have nx:=Nm.ofQ tw.five (Cb.one hx);have ny:=Nm.ofQ tw.five (Cb.one hy);have h1:=(xe tw hb.c hb.s nx ny).add hb.x;rw[zW]at h1;have h2:=(xC tw hb.c hb.s nx ny).add hb.y;rw[zy]at h2;exact⟨h1.mono oz,h2.mono oz⟩
def jP(l:Li)(xs:List Tn):Nat:=if aA l≠0 then aA l else if xs.length≠l.dv.length then 10 else eD (xs.map Tn.err)
theorem FZ{l:Li}{xs:List Tn}(h:aA l=0)(h1:xs.length≠l.dv.length):jP l xs=10:=by unfold jP;rw[Yk (by rw[h];simp),Yl h1]
theorem Ht{l:Li}{xs:List Tn}(h:aA l=0)(h1:xs.length=l.dv.length){i:Nat}{x:Tn}(hx:xs[i]?=some x)(hb:∀y∈xs.take i,y.err=0)(hn:x.err≠0):jP l xs=x.err:=by
 unfold jP;rw[Yk (by rw[h];simp),Yk (by rw[h1];simp),AY hx hb hn]
theorem CQ{l:Li}{xs:List Tn}(h:aA l=0)(h1:xs.length=l.dv.length)(hb:∀y∈xs,y.err=0):jP l xs=0:=by
 unfold jP;rw[Yk (by rw[h];simp),Yk (by rw[h1];simp)]
 exact nP (fun e he=>by obtain⟨x,hx,rfl⟩:=List.mem_map.1 he;exact hb x hx)
theorem VM{e n m:Nat}(h:cond (!(ef (ic e))) true (aa .neq (n:Int) (m:Int))=true):e≠0\/n≠m:=by
 cases h1:ef (ic e)
 ·exact .inl (DP h1)
 ·rw[h1]at h;have:=mR h;exact .inr oz
structure Gr where
  kind:Int
  bo:List Int
  jo:List Int
  driver:Int
instance:Inhabited Gr:=⟨⟨0,[],[],0⟩⟩
def Gr.av(g:Gr):AV:=.agg [i64 g.kind,.lst 1 (g.bo.map i64),.lst 1 (g.jo.map i64),i64 g.driver]
def kn(k:List Bool)(i:Int):Bool:=k.getD i.toNat false
def cF(n:Nat)(b:Int):List Bool:=(List.replicate n false).set b.toNat true
def mx(l:Li)(b:Int):Bool:=l.dv.any (fun d=>decide (d.body=b))
def freeB(l:Li)(kw:List Bool)(b:Int):Bool:=!kn kw b&&!mx l b
def lQ(kind body:Int)(oth:List Bool)(j:Jt):Bool:=decide (j.kind=kind)&&(decide (j.a=body)&&kn oth j.b||decide (j.b=body)&&kn oth j.a)
def jointI(l:Li)(kind body:Int)(oth:List Bool):Int:=jA (cC l.jo.length (fun i=>!lQ kind body oth (l.jo.getD i default)))
def drHit(l:Li)(kw:List Bool)(i:Nat):Bool:=!kn kw (l.dv.getD i default).body&&decide (0<=jointI l 0 (l.dv.getD i default).body kw)
def driverG(l:Li)(kw:List Bool):Option Gr :=
  (cC l.dv.length (fun i=>!drHit l kw i)).map fun i=>⟨0,[(l.dv.getD i default).body],[jointI l 0 (l.dv.getD i default).body kw],i⟩
def prHit(l:Li)(kw:List Bool)(i k:Nat):Bool :=
  (freeB l kw i&&freeB l kw k)&&(decide (0<=jointI l 0 i kw)&&decide (0<=jointI l 0 k kw)&&decide (0<=jointI l 0 i (cF l.bo.length k)))
def prAt(l:Li)(kw:List Bool)(i:Nat):Option Nat:=(cC (l.bo.length-(i+1)) (fun k=>!prHit l kw i (i+1+k))).map (·+(i+1))
def prG(l:Li)(kw:List Bool)(i k:Nat):Gr:=⟨1,[i,k],[jointI l 0 i kw,jointI l 0 k kw,jointI l 0 i (cF l.bo.length k)],0⟩
def pairG(l:Li)(kw:List Bool):Option Gr :=
  (cC l.bo.length (fun i=>(prAt l kw i).isNone)).map fun i=>match prAt l kw i with
    |some k=>prG l kw i k
    |none=>default
def sgHit(l:Li)(kw:List Bool)(i:Nat):Bool:=freeB l kw i&&(decide (0<=jointI l 0 i kw)&&decide (0<=jointI l 1 i kw))
def sgG(l:Li)(kw:List Bool)(i:Nat):Gr :=
  ⟨if(l.jo.getD (jointI l 1 i kw).toNat default).a=i then 2 else 3,[i],[jointI l 0 i kw,jointI l 1 i kw],0⟩
def singleG(l:Li)(kw:List Bool):Option Gr:=(cC l.bo.length (fun i=>!sgHit l kw i)).map (sgG l kw)
def nextG(l:Li)(kw:List Bool):Option Gr:=(driverG l kw).or ((pairG l kw).or (singleG l kw))
def bA(kw:List Bool)(bs:List Int):List Bool:=bs.foldl (fun k b=>k.set b.toNat true) kw
def findFrom(l:Li):Nat->List Bool->List Gr->List Bool×List Gr
  |0,kw,out=>(kw,out)
  |n+1,kw,out=>match nextG l kw with
    |none=>(kw,out)
    |some g=>findFrom l n (bA kw g.bo) (out++[g])
def findG(l:Li):List Gr:=(findFrom l l.bo.length (cF l.bo.length 0) []).2
def bS(l:Li):List Bool:=(findG l).foldl (fun k g=>bA k g.bo) (cF l.bo.length 0)
def d8(l:Li):List Bool:=(findG l).foldl (fun k g=>bA k g.jo) (List.replicate l.jo.length false)
def eH(k:List Bool):List Int:=((List.range k.length).filter (fun i=>!k.getD i false)).map (fun i:Nat=>((i:Nat):Int))
def splitE(l:Li):Nat:=if(eH (bS l)).length+(eH (d8 l)).length=0 then 0 else 7
def splitG(l:Li):List Gr:=if splitE l=0 then findG l else[]
theorem GB{kind body:Int}{oth:List Bool}{j:Jt}{va vb:Bool}(ea:kn oth j.a=va)(eb:kn oth j.b=vb) :
  cond (aa .eql j.kind kind) (cond (cond (aa .eql j.a body) vb false) true (cond (aa .eql j.b body) va false)) false=lQ kind body oth j:=by
 unfold lQ;rw[oT,oT,oT,ea,eb,iC,iC,iC,iL]
theorem gT(n:Nat)(b:Int):(cF n b).length=n:=by unfold cF;simp
theorem jG:∀(bs:List Int)(k:List Bool),(bA k bs).length=k.length
 |[],k=>rfl
 |b::bs,k=>by
  show(bA (k.set b.toNat true) bs).length=_;rw[jG bs];simp
theorem ff{n i:Nat}{ok:Nat->Bool}(h:cC n ok=some i):i<n/\ok i=false:=by
 unfold cC at h;rw[List.find?_range_eq_some]at h;exact⟨by simpa using h.2.1,by simpa using h.1⟩
theorem mZ{l:Li}{kind body:Int}{oth:List Bool}:-1<=jointI l kind body oth/\jointI l kind body oth<l.jo.length:=by
 unfold jointI;cases h:cC l.jo.length (fun i=>!lQ kind body oth (l.jo.getD i default))with
 |none=>exact⟨by decide,by show(-1:Int)<_;omega⟩
 |some i=>have:=(ff h).1;exact⟨by show(-1:Int)<=(i:Int);omega,by show(i:Int)<_;omega⟩
structure GrOk(l:Li)(g:Gr):Prop where
  b:∀x∈g.bo,0<=x/\x<l.bo.length
  j:∀x∈g.jo,0<=x/\x<l.jo.length
  lb:g.bo.length<=2
  lj:g.jo.length<=3
theorem LF{l:Li}(hl:aA l=0){kw:List Bool}{g:Gr}(h:driverG l kw=some g):GrOk l g:=by
 unfold driverG at h;rw[XB]at h;obtain⟨i,hi,rfl⟩:=h;obtain⟨h1,h2⟩:=ff hi;obtain⟨d,hd⟩:=aw h1;have h3:=cW (lc hl hd);unfold drHit at h2;simp only[Bool.not_eq_false',XF,decide_eq_true_eq]at h2;rw[aq hd]at h2 ⊢;have h4:=mZ (l:=l) (kind:=0) (body:=d.body) (oth:=kw);refine⟨fun x hx=>?_,fun x hx=>?_,by simp,by simp⟩
 ·rw[List.mem_singleton.1 hx];exact h3
 ·rw[List.mem_singleton.1 hx];exact⟨h2.2,h4.2⟩
theorem VZ{l:Li}{kw:List Bool}{g:Gr}(h:pairG l kw=some g):GrOk l g:=by
 unfold pairG at h;rw[XB]at h;obtain⟨i,hi,h⟩:=h;obtain⟨h1,h2⟩:=ff hi;split at h
 ·rename_i k hk;subst h;unfold prAt at hk;rw [XB] at hk;obtain ⟨k',hk',rfl⟩:=hk;obtain ⟨h3,h4⟩:=ff hk';rw [show i + 1 + k' = k' + (i + 1) by omega] at h4;unfold prHit at h4;simp only [Bool.not_eq_false',XF,decide_eq_true_eq] at h4;obtain ⟨_,⟨j1,j2⟩,j3⟩:=h4;refine ⟨fun x hx=>?_,fun x hx=>?_,by simp [prG],by simp [prG]⟩
  ·simp only[prG,X6,XV,or_false]at hx;rcases hx with rfl |rfl <;> constructor <;> omega
  ·simp only[prG,X6,XV,or_false]at hx;rcases hx with rfl |rfl |rfl
   ·exact⟨j1,mZ.2⟩
   ·exact⟨j2,mZ.2⟩
   ·exact⟨j3,mZ.2⟩
 ·rename_i hk;rw[hk]at h2;cases h2
theorem WR{l:Li}{kw:List Bool}{g:Gr}(h:singleG l kw=some g):GrOk l g:=by
 unfold singleG at h;rw[XB]at h;obtain⟨i,hi,rfl⟩:=h;obtain⟨h1,h2⟩:=ff hi;unfold sgHit at h2;simp only[Bool.not_eq_false',XF,decide_eq_true_eq]at h2;obtain⟨_,j1,j2⟩:=h2;refine⟨fun x hx=>?_,fun x hx=>?_,by simp[sgG],by simp[sgG]⟩
 ·simp only[sgG,X6,XV,or_false]at hx;subst hx;constructor <;> omega
 ·simp only[sgG,X6,XV,or_false]at hx;rcases hx with rfl |rfl
  ·exact⟨j1,mZ.2⟩
  ·exact⟨j2,mZ.2⟩
theorem wK{l:Li}(hl:aA l=0){kw:List Bool}{g:Gr}(h:nextG l kw=some g):GrOk l g:=by
 unfold nextG at h;cases h1:driverG l kw with
 |some g'=>rw[h1]at h;cases h;exact LF hl h1
 |none =>
  rw[h1]at h;cases h2:pairG l kw with
  |some g'=>rw[h2]at h;cases h;exact VZ h2
  |none=>rw[h2]at h;exact WR h
theorem Gs{l:Li}(hl:aA l=0):∀(n:Nat)(kw:List Bool)(out:List Gr),(∀g∈out,GrOk l g)->(∀g∈(findFrom l n kw out).2,GrOk l g)/\(findFrom l n kw out).2.length<=out.length+n
 |0,kw,out,h=>⟨h,by simp[findFrom]⟩
 |n+1,kw,out,h=>by
  unfold findFrom;cases hg:nextG l kw with
  |none=>exact⟨h,by simp⟩
  |some g =>
   have h1:=Gs hl n (bA kw g.bo) (out++[g]) (fun x hx=>by
    rcases List.mem_append.1 hx with hx |hx
    ·exact h x hx
    ·rw[List.mem_singleton.1 hx];exact wK hl hg)
   refine⟨h1.1,?_⟩;have:=h1.2;rw[XZ]at this;show(findFrom l n (bA kw g.bo) (out++[g])).2.length<=_;simp only[XK,XM]at this;omega
theorem pH{l:Li}(hl:aA l=0):(∀g∈findG l,GrOk l g)/\(findG l).length<=8:=by
 have h:=Gs hl l.bo.length (cF l.bo.length 0) [] (fun g hg=>by cases hg);have h8:=(cK hl).2.2.2.1;exact⟨h.1,by have:=h.2;simp only[XM]at this;unfold findG;omega⟩
def j4(j:Jt)(b:Int):Int:=if b=j.a then j.b else if b=j.b then j.a else -1
def v8(kind body:Int)(p:Int->Bool)(j:Jt):Bool:=decide (j.kind=kind)&&(decide (0<=j4 j body)&&p (j4 j body))
def gJ(l:Li)(kind body:Int)(p:Int->Bool):Int:=jA (cC l.jo.length (fun i=>!v8 kind body p (l.jo.getD i default)))
theorem Ty{b:Bool}{z:Int}(h:cond b (aa .geq z 0) false=true):0<=z:=by
 cases b
 ·cases h
 ·exact of_decide_eq_true h
theorem UW{a k z:Int}{q:Bool}:cond (cond (aa .eql a k) (aa .geq z 0) false) q false=(decide (a=k)&&(decide (0<=z)&&q)):=by
 rw[oT,show aa .geq z 0=decide (0<=z)from rfl,iC,iC,Bool.and_assoc]
theorem WS{l:Li}(hli:aA l=0){i:Nat}{j:Jt}(hj:l.jo[i]?=some j)(b:Int):j4 j b<l.bo.length:=by
 obtain⟨i1,i2,_⟩:=cO hli hj;have b1:=cW i1;have b2:=cW i2;unfold j4;split
 ·omega
 ·split <;> omega
theorem Mz{n:Nat}{ok ok':Nat->Bool}(h:∀i,i<n->ok i=ok' i):cC n ok=cC n ok':=by
 unfold cC
 have:∀l:List Nat,(∀i∈l,i<n)->l.find? (fun i=>!ok i)=l.find? (fun i=>!ok' i):=by
  intro l
  induction l with
  |nil=>intro _;rfl
  |cons a l ih =>
   intro hl;simp only[List.find?_cons,h a (hl a (by simp)),ih (fun i hi=>hl i (by simp[hi]))]
 exact this _ (fun i hi=>List.mem_range.1 hi)
theorem B6{l:Li}(hli:aA l=0){kind body:Int}{p:Int->Bool}{oth:List Bool}(h:∀o:Int,0<=o->o<l.bo.length->p o=kn oth o):gJ l kind body p=jointI l kind body oth:=by
 unfold gJ jointI;rw[Mz];intro i hi;obtain⟨j,hj⟩:=aw hi;rw[aq hj];obtain⟨i1,i2,_⟩:=cO hli hj;have b1:=cW i1;have b2:=cW i2;congr 1;unfold v8 lQ;congr 1;unfold j4
 by_cases h1:body=j.a
 ·subst h1;rw[Yl rfl,h _ b2.1 b2.2]
  by_cases h2:j.b=j.a
  ·simp[h2,b1.1]
  ·simp[h2,b2.1]
 ·rw[Yk h1]
  by_cases h2:body=j.b
  ·subst h2;rw[Yl rfl,h _ b1.1 b1.2];have h3:¬j.a=j.b:=fun e=>h1 e.symm
   simp[h3,b1.1]
  ·rw[Yk h2];have h3:¬j.a=body:=fun e=>h1 e.symm
   have h4:¬j.b=body:=fun e=>h2 e.symm
   simp[h3,h4]
theorem D7{k:List Bool}{i:Nat}{b:Int}(h0:0<=b)(hi:i<k.length):kn (k.set i true) b=(decide (b=i)||kn k b):=by
 unfold kn;rw[Xy,List.getElem?_set,Xy]
 by_cases h:b=i
 ·rw[decide_eq_true h,Bool.true_or,Yl oz];rw[Yl oz];rfl
 ·rw[decide_eq_false h,Bool.false_or,Yk oz]
theorem yO:∀{bs:List Int}{k:List Bool}{b:Int},0<=b->(∀x∈bs,0<=x/\x<k.length)->kn (bA k bs) b=(bs.any (fun x=>decide (x=b))||kn k b)
 |[],k,b,h0,h=>by simp[bA]
 |x::bs,k,b,h0,h=>by
  show kn (bA (k.set x.toNat true) bs) b=_;obtain⟨hx0,hx1⟩:=h x (by simp);rw[yO h0 (fun y hy=>by rw[Yj];exact h y (by simp[hy])),D7 h0 oz,List.any_cons];have e:decide (b=(x.toNat:Int))=decide (x=b):=decide_eq_decide.2 oz;rw[e];cases decide (x=b) <;> simp
theorem vC(n:Nat)(b:Int):kn (List.replicate n false) b=false:=by
 unfold kn;rw[Xy,X1];split <;> rfl
def bZ(l:Li):List Bool:=bA (List.replicate l.bo.length false) (l.dv.map Dr.body)
theorem sY(l:Li):(bZ l).length=l.bo.length:=by unfold bZ;rw[jG,X5]
theorem Qq{l:Li}(hli:aA l=0){b:Int}(h0:0<=b):kn (bZ l) b=mx l b:=by
 unfold bZ mx;rw[yO h0,vC,Bool.or_false,List.any_map]
 ·rfl
 ·intro x hx;obtain⟨d,hd,rfl⟩:=List.mem_map.1 hx;obtain⟨i,hi⟩:=List.mem_iff_getElem?.1 hd;have:=cW (lc hli hi);rw[X5];omega
theorem oq{n:Nat}{b o:Int}(h0:0<=o)(hb0:0<=b)(hb:b<n):kn (cF n b) o=decide (o=b):=by
 unfold cF;rw[D7 h0 (by rw[X5];omega),vC,Bool.or_false];exact decide_eq_decide.2 oz
def dO(k:List Bool):Nat:=k.countP (fun x=>!x)
theorem UB{k:List Bool}{i:Nat}(h:k[i]?=some false):dO (k.set i true)+1=dO k:=by
 unfold dO;have hi:=(List.getElem?_eq_some_iff.1 h).1;have he:=(List.getElem?_eq_some_iff.1 h).2;rw[List.countP_set hi,he];have:0<k.countP (fun x=>!x):=List.countP_pos_iff.2 ⟨false,Xx h,rfl⟩;simp;omega
theorem Sj(k:List Bool)(i:Nat):dO (k.set i true)<=dO k:=by
 by_cases hi:i<k.length
 ·unfold dO;rw[List.countP_set hi];simp
 ·rw[List.set_eq_of_length_le oz];exact XD _
theorem CO:∀(bs:List Int)(k:List Bool),dO (bA k bs)<=dO k
 |[],k=>XD _
 |x::bs,k=>XW (CO bs (k.set x.toNat true)) (Sj k _)
theorem Kd{x:Int}{bs:List Int}{k:List Bool}(h:k[x.toNat]?=some false):dO (bA k (x::bs))<dO k:=by
 have h1:=CO bs (k.set x.toNat true);have h2:=UB h;show dO (bA (k.set x.toNat true) bs)<_;omega
theorem yI{k:List Bool}{b:Int}(h:kn k b=false)(h1:b.toNat<k.length):k[b.toNat]?=some false:=by
 unfold kn at h;rw[Xy,XC h1]at h;rw[XC h1];simpa using h
theorem SA{l:Li}(hl:aA l=0){kw:List Bool}(hk:kw.length=l.bo.length){g:Gr}(h:nextG l kw=some g):∃x bs,g.bo=x::bs/\kw[x.toNat]?=some false:=by
 unfold nextG at h;cases h1:driverG l kw with
 |some g' =>
  rw[h1]at h;cases h
  unfold driverG at h1;rw[XB]at h1;obtain⟨i,hi,rfl⟩:=h1;obtain⟨h2,h3⟩:=ff hi;obtain⟨d,hd⟩:=aw h2;have h4:=cW (lc hl hd);rw[aq hd]at *;unfold drHit at h3;rw[aq hd]at h3;simp only[Bool.not_eq_false',XF,Bool.not_eq_true',decide_eq_true_eq]at h3;exact⟨_,_,rfl,yI h3.1 oz⟩
 |none =>
  rw[h1]at h;cases h2:pairG l kw with
  |some g' =>
   rw[h2]at h;cases h
   unfold pairG at h2;rw[XB]at h2;obtain⟨i,hi,h2⟩:=h2;obtain⟨h3,h4⟩:=ff hi;split at h2
   ·rename_i k hk';subst h2;unfold prAt at hk';rw[XB]at hk';obtain⟨k',hk',rfl⟩:=hk';obtain⟨h5,h6⟩:=ff hk';unfold prHit freeB at h6;simp only[Bool.not_eq_false',XF,Bool.not_eq_true',decide_eq_true_eq]at h6;exact⟨_,_,rfl,yI h6.1.1.1 oz⟩
   ·rename_i hk';rw[hk']at h4;cases h4
  |none =>
   rw[h2]at h;have h:singleG l kw=some g:=h;unfold singleG at h;rw[XB]at h;obtain⟨i,hi,rfl⟩:=h;obtain⟨h3,h4⟩:=ff hi;unfold sgHit freeB at h4;simp only[Bool.not_eq_false',XF,Bool.not_eq_true',decide_eq_true_eq]at h4;exact⟨_,_,rfl,yI h4.1.1 oz⟩
theorem tf{l:Li}(hl:aA l=0){kw:List Bool}(hk:kw.length=l.bo.length){g:Gr}(h:nextG l kw=some g):dO (bA kw g.bo)<dO kw:=by
 obtain⟨x,bs,e,h1⟩:=SA hl hk h;rw[e];exact Kd h1
theorem Bx{l:Li}(hl:aA l=0):∀(n m:Nat)(kw:List Bool)(out:List Gr),kw.length=l.bo.length->dO kw<=n->dO kw<=m->findFrom l n kw out=findFrom l m kw out
 |0,0,kw,out,hk,h1,h2=>rfl
 |0,m+1,kw,out,hk,h1,h2=>by
  unfold findFrom;cases hg:nextG l kw with
  |none=>rfl
  |some g=>have:=tf hl hk hg;omega
 |n+1,0,kw,out,hk,h1,h2=>by
  unfold findFrom;cases hg:nextG l kw with
  |none=>rfl
  |some g=>have:=tf hl hk hg;omega
 |n+1,m+1,kw,out,hk,h1,h2=>by
  unfold findFrom;cases hg:nextG l kw with
  |none=>rfl
  |some g =>
   have:=tf hl hk hg;exact Bx hl n m _ _ (by rw[jG];exact hk) oz oz
theorem xP{l:Li}:∀(n:Nat)(kw:List Bool)(out:List Gr),∃gs,findFrom l n kw out=(gs.foldl (fun k g=>bA k g.bo) kw,out++gs)
 |0,kw,out=>⟨[],by simp[findFrom]⟩
 |n+1,kw,out=>by
  unfold findFrom;cases hg:nextG l kw with
  |none=>exact⟨[],by simp⟩
  |some g =>
   obtain⟨gs,e⟩:=xP n (bA kw g.bo) (out++[g]);exact⟨g::gs,by show findFrom l n _ _=_;rw[e];simp⟩
theorem Jr(l:Li):findFrom l l.bo.length (cF l.bo.length 0) []=(bS l,findG l):=by
 obtain⟨gs,e⟩:=xP (l:=l) l.bo.length (cF l.bo.length 0) [];unfold bS findG;rw[e];simp
theorem wa{k:List Bool}:(eH k).length=0↔k.contains false=false:=by
 unfold eH;rw[XA,List.length_eq_zero_iff,List.filter_eq_nil_iff];constructor
 ·intro h;rw[<- Bool.not_eq_true,List.contains_iff_mem];intro hm;obtain⟨i,hi⟩:=List.mem_iff_getElem?.1 hm;have hlt:=(List.getElem?_eq_some_iff.1 hi).1;have:=h i (List.mem_range.2 hlt);rw[Xy,hi]at this;simp at this
 ·intro h i hi;rw[<- Bool.not_eq_true,List.contains_iff_mem]at h;intro hc;have hlt:=List.mem_range.1 hi;rw[Xy,XC hlt]at hc;simp at hc;exact h (hc▸List.getElem_mem hlt)
theorem rz:Sub (.agg [.v (.int .i64 0),.v (.slice none 0 0),.v (.slice none 0 0),.v (.int .i64 0)]) (Gr.av default):=.agg (.cons (.refl _) (.cons (.nil _ _ _) (.cons (.nil _ _ _) (.cons (.refl _) .nil)))) rfl
theorem Gi{z:Int}(h:aa .geq z 0=true):0<=z:=of_decide_eq_true h
theorem Ji{z:Int}(h:aa .geq z 0=false):¬0<=z:=of_decide_eq_false h
theorem w9{a b c:Int}:cond (cond (aa .geq a 0) (aa .geq b 0) false) (aa .geq c 0) false=(decide (0<=a)&&decide (0<=b)&&decide (0<=c)):=by
 have e:∀z:Int,aa .geq z 0=decide (0<=z):=fun z=>rfl
 rw[e,e,e,iC,iC]
theorem CP{a b:Int}:cond (aa .lss a 0) true (aa .lss b 0)=!(decide (0<=a)&&decide (0<=b)):=by
 have e:∀z:Int,aa .lss z 0=!decide (0<=z):=fun z=>by rw[<- decide_not];exact decide_eq_decide.2 oz
 rw[e,e,iL,Bool.not_and]
theorem Iy{a b:Int}(h:cond (aa .lss a 0) true (aa .lss b 0)=true):(decide (0<=a)&&decide (0<=b))=false:=by rw[CP]at h;exact dg h
theorem EQ{a b:Int}(h:cond (aa .lss a 0) true (aa .lss b 0)=false):0<=a/\0<=b:=by
 rw[CP]at h;have:=da h;simpa using this
structure TieO(l:Li)(kind:Int)(bs:List Int)(z b:Int)(j:Jt):Prop where
  hz:0<=z
  hj:l.jo[z.toNat]?=some j
  kd:j.kind=kind
  tie:(j.a=b/\j.b∉bs)\/(j.b=b/\j.a∉bs)
inductive DyK(l:Li):Gr->Prop where
  |drv {b z d:Int} {j:Jt} {x:Dr} (t:TieO l 0 [b] z b j) (d0:0<=d) (hd:l.dv[d.toNat]?=some x) (hb:x.body=b):DyK l ⟨0,[b],[z],d⟩
  |rrr {i k z0 z1 z2:Int} {j0 j1 j2:Jt} (ne:i≠k) (t0:TieO l 0 [i,k] z0 i j0) (t1:TieO l 0 [i,k] z1 k j1) (h0:0<=z2) (h2:l.jo[z2.toNat]?=some j2) (kd:j2.kind=0)
      (tie:(j2.a=i/\j2.b=k)\/(j2.b=i/\j2.a=k)):DyK l ⟨1,[i,k],[z0,z1,z2],0⟩
  |pr {i z0 z1:Int} {j0 j1:Jt} (t0:TieO l 0 [i] z0 i j0) (t1:TieO l 1 [i] z1 i j1) (ha:j1.a=i):DyK l ⟨2,[i],[z0,z1],0⟩
  |rp {i z0 z1:Int} {j0 j1:Jt} (t0:TieO l 0 [i] z0 i j0) (t1:TieO l 1 [i] z1 i j1) (ha:j1.a≠i):DyK l ⟨3,[i],[z0,z1],0⟩
theorem wL{l:Li}{kind b:Int}{oth:List Bool}(h:0<=jointI l kind b oth) :
  ∃(i:Nat)(j:Jt),jointI l kind b oth=(i:Int)/\l.jo[i]?=some j/\j.kind=kind/\((j.a=b/\kn oth j.b=true)\/(j.b=b/\kn oth j.a=true)):=by
 unfold jointI at h ⊢;cases hf:cC l.jo.length (fun i=>!lQ kind b oth (l.jo.getD i default))with
 |none=>rw[hf]at h;exact absurd h (by decide)
 |some i =>
  obtain⟨h1,h2⟩:=ff hf;obtain⟨j,hj⟩:=aw h1;rw[aq hj]at h2;unfold lQ at h2;simp only[Bool.not_eq_false',XF,Yf,decide_eq_true_eq]at h2;exact⟨i,j,rfl,hj,h2.1,h2.2⟩
theorem tx{l:Li}{kind b:Int}{kw:List Bool}{bs:List Int}(hb:∀x∈bs,kn kw x=false)(h:0<=jointI l kind b kw):∃j,TieO l kind bs (jointI l kind b kw) b j:=by
 obtain⟨i,j,e,hj,hk,ht⟩:=wL h;have hn:∀x,kn kw x=true->x∉bs:=fun x hx hm=>by rw[hb x hm]at hx;cases hx
 refine⟨j,h,by rw[e,X3];exact hj,hk,?_⟩;rcases ht with⟨h1,h2⟩ |⟨h1,h2⟩
 ·exact .inl ⟨h1,hn _ h2⟩
 ·exact .inr ⟨h1,hn _ h2⟩
theorem qQ{l:Li}{kw:List Bool}{b:Int}(h:freeB l kw b=true):kn kw b=false:=by
 unfold freeB at h;simp only[XF,Bool.not_eq_true']at h;exact h.1
theorem vI{kw:List Bool}{b:Int}(h:kn kw b=false):∀x∈[b],kn kw x=false:=fun x hx=>by rw[List.mem_singleton.1 hx];exact h
theorem Ro{l:Li}(hl:aA l=0){kw:List Bool}{g:Gr}(h:driverG l kw=some g):DyK l g:=by
 unfold driverG at h;rw[XB]at h;obtain⟨i,hi,rfl⟩:=h;obtain⟨h1,h2⟩:=ff hi;obtain⟨d,hd⟩:=aw h1;unfold drHit at h2;simp only[Bool.not_eq_false',XF,decide_eq_true_eq,Bool.not_eq_true']at h2;rw[aq hd]at h2 ⊢;obtain⟨j,hj⟩:=tx (vI h2.1) h2.2;exact .drv hj oz (by rw[X3];exact hd) rfl
theorem My{l:Li}(hl:aA l=0){kw:List Bool}{g:Gr}(h:pairG l kw=some g):DyK l g:=by
 unfold pairG at h;rw[XB]at h;obtain⟨i,hi,h⟩:=h;obtain⟨h1,h2⟩:=ff hi;split at h
 ·rename_i k hk;subst h;unfold prAt at hk;rw [XB] at hk;obtain ⟨k',hk',rfl⟩:=hk;obtain ⟨h3,h4⟩:=ff hk';rw [show i + 1 + k' = k' + (i + 1) by omega] at h4;unfold prHit at h4;simp only [Bool.not_eq_false',XF,decide_eq_true_eq] at h4;obtain ⟨⟨f1,f2⟩,⟨j1,j2⟩,j3⟩:=h4
  have hb:∀x∈[(i:Int),((k'+(i+1):Nat):Int)],kn kw x=false:=fun x hx=>by
   simp only[X6,XV,or_false]at hx;rcases hx with rfl |rfl
   ·exact qQ f1
   ·exact qQ f2
  obtain⟨a0,t0⟩:=tx hb j1;obtain⟨a1,t1⟩:=tx hb j2;obtain⟨n,a2,e,hj,hkd,ht⟩:=wL j3;obtain⟨i1,i2,_⟩:=cO hl hj;have i1:=(cW i1).1;have i2:=(cW i2).1;refine .rrr oz t0 t1 j3 (by rw[e,X3];exact hj) hkd ?_;rcases ht with⟨e1,e2⟩ |⟨e1,e2⟩
  ·rw[oq i2 oz oz]at e2;exact .inl ⟨e1,of_decide_eq_true e2⟩
  ·rw[oq i1 oz oz]at e2;exact .inr ⟨e1,of_decide_eq_true e2⟩
 ·rename_i hk;rw[hk]at h2;cases h2
theorem QG{l:Li}{kw:List Bool}{g:Gr}(h:singleG l kw=some g):DyK l g:=by
 unfold singleG at h;rw[XB]at h;obtain⟨i,hi,rfl⟩:=h;obtain⟨h1,h2⟩:=ff hi;unfold sgHit at h2;simp only[Bool.not_eq_false',XF,decide_eq_true_eq]at h2;obtain⟨f1,j1,j2⟩:=h2;obtain⟨a0,t0⟩:=tx (vI (qQ f1)) j1;obtain⟨a1,t1⟩:=tx (vI (qQ f1)) j2;unfold sgG;rw[aq t1.hj]
 by_cases e:a1.a=i
 ·rw[Yl e];exact .pr t0 t1 e
 ·rw[Yk e];exact .rp t0 t1 e
theorem Ue{l:Li}(hl:aA l=0){kw:List Bool}{g:Gr}(h:nextG l kw=some g):DyK l g:=by
 unfold nextG at h;cases h1:driverG l kw with
 |some g'=>rw[h1]at h;cases h;exact Ro hl h1
 |none =>
  rw[h1]at h;cases h2:pairG l kw with
  |some g'=>rw[h2]at h;cases h;exact My hl h2
  |none=>rw[h2]at h;exact QG h
theorem DN{l:Li}(hl:aA l=0):∀(n:Nat)(kw:List Bool)(out:List Gr),(∀g∈out,DyK l g)->∀g∈(findFrom l n kw out).2,DyK l g
 |0,kw,out,h=>h
 |n+1,kw,out,h=>by
  unfold findFrom;cases hg:nextG l kw with
  |none=>exact h
  |some g=>exact DN hl n (bA kw g.bo) (out++[g]) (fun x hx=>by
    rcases List.mem_append.1 hx with hx |hx
    ·exact h x hx
    ·rw[List.mem_singleton.1 hx];exact Ue hl hg)
theorem oY{l:Li}(hl:aA l=0){g:Gr}(h:g∈splitG l):DyK l g/\GrOk l g:=by
 unfold splitG at h;split at h
 ·exact⟨DN hl _ _ _ (fun g hg=>by cases hg) g h,(pH hl).1 g h⟩
 ·cases h
open Lean.Grind
def E(r:(k:Nat)->T k)(n:Nat):Type:=T n
namespace T
theorem ofQ_zero:∀n,ofQ n 0=zero n
 |0=>rfl
 |n+1=>by simp only[ofQ,zero,ofQ_zero n]
theorem ofQ_add:∀n (p q:Rat),ofQ n (p+q)=add n (ofQ n p) (ofQ n q)
 |0,p,q=>rfl
 |n+1,p,q=>by simp only[ofQ,add,ofQ_add n,add_zero]
theorem ofQ_neg:∀n (p:Rat),ofQ n (-p)=neg n (ofQ n p)
 |0,p=>rfl
 |n+1,p=>by simp only[ofQ,neg,ofQ_neg n,neg_zero]
end T
structure Laws(r:(k:Nat)->T k)(n:Nat):Prop where
  assoc:∀x y z,T.mul r n (T.mul r n x y) z=T.mul r n x (T.mul r n y z)
  dist:∀x y z,T.mul r n x (T.add n y z)=T.add n (T.mul r n x y) (T.mul r n x z)
  one:∀x,T.mul r n (T.ofQ n 1) x=x
theorem T.neg_mul'{r:(k:Nat)->T k}{n:Nat}(h:Laws r n)(x y:T n):T.mul r n (T.neg n x) y=T.neg n (T.mul r n x y):=by
 have h1:T.add n (T.mul r n x y) (T.mul r n (T.neg n x) y)=T.zero n:=by
  rw[T.mul_comm r n x,T.mul_comm r n (T.neg n x),<- h.dist,T.add_neg,T.mul_zero]
 have h2:=congrArg (fun z=>T.add n (T.neg n (T.mul r n x y)) z) h1;simp only[T.add_zero]at h2;rw[<- T.add_assoc,T.add_comm n (T.neg n _),T.add_neg,T.zero_add]at h2;exact h2
theorem T.mul_addr{r:(k:Nat)->T k}{n:Nat}(h:Laws r n)(a b c:T n):T.mul r n (T.add n a b) c=T.add n (T.mul r n a c) (T.mul r n b c):=by
 rw[T.mul_comm r n _ c,h.dist,T.mul_comm r n c,T.mul_comm r n c]
instance (r:(k:Nat)->T k)(n:Nat):Add (E r n):=⟨T.add n⟩
instance (r:(k:Nat)->T k)(n:Nat):Mul (E r n):=⟨T.mul r n⟩
instance (r:(k:Nat)->T k)(n:Nat):Neg (E r n):=⟨T.neg n⟩
instance (r:(k:Nat)->T k)(n:Nat):_root_.Sub (E r n):=⟨fun x y=>T.add n x (T.neg n y)⟩
instance (r:(k:Nat)->T k)(n c:Nat):OfNat (E r n) c:=⟨T.ofQ n (c:Rat)⟩
instance (r:(k:Nat)->T k)(n:Nat):NatCast (E r n):=⟨fun c=>T.ofQ n (c:Rat)⟩
instance (r:(k:Nat)->T k)(n:Nat):IntCast (E r n):=⟨fun c=>T.ofQ n (c:Rat)⟩
instance (r:(k:Nat)->T k)(n:Nat):SMul Nat (E r n):=⟨fun c x=>T.mul r n (T.ofQ n (c:Rat)) x⟩
instance (r:(k:Nat)->T k)(n:Nat):SMul Int (E r n):=⟨fun c x=>T.mul r n (T.ofQ n (c:Rat)) x⟩
def E.pow{r:(k:Nat)->T k}{n:Nat}(x:E r n):Nat->E r n
  |0=>T.ofQ n 1
  |c+1=>T.mul r n (E.pow x c) x
instance (r:(k:Nat)->T k)(n:Nat):HPow (E r n) Nat (E r n):=⟨E.pow⟩
@[reducible] def Laws.ring {r:(k:Nat)->T k} {n:Nat} (h:Laws r n):CommRing (E r n) where
  add_zero a:=by
    show T.add n a (T.ofQ n ((0:Nat):Rat))=a;rw[show(((0:Nat):Rat))=0 from rfl,T.ofQ_zero];exact T.add_zero n a
  add_comm a b:=T.add_comm n a b
  add_assoc a b c:=T.add_assoc n a b c
  mul_assoc a b c:=h.assoc a b c
  mul_one a:=(T.mul_comm r n a _).trans (h.one a)
  one_mul a:=h.one a
  left_distrib a b c:=h.dist a b c
  right_distrib a b c:=T.mul_addr h a b c
  zero_mul a:=by
    show T.mul r n (T.ofQ n ((0:Nat):Rat)) a=T.ofQ n ((0:Nat):Rat);rw[show(((0:Nat):Rat))=0 from rfl,T.ofQ_zero];exact T.zero_mul r n a
  mul_zero a:=by
    show T.mul r n a (T.ofQ n ((0:Nat):Rat))=T.ofQ n ((0:Nat):Rat);rw[show(((0:Nat):Rat))=0 from rfl,T.ofQ_zero];exact T.mul_zero r n a
  pow_zero a:=rfl
  pow_succ a c:=rfl
  ofNat_succ c:=by
    show T.ofQ n ((c+1:Nat):Rat)=T.add n (T.ofQ n (c:Rat)) (T.ofQ n ((1:Nat):Rat));rw[<- T.ofQ_add];congr 1;exact Rat.natCast_add c 1
  ofNat_eq_natCast c:=rfl
  nsmul_eq_natCast_mul c a:=rfl
  neg_add_cancel a:=(T.add_comm n (T.neg n a) a).trans ((T.add_neg n a).trans (T.ofQ_zero n).symm)
  sub a b:=T.add n a (T.neg n b)
  sub_eq_add_neg a b:=rfl
  neg_zsmul i a:=(congrArg (fun z=>T.mul r n z a) (show T.ofQ n ((-i:Int):Rat)=T.neg n (T.ofQ n (i:Rat)) by rw[Rat.intCast_neg,T.ofQ_neg])).trans (T.neg_mul' h _ a)
  zsmul_natCast_eq_nsmul c a:=rfl
  intCast_ofNat c:=rfl
  intCast_neg i:=by
    show T.ofQ n ((-i:Int):Rat)=T.neg n (T.ofQ n (i:Rat));rw[Rat.intCast_neg,T.ofQ_neg]
  mul_comm a b:=T.mul_comm r n a b
section
variable{R:Type}[CommRing R](x y u v p q d:R)
theorem Pi:(x*u+y*v*d)*p+(x*v+y*u)*q*d=x*(u*p+v*q*d)+y*(u*q+v*p)*d:=by grind
theorem OF:(x*u+y*v*d)*q+(x*v+y*u)*p=x*(u*q+v*p)+y*(u*p+v*q*d):=by grind
theorem Ub:x*(u+p)+y*(v+q)*d=(x*u+y*v*d)+(x*p+y*q*d):=by grind
theorem Wz:x*(v+q)+y*(u+p)=(x*v+y*u)+(x*q+y*p):=by grind
end
theorem mK(r:(k:Nat)->T k):∀n,Laws r n
 |0=>⟨fun x y z=>Rat.mul_assoc x y z,fun x y z=>Rat.mul_add x y z,fun x=>Rat.one_mul x⟩
 |n+1=>by
  have I:=(mK r n).ring;have h1:=(mK r n).one;refine⟨?_,?_,?_⟩
  ·rintro⟨x,y⟩ ⟨u,v⟩ ⟨p,q⟩;exact Prod.ext (@Pi (E r n) (mK r n).ring x y u v p q (r n)) (@OF (E r n) (mK r n).ring x y u v p q (r n))
  ·rintro⟨x,y⟩ ⟨u,v⟩ ⟨p,q⟩;exact Prod.ext (@Ub (E r n) (mK r n).ring x y u v p q (r n)) (@Wz (E r n) (mK r n).ring x y u v p q)
  ·rintro⟨u,v⟩;refine Prod.ext ?_ ?_
   ·show T.add n (T.mul r n (T.ofQ n 1) u) (T.mul r n (T.mul r n (T.zero n) v) (r n))=u;rw[h1,T.zero_mul,T.zero_mul,T.add_zero]
   ·show T.add n (T.mul r n (T.ofQ n 1) v) (T.mul r n (T.zero n) u)=v;rw[h1,T.zero_mul,T.add_zero]
instance eRing(r:(k:Nat)->T k)(n:Nat):CommRing (E r n):=(mK r n).ring
structure Sg(R:Type)[CommRing R](s:R->Int):Prop where
  cs:∀x,s x=-1\/s x=0\/s x=1
  one:s 1=1
  neg:∀x,s (-x)=-s x
  mul:∀x y,s (x*y)=s x*s y
  add:∀x y,0<=s x->0<=s y->0<=s (x+y)
namespace Sg
variable{R:Type}[CommRing R]{s:R->Int}
theorem zero(h:Sg R s):s 0=0:=by
 have h1:=h.neg 0;rw[show -(0:R)=0 by grind]at h1;omega
theorem zadd(h:Sg R s){x y:R}(hx:s x=0):s (x+y)=s y:=by
 have h1:=h.cs y;have h2:=h.cs (x+y);have n1:=h.neg x;have n2:=h.neg y;have n3:=h.neg (x+y);have a1:=h.add x y;have a2:=h.add (-x) (-y);have a3:=h.add (-x) (x+y);have a4:=h.add x (-(x+y));rw[show -x+-y=-(x+y) by grind]at a2;rw[show -x+(x+y)=y by grind]at a3;rw[show x+-(x+y)=-y by grind]at a4;omega
theorem padd(h:Sg R s){x y:R}(hx:s x=1)(hy:0<=s y):s (x+y)=1:=by
 have h2:=h.cs (x+y);have a1:=h.add x y;have n2:=h.neg y;have n3:=h.neg (x+y);have a4:=h.add (-(x+y)) y;have e:-(x+y)+y=-x:=by grind
 have n1:=h.neg x;rw[e]at a4;rcases h2 with h2 |h2 |h2
 ·omega
 ·have:=h.zadd (x:=-(x+y)) (y:=y) oz;rw[e]at this;omega
 ·exact h2
theorem sq(h:Sg R s)(x:R):0<=s (x*x):=by
 rw[h.mul];rcases h.cs x with e |e |e <;> rw[e] <;> decide
theorem sub0(h:Sg R s){x y:R}(hx:s (x-y)=0):s x=s y:=by
 have:=h.zadd (y:=y) hx
 rwa [show x-y+y=x by grind]at this
theorem sqle(h:Sg R s){a b:R}(ha:0<=s a)(hb:0<=s (a*a-b*b)):0<=s (a+b):=by
 have c1:=h.cs (a+b);rcases c1 with c1 |c1 |c1
 ·exfalso;have n1:=h.neg (a+b);have p1:s (-(a+b)+a)=1:=h.padd oz ha;rw[show -(a+b)+a=-b by grind]at p1;have p2:s (-b+a)=1:=h.padd p1 ha;have m:=h.mul (-b+a) (a+b);rw[show(-b+a)*(a+b)=a*a-b*b by grind,p2,c1]at m;omega
 ·omega
 ·omega
theorem cancel(h:Sg R s){p x:R}(hp:s p=1)(hx:0<=s (p*x)):0<=s x:=by
 rw[h.mul,hp]at hx;omega
end Sg
def bI{r:(k:Nat)->T k}{n:Nat}(x y:E r n):E r (n+1):=((x,y):T n×T n)
def sg(r:(k:Nat)->T k)(n:Nat)(x:E r n):Int:=T.sgn r n x
def bG(r:(k:Nat)->T k)(n:Nat):E r n:=r n
variable{r:(k:Nat)->T k}{n:Nat}
theorem jZ(z:E r (n+1)):∃x y:E r n,z=bI x y:=⟨z.1,z.2,rfl⟩
theorem oG(x y u v:E r n):bI x y+bI u v=bI (x+u) (y+v):=rfl
theorem sU(x y:E r n):-bI x y=bI (-x) (-y):=rfl
theorem ku(x y u v:E r n):bI x y*bI u v=bI (x*u+y*v*bG r n) (x*v+y*u):=rfl
theorem E.zero_def:(0:E r n)=T.zero n:=T.ofQ_zero n
theorem uJ:(1:E r (n+1))=bI 1 0:=by
 show T.ofQ (n+1) ((1:Nat):Rat)=(T.ofQ n ((1:Nat):Rat),T.ofQ n ((0:Nat):Rat));rw[show(((0:Nat):Rat))=0 from rfl,T.ofQ_zero];rfl
def a5(x y:E r n):E r n:=x*x+-(y*y*bG r n)
theorem kM(x y:E r n):sg r (n+1) (bI x y)=T.sgn3 (sg r n x) (sg r n y) (sg r n (bG r n)) (sg r n (a5 x y)):=rfl
def PE(x y:E r n):Prop:=(0<=sg r n x/\0<=sg r n (a5 x y))\/(0<=sg r n y/\0 <= -sg r n (a5 x y))
theorem qV(h:Sg (E r n) (sg r n))(hd:sg r n (bG r n)=1)(x y:E r n):0<=sg r (n+1) (bI x y)↔PE x y:=by
 rw[kM,hd];unfold PE
 have f1:sg r n y=0->sg r n (a5 x y)=sg r n x*sg r n x:=by
  intro hy;have h1:sg r n (-(y*y*bG r n))=0:=by rw[h.neg,h.mul,h.mul,hy];simp
  have:=h.zadd (y:=x*x) h1;unfold a5;rw[show x*x+-(y*y*bG r n)=-(y*y*bG r n)+x*x by grind,this,h.mul]
 have f2:sg r n x=0->sg r n (a5 x y)=-(sg r n y*sg r n y):=by
  intro hx;have h1:sg r n (x*x)=0:=by rw[h.mul,hx];simp
  have:=h.zadd (y:=-(y*y*bG r n)) h1;unfold a5;rw[this,h.neg,h.mul,h.mul,hd];simp
 have c1:=h.cs x;have c2:=h.cs y;have c3:=h.cs (a5 x y)
 revert f1 f2 c1 c2 c3
 generalize sg r n x=a;generalize sg r n y=b;generalize sg r n (a5 x y)=c;intro f1 f2 c1 c2 c3;rcases c1 with rfl |rfl |rfl <;> rcases c2 with rfl |rfl |rfl <;> rcases c3 with rfl |rfl |rfl <;> first |decide |(exfalso;revert f1 f2;decide)
theorem QO(h:Sg (E r n) (sg r n))(hd:sg r n (bG r n)=1){x y u v:E r n}(h1:PE x y)(h2:PE u v):PE (x*u+y*v*bG r n) (x*v+y*u):=by
 have nm:a5 (x*u+y*v*bG r n) (x*v+y*u)=a5 x y*a5 u v:=by unfold a5;grind
 have hn:=h.mul (a5 x y) (a5 u v);have d0:0<=sg r n (bG r n):=by omega
 unfold PE;rw[nm,hn];rcases h1 with⟨a1,a2⟩ |⟨a1,a2⟩ <;> rcases h2 with⟨b1,b2⟩ |⟨b1,b2⟩
 ·refine .inl ⟨h.sqle ?_ ?_,Int.mul_nonneg a2 b2⟩
  ·rw[h.mul];exact Int.mul_nonneg a1 b1
  ·have e : x * u * (x * u) - y * v * bG r n * (y * v * bG r n) = a5 x y * (u * u) + y * y * bG r n * a5 u v := by unfold a5; grind
   rw[e];refine h.add _ _ ?_ ?_
   ·rw[h.mul];exact Int.mul_nonneg a2 (h.sq u)
   ·rw[h.mul,h.mul];exact Int.mul_nonneg (Int.mul_nonneg (h.sq y) d0) b2
 ·refine .inr ⟨h.sqle ?_ ?_,?_⟩
  ·rw[h.mul];exact Int.mul_nonneg a1 b1
  ·have e : x * v * (x * v) - y * u * (y * u) = a5 x y * (v * v) + y * y * -a5 u v := by unfold a5; grind
   rw[e];refine h.add _ _ ?_ ?_
   ·rw[h.mul];exact Int.mul_nonneg a2 (h.sq v)
   ·rw[h.mul,h.neg];exact Int.mul_nonneg (h.sq y) b2
  ·rw[<- Int.mul_neg];exact Int.mul_nonneg a2 b2
 ·refine .inr ⟨?_,?_⟩
  ·rw [show x * v + y * u = y * u + x * v by grind];refine h.sqle ?_ ?_
   ·rw[h.mul];exact Int.mul_nonneg a1 b1
   ·have e : y * u * (y * u) - x * v * (x * v) = a5 u v * (y * y) + v * v * -a5 x y := by unfold a5; grind
    rw[e];refine h.add _ _ ?_ ?_
    ·rw[h.mul];exact Int.mul_nonneg b2 (h.sq y)
    ·rw[h.mul,h.neg];exact Int.mul_nonneg (h.sq v) a2
  ·rw[<- Int.neg_mul];exact Int.mul_nonneg a2 b2
 ·refine .inl ⟨?_,?_⟩
  ·rw [show x * u + y * v * bG r n = y * v * bG r n + x * u by grind];refine h.sqle ?_ ?_
   ·rw[h.mul,h.mul];exact Int.mul_nonneg (Int.mul_nonneg a1 b1) d0
   ·have e : y * v * bG r n * (y * v * bG r n) - x * u * (x * u) = -a5 x y * (v * v * bG r n) + x * x * -a5 u v := by unfold a5; grind
    rw[e];refine h.add _ _ ?_ ?_
    ·rw[h.mul,h.neg,h.mul];exact Int.mul_nonneg a2 (Int.mul_nonneg (h.sq v) d0)
    ·rw[h.mul,h.neg];exact Int.mul_nonneg (h.sq x) b2
  ·rw[<- Int.neg_mul_neg];exact Int.mul_nonneg a2 b2
theorem CN(h:Sg (E r n) (sg r n))(hd:sg r n (bG r n)=1){x y u v:E r n}(a1:0<=sg r n x)(a2:0<=sg r n (a5 x y))(b1:0<=sg r n v)(b2:0 <= -sg r n (a5 u v)):PE (x+u) (y+v):=by
  have cX:=h.cs (x+u);have cY:=h.cs (y+v);have cN:=h.cs (a5 (x+u) (y+v));unfold PE
  by_cases hX:0<=sg r n (x+u)
  · by_cases hN:0<=sg r n (a5 (x+u) (y+v))
    · exact .inl ⟨hX,hN⟩
    · by_cases hY:0<=sg r n (y+v)
      · exact .inr ⟨hY,by omega⟩
      · -- Y < 0: then N is at least 0
        exfalso;have hY':sg r n (-(y+v))=1:=by rw[h.neg];omega
        have ny:sg r n (-y)=1:=by
          have:=h.padd hY' b1
          rwa [show -(y+v)+v=-y by grind]at this
        have k1:0<=sg r n (x*v+y*u):=by
          refine h.sqle (by rw[h.mul];exact Int.mul_nonneg a1 b1) ?_;have e:x*v*(x*v)-y*u*(y*u)=a5 x y*(v*v)+y*y*-a5 u v:=by unfold a5;grind
          rw[e];refine h.add _ _ ?_ ?_
          · rw[h.mul];exact Int.mul_nonneg a2 (h.sq v)
          · rw[h.mul,h.neg];exact Int.mul_nonneg (h.sq y) b2
        have k2:0<=sg r n (x*v+-(y*u)):=by
          refine h.sqle (by rw[h.mul];exact Int.mul_nonneg a1 b1) ?_;have e:x*v*(x*v) - -(y*u)*-(y*u)=a5 x y*(v*v)+y*y*-a5 u v:=by unfold a5;grind
          rw[e];refine h.add _ _ ?_ ?_
          · rw[h.mul];exact Int.mul_nonneg a2 (h.sq v)
          · rw[h.mul,h.neg];exact Int.mul_nonneg (h.sq y) b2
        have k3:0<=sg r n (-y*(x+u)-x*-(y+v)):=by
          rw[show -y*(x+u)-x*-(y+v)=x*v+-(y*u) by grind];exact k2
        have k4:0<=sg r n (-y*(x+u)+x*-(y+v)):=by
          rw[show -y*(x+u)+x*-(y+v)=(-y*(x+u)-x*-(y+v))+(x*-(y+v)+x*-(y+v)) by grind];refine h.add _ _ k3 (h.add _ _ ?_ ?_) <;> (rw[h.mul,hY'];omega)
        have k5:0<=sg r n ((y*y)*a5 (x+u) (y+v)):=by
          have e:(y*y)*a5 (x+u) (y+v)=(-y*(x+u)-x*-(y+v))*(-y*(x+u)+x*-(y+v))+a5 x y*(-(y+v)*-(y+v)):=by unfold a5;grind
          rw[e];refine h.add _ _ (by rw[h.mul];exact Int.mul_nonneg k3 k4) (by rw[h.mul];exact Int.mul_nonneg a2 (h.sq _))
        have k6 := h.cancel (by rw [h.mul]; rw [h.neg] at ny; have : sg r n y = -1 := by omega
                                rw[this];rfl) k5
        exact hN k6
  · have hX' : sg r n (-(x + u)) = 1 := by rw [h.neg]; omega
    have nu:sg r n (-u)=1:=by
      have:=h.padd hX' a1
      rwa [show -(x+u)+x=-u by grind]at this
    have su:sg r n u=-1:=by rw[h.neg]at nu;omega
    have hv:sg r n v=1:=by
      rcases h.cs v with e |e |e
      · omega
      · exfalso
        have h1:sg r n (-(v*v*bG r n))=0:=by rw[h.neg,h.mul,h.mul,e];simp
        have:=h.zadd (y:=u*u) h1;rw[show -(v*v*bG r n)+u*u=a5 u v by unfold a5;grind,h.mul,su]at this;omega
      · exact e
    have k1:0<=sg r n (x*v+y*-u):=by
      refine h.sqle (by rw[h.mul];exact Int.mul_nonneg a1 b1) ?_;have e:x*v*(x*v)-y*-u*(y*-u)=a5 x y*(v*v)+y*y*-a5 u v:=by unfold a5;grind
      rw[e];refine h.add _ _ ?_ ?_
      · rw[h.mul];exact Int.mul_nonneg a2 (h.sq v)
      · rw[h.mul,h.neg];exact Int.mul_nonneg (h.sq y) b2
    have k3:0<=sg r n (-u*(y+v)-v*-(x+u)):=by
      rw[show -u*(y+v)-v*-(x+u)=x*v+y*-u by grind];exact k1
    have k4:0<=sg r n (v*-(x+u)):=by rw[h.mul,hv,hX'];decide
    have kY:0<=sg r n (y+v):=by
      refine h.cancel nu ?_;rw[show -u*(y+v)=(-u*(y+v)-v*-(x+u))+v*-(x+u) by grind];exact h.add _ _ k3 k4
    refine .inr ⟨kY,?_⟩
    have k5:0<=sg r n ((v*v)*-a5 (x+u) (y+v)):=by
      have e:(v*v)*-a5 (x+u) (y+v)=(-u*(y+v)-v*-(x+u))*(-u*(y+v)+v*-(x+u))+-a5 u v*((y+v)*(y+v)):=by unfold a5;grind
      rw[e];have k6:0<=sg r n (-u*(y+v)+v*-(x+u)):=h.add _ _ (by rw[h.mul,nu];omega) k4;refine h.add _ _ (by rw[h.mul];exact Int.mul_nonneg k3 k6) (by rw[h.mul,h.neg];exact Int.mul_nonneg b2 (h.sq _))
    have k7:=h.cancel (by rw[h.mul,hv];rfl) k5
    rwa [h.neg]at k7
theorem OO(h:Sg (E r n) (sg r n))(hd:sg r n (bG r n)=1){x y u v:E r n}(h1:PE x y)(h2:PE u v):PE (x+u) (y+v):=by
 have d0:0<=sg r n (bG r n):=by omega
 rcases h1 with⟨a1,a2⟩ |⟨a1,a2⟩ <;> rcases h2 with⟨b1,b2⟩ |⟨b1,b2⟩
 ·refine .inl ⟨h.add _ _ a1 b1,?_⟩
  have k:0<=sg r n (x*u+-(y*v*bG r n)):=by
   refine h.sqle (by rw[h.mul];exact Int.mul_nonneg a1 b1) ?_;have e:x*u*(x*u) - -(y*v*bG r n)*-(y*v*bG r n)=a5 x y*(u*u)+y*y*bG r n*a5 u v:=by unfold a5;grind
   rw[e];refine h.add _ _ ?_ ?_
   ·rw[h.mul];exact Int.mul_nonneg a2 (h.sq u)
   ·rw[h.mul,h.mul];exact Int.mul_nonneg (Int.mul_nonneg (h.sq y) d0) b2
  rw[show a5 (x+u) (y+v)=(a5 x y+a5 u v)+((x*u+-(y*v*bG r n))+(x*u+-(y*v*bG r n))) by unfold a5;grind];exact h.add _ _ (h.add _ _ a2 b2) (h.add _ _ k k)
 ·exact CN h hd a1 a2 b1 b2
 ·rw[show x+u=u+x by grind,show y+v=v+y by grind];exact CN h hd b1 b2 a1 a2
 ·refine .inr ⟨h.add _ _ a1 b1,?_⟩
  have k:0<=sg r n (y*v*bG r n+-(x*u)):=by
   refine h.sqle (by rw[h.mul,h.mul];exact Int.mul_nonneg (Int.mul_nonneg a1 b1) d0) ?_;have e:y*v*bG r n*(y*v*bG r n) - -(x*u)*-(x*u)=-a5 x y*(v*v*bG r n)+x*x*-a5 u v:=by unfold a5;grind
   rw[e];refine h.add _ _ ?_ ?_
   ·rw[h.mul,h.neg,h.mul];exact Int.mul_nonneg a2 (Int.mul_nonneg (h.sq v) d0)
   ·rw[h.mul,h.neg];exact Int.mul_nonneg (h.sq x) b2
  have k2:0<=sg r n (-a5 (x+u) (y+v)):=by
   rw[show -a5 (x+u) (y+v)=(-a5 x y+-a5 u v)+((y*v*bG r n+-(x*u))+(y*v*bG r n+-(x*u))) by unfold a5;grind];exact h.add _ _ (h.add _ _ (by rw[h.neg];exact a2) (by rw[h.neg];exact b2)) (h.add _ _ k k)
  rwa [h.neg]at k2
theorem Qv(a b c d:Int):T.sgn3 (-a) (-b) c d=-T.sgn3 a b c d:=by
 unfold T.sgn3;have e:(-a=-b \/ -b=0)↔(a=b\/b=0):=by omega
 simp only[e];split
 ·rfl
 ·split
  ·rfl
  ·by_cases h:a=0
   ·rw[Yl oz,Yl h]
   ·rw[Yk oz,Yk h,Int.neg_mul]
theorem PW(h:Sg (E r n) (sg r n))(hd:0<=sg r n (bG r n)):Sg (E r (n+1)) (sg r (n+1)):=by
 have hcs:∀z:E r (n+1),sg r (n+1) z=-1\/sg r (n+1) z=0\/sg r (n+1) z=1:=fun z=>T.sgn_cases r (n+1) z
 have hone:sg r (n+1) 1=1:=by
  rw[uJ,kM,h.one,h.zero];unfold T.sgn3;split
  ·rfl
  ·simp
 have hneg:∀z:E r (n+1),sg r (n+1) (-z)=-sg r (n+1) z:=by
  intro z;obtain⟨x,y,rfl⟩:=jZ z;rw[sU,kM,kM,h.neg,h.neg,show a5 (-x) (-y)=a5 x y by unfold a5;grind,Qv]
 by_cases hd0:sg r n (bG r n)=0
 ·have e0:∀x y:E r n,sg r (n+1) (bI x y)=sg r n x:=by
   intro x y;rw[kM,hd0];unfold T.sgn3;rw[Yl rfl]
  refine⟨hcs,hone,hneg,?_,?_⟩
  ·intro z w;obtain ⟨x,y,rfl⟩:=jZ z;obtain ⟨u,v,rfl⟩:=jZ w;rw [ku,e0,e0,e0];have h1:sg r n (y * v * bG r n) = 0:=by rw [h.mul,hd0]; simp
   have:=h.zadd (y:=x*u) h1;rw[show x*u+y*v*bG r n=y*v*bG r n+x*u by grind,this,h.mul]
  ·intro z w;obtain⟨x,y,rfl⟩:=jZ z;obtain⟨u,v,rfl⟩:=jZ w;rw[oG,e0,e0,e0];exact h.add x u
 ·have hd1 : sg r n (bG r n) = 1 := by rcases h.cs (bG r n) with e | e | e <;> omega
  have hadd:∀z w:E r (n+1),0<=sg r (n+1) z->0<=sg r (n+1) w->0<=sg r (n+1) (z+w):=by
   intro z w;obtain⟨x,y,rfl⟩:=jZ z;obtain⟨u,v,rfl⟩:=jZ w;rw[oG,qV h hd1,qV h hd1,qV h hd1];exact OO h hd1
  have hpm:∀z w:E r (n+1),0<=sg r (n+1) z->0<=sg r (n+1) w->0<=sg r (n+1) (z*w):=by
   intro z w;obtain⟨x,y,rfl⟩:=jZ z;obtain⟨u,v,rfl⟩:=jZ w;rw[ku,qV h hd1,qV h hd1,qV h hd1];exact QO h hd1
  have hzm:∀z w:E r (n+1),sg r (n+1) z=0->sg r (n+1) (w*z)=0:=by
   intro z w hz;have n1:=hneg z;have n2:=hneg w;have n3:=hneg (w*z);have m1:=hpm w z;have m2:=hpm w (-z);have m3:=hpm (-w) z;have m4:=hpm (-w) (-z);rw[show w*-z=-(w*z) by grind]at m2;rw[show -w*z=-(w*z) by grind]at m3;rw[show -w*-z=w*z by grind]at m4;rcases hcs w with e |e |e <;> omega
  have hsc:∀(a u v:E r n),sg r (n+1) (bI (a*u) (a*v))=sg r n a*sg r (n+1) (bI u v):=by
   intro a u v;rw[kM,kM,show a5 (a*u) (a*v)=a*a*a5 u v by unfold a5;grind,h.mul,h.mul,h.mul,h.mul,hd1]
   have f1:sg r n v=0->sg r n (a5 u v)=sg r n u*sg r n u:=by
    intro hy;have h1:sg r n (-(v*v*bG r n))=0:=by rw[h.neg,h.mul,h.mul,hy];simp
    have:=h.zadd (y:=u*u) h1;unfold a5;rw[show u*u+-(v*v*bG r n)=-(v*v*bG r n)+u*u by grind,this,h.mul]
   have c1:=h.cs u;have c2:=h.cs v;have c3:=h.cs (a5 u v);have c4:=h.cs a
   revert c1 c2 c3 c4
   generalize sg r n u=a1;generalize sg r n v=b1;generalize sg r n (a5 u v)=c1;generalize sg r n a=e1;intro c1 c2 c3 c4;rcases c1 with rfl |rfl |rfl <;> rcases c2 with rfl |rfl |rfl <;> rcases c3 with rfl |rfl |rfl <;> rcases c4 with rfl |rfl |rfl <;> decide
  have hpadd:∀z w:E r (n+1),sg r (n+1) z=1->0<=sg r (n+1) w->sg r (n+1) (z+w)=1:=by
   intro z w hz hw;have a1:=hadd z w oz hw;rcases hcs (z+w)with e |e |e
   ·omega
   ·exfalso;have n1:=hneg z;have n2:=hneg (z+w);have a2:=hadd (-(z+w)) w oz hw;rw[show -(z+w)+w=-z by grind]at a2;omega
   ·exact e
  have hpp:∀z w:E r (n+1),sg r (n+1) z=1->sg r (n+1) w=1->sg r (n+1) (z*w)=1:=by
   intro z w hz hw;obtain⟨x,y,rfl⟩:=jZ z;obtain⟨u,v,rfl⟩:=jZ w;have p0:=hpm _ _ (by omega:0<=sg r (n+1) (bI x y)) (by omega:0<=sg r (n+1) (bI u v));rcases hcs (bI x y*bI u v)with e |e |e
   ·omega
   ·exfalso
    by_cases hN:sg r n (a5 x y)=0
    ·have hxy:sg r n x=1/\sg r n y=1:=by
      rw[kM,hd1,hN]at hz
      have f1:sg r n y=0->sg r n (a5 x y)=sg r n x*sg r n x:=by
       intro hy;have h1:sg r n (-(y*y*bG r n))=0:=by rw[h.neg,h.mul,h.mul,hy];simp
       have:=h.zadd (y:=x*x) h1;unfold a5;rw[show x*x+-(y*y*bG r n)=-(y*y*bG r n)+x*x by grind,this,h.mul]
      have f2:sg r n x=0->sg r n (a5 x y)=-(sg r n y*sg r n y):=by
       intro hx;have h1:sg r n (x*x)=0:=by rw[h.mul,hx];simp
       have:=h.zadd (y:=-(y*y*bG r n)) h1;unfold a5;rw[this,h.neg,h.mul,h.mul,hd1];simp
      rw[hN]at f1 f2;have c1:=h.cs x;have c2:=h.cs y
      revert hz f1 f2 c1 c2
      generalize sg r n x=a;generalize sg r n y=b;intro hz f1 f2 c1 c2;rcases c1 with rfl |rfl |rfl <;> rcases c2 with rfl |rfl |rfl <;> revert hz f1 f2 <;> decide
     have k1:sg r (n+1) (bI (x*u) (x*v))=1:=by rw[hsc,hxy.1,hw];rfl
     have k2:0<=sg r (n+1) (bI 0 y):=by
      rw[kM,h.zero,hxy.2,hd1];unfold T.sgn3;simp
     have k3:=hpm _ _ k2 (by omega:0<=sg r (n+1) (bI u v));have k4:=hpadd _ _ k1 k3;rw[ku,oG]at k4;rw[ku]at e;rw[show x*u+(0*u+y*v*bG r n)=x*u+y*v*bG r n by grind,show x*v+(0*v+y*u)=x*v+y*u by grind]at k4;omega
    ·have k1:=hzm _ (bI x (-y)) e;rw[show bI x (-y)*(bI x y*bI u v)=bI (a5 x y*u) (a5 x y*v) by rw[ku,ku];unfold a5;congr 1 <;> grind,hsc,hw]at k1;omega
   ·exact e
  refine⟨hcs,hone,hneg,?_,hadd⟩;intro z w;rcases hcs w with e |e |e
  ·rcases hcs z with e' |e' |e'
   ·have := hpp (-z) (-w) (by rw[hneg];omega) (by rw[hneg];omega);rw[show -z*-w=z*w by grind]at this;rw[this,e,e'];rfl
   ·have:=hzm z w e';rw[show w*z=z*w by grind]at this;rw[this,e'];simp
   ·have := hpp z (-w) e' (by rw[hneg];omega);rw[show z*-w=-(z*w) by grind,hneg]at this;rw[e,e'];omega
  ·rw[hzm w z e,e];simp
  ·rcases hcs z with e' |e' |e'
   ·have := hpp (-z) w (by rw[hneg];omega) e;rw[show -z*w=-(z*w) by grind,hneg]at this;rw[e,e'];omega
   ·have:=hzm z w e';rw[show w*z=z*w by grind]at this;rw[this,e'];simp
   ·rw[hpp z w e' e,e,e'];rfl
theorem nf(q:Rat):bK q=-1/\q<0\/bK q=0/\q=0\/bK q=1/\0<q:=by
 unfold bK;split
 ·exact .inl ⟨rfl,by assumption⟩
 ·split
  ·exact .inr (.inr ⟨rfl,by assumption⟩)
  ·exact .inr (.inl ⟨rfl,by grind⟩)
theorem uN{q:Rat}(h:0<q):bK q=1:=by
 rcases nf q with⟨_,h'⟩ |⟨_,h'⟩ |⟨e,_⟩
 ·grind
 ·grind
 ·exact e
theorem xV{q:Rat}(h:q<0):bK q=-1:=by
 rcases nf q with⟨e,_⟩ |⟨_,h'⟩ |⟨_,h'⟩
 ·exact e
 ·grind
 ·grind
theorem VQ(q:Rat):bK (-q)=-bK q:=by
 rcases nf q with⟨e,h⟩ |⟨e,h⟩ |⟨e,h⟩
 ·rw[e,uN (by grind)];rfl
 ·rw[h];rfl
 ·rw[e,xV (by grind)]
theorem KJ(p q:Rat):bK (p*q)=bK p*bK q:=by
 have h0:bK 0=0:=rfl;rcases nf p with⟨e,h⟩ |⟨e,h⟩ |⟨e,h⟩ <;> rcases nf q with⟨e',h'⟩ |⟨e',h'⟩ |⟨e',h'⟩
 ·have := Rat.mul_pos (a := -p) (b := -q) (by grind) (by grind);rw[e,e',uN (by grind)];rfl
 ·rw[h',Rat.mul_zero,h0];simp
 ·have := Rat.mul_pos (a := -p) (b := q) (by grind) h';rw[e,e',xV (by grind)];rfl
 ·rw[h,Rat.zero_mul,h0];simp
 ·rw[h,Rat.zero_mul,h0];simp
 ·rw[h,Rat.zero_mul,h0];simp
 ·have := Rat.mul_pos (a := p) (b := -q) h (by grind);rw[e,e',xV (by grind)];rfl
 ·rw[h',Rat.mul_zero,h0];simp
 ·rw[e,e',uN (Rat.mul_pos h h')];rfl
theorem QQ(p q:Rat)(h1:0<=bK p)(h2:0<=bK q):0<=bK (p+q):=by
 rcases nf (p+q)with⟨e,h⟩ |⟨e,h⟩ |⟨e,h⟩
 ·exfalso;rcases nf p with⟨e1,g1⟩ |⟨e1,g1⟩ |⟨e1,g1⟩ <;> rcases nf q with⟨e2,g2⟩ |⟨e2,g2⟩ |⟨e2,g2⟩ <;> first |omega |grind
 ·omega
 ·omega
theorem TC(r:(k:Nat)->T k):Sg (E r 0) (sg r 0) :=
 ⟨fun q=>T.sgnQ_cases q,rfl,fun q=>VQ q,fun p q=>KJ p q,fun p q=>QQ p q⟩
def fc(r:(k:Nat)->T k)(n:Nat):Prop:=∀j,j<n->0<=T.sgn r j (r j)
theorem ep(r:(k:Nat)->T k):∀n,fc r n->Sg (E r n) (sg r n)
 |0,_=>TC r
 |n+1,h=>PW (ep r n (fun j hj=>h j oz)) (h n oz)
end Go.Lw
namespace Go.Lw
def xA{r:(k:Nat)->T k}{n:Nat}(x:E r n):AV:=nA (sh n x)
abbrev Pn(r:(k:Nat)->T k)(n:Nat):Type:=E r n×E r n
def mw(r:(k:Nat)->T k)(n:Nat):LL:=(List.range n).map fun k=>enc k (r k)
def qE{r:(k:Nat)->T k}{n:Nat}(q:Rat):E r n:=T.ofQ n q
theorem zg:∀(n:Nat)(q:Rat),sh n (T.ofQ n q)=sh 0 (q:Rat)
 |0,q=>rfl
 |n+1,q=>by
  show(if T.isZ n (T.zero n)=true then sh n (T.ofQ n q)else _)=_;rw[Yl ((T.isZ_iff n _).2 rfl),zg n q]
theorem IZ:∀n:Nat,sh n (T.zero n)=[]
 |0=>rfl
 |n+1=>by
  show(if T.isZ n (T.zero n)=true then sh n (T.zero n)else _)=_;rw[Yl ((T.isZ_iff n _).2 rfl),IZ n]
theorem tk(r:(k:Nat)->T k)(n:Nat):(mw r n).length=n:=by simp[mw]
theorem Id{r:(k:Nat)->T k}{n j:Nat}(h:j<n):(mw r n).getD j []=enc j (r j):=by
 unfold mw;rw[Xy,XE,List.getElem?_range h];rfl
theorem Le{r:(k:Nat)->T k}{n j:Nat}(h:j<n):ax (mw r n) j=r j:=by
 unfold ax;rw[Id h,wd]
theorem Gm{ts:LL}{R:Nat}(tw:Tw ts R):ts=mw (ax ts) ts.length:=by
 apply List.ext_getElem?;intro j
 by_cases hj:j<ts.length
 ·have h1:=Id (r:=ax ts) hj;have h2:=tw.len j hj;rw[Xy]at h1;rw[XC (show j<(mw (ax ts) ts.length).length by rw[tk];exact hj)]at h1 ⊢;rw[Option.getD_some]at h1;rw[h1,XC hj];unfold ax;rw[qK _ _ h2,Xy,XC hj];rfl
 ·rw[XN oz,XN (by rw[tk];omega)]
class Cx(r:(k:Nat)->T k)(n:Nat)(u k:outParam Nat):Prop where
  ex:∃R,Tw (mw r n) R/\eB R n<=k
  k1:1<=k
  u3:3<=u
class Zu(u k:Nat){r:(k:Nat)->T k}{n:Nat}(x:E r n)(w v:outParam Nat):Prop where
  nm:Nm n (w*u+v*k) (sh n x)
class Zp(u k:Nat){r:(k:Nat)->T k}{n:Nat}(p:Pn r n)(w v:outParam Nat):Prop where
  x:Nm n (w*u+v*k) (sh n p.1)
  y:Nm n (w*u+v*k) (sh n p.2)
class Qz(u:Nat)(q:Rat)(w:outParam Nat):Prop where
  cb:Cb (w*u) [q]
section
variable{r:(k:Nat)->T k}{n u k:Nat}
theorem Cx.five(c:Cx r n u k):n<=5:=by obtain⟨R,tw,_⟩:=c.ex;have:=tw.five;rwa [tk]at this
theorem Cx.three(c:Cx r n u k):n<=3:=by obtain⟨R,tw,_⟩:=c.ex;have:=tw.three;rwa [tk]at this
theorem xB(w v w' v' u k:Nat):(w*u+v*k)+(w'*u+v'*k)=(w+w')*u+(v+v')*k:=by
 rw[Nat.add_mul,Nat.add_mul];omega
theorem Nm.eq{n e f:Nat}{l:List Rat}(h:Nm n e l)(hf:e=f):Nm n f l:=hf▸h
theorem Nm.addT{e f:Nat}{x y:T n}(hx:Nm n e (sh n x))(hy:Nm n f (sh n y)):Nm n (e+f+1) (sh n (T.add n x y)):=by
 have h:=hx.add hy
 rwa [bg,bg]at h
theorem Nm.subT{e f:Nat}{x y:T n}(hx:Nm n e (sh n x))(hy:Nm n f (sh n y)):Nm n (e+f+1) (sh n (T.add n x (T.neg n y))):=by
 have h:=hx.sub hy
 rwa [bg,bg]at h
theorem Nm.negT{e:Nat}{x:T n}(hx:Nm n e (sh n x)):Nm n e (sh n (T.neg n x)):=by
 have h:=hx.neg
 rwa [bg]at h
theorem Nm.mulT{R e f:Nat}(tw:Tw (mw r n) R){x y:T n}(hx:Nm n e (sh n x))(hy:Nm n f (sh n y)):Nm n (e+f+eB R n) (sh n (T.mul r n x y)):=by
 have h:=Nm.mul tw (tk r n).symm hx hy
 rwa [bg,bg,T.mul_congr n (fun j hj=>Le hj)]at h
instance Zu.add[c:Cx r n u k]{x y:E r n}{w v w' v':Nat}[hx:Zu u k x w v][hy:Zu u k y w' v']:Zu u k (x+y) (w+w') (v+v'+1) :=
  ⟨(Nm.addT hx.nm hy.nm).mono (by rw[xB,Nat.add_mul _ 1];have:=c.k1;omega)⟩
instance Zu.sub[c:Cx r n u k]{x y:E r n}{w v w' v':Nat}[hx:Zu u k x w v][hy:Zu u k y w' v']:Zu u k (x-y) (w+w') (v+v'+1) :=
  ⟨(Nm.subT hx.nm hy.nm).mono (by rw[xB,Nat.add_mul _ 1];have:=c.k1;omega)⟩
instance Zu.neg{x:E r n}{w v:Nat}[hx:Zu u k x w v]:Zu u k (-x) w v:=⟨Nm.negT hx.nm⟩
instance Zu.mul[c:Cx r n u k]{x y:E r n}{w v w' v':Nat}[hx:Zu u k x w v][hy:Zu u k y w' v']:Zu u k (x*y) (w+w') (v+v'+1):=by
  obtain⟨R,tw,hk⟩:=c.ex;exact⟨(Nm.mulT tw hx.nm hy.nm).mono (by rw[xB,Nat.add_mul _ 1];omega)⟩
instance Zu.qE[c:Cx r n u k]{q:Rat}{w:Nat}[h:Qz u q w]:Zu u k (qE q:E r n) w 0:=⟨by
  show Nm n _ (sh n (T.ofQ n q));rw[zg];exact(Nm.ofQ c.five h.cb).eq oz⟩
theorem Cb.int{e:Nat}{z:Int}(h:z.natAbs<=2^e):Cb e [(z:Rat)] :=
 ⟨1,z.natAbs,⟨by omega,fun q hq=>⟨z,by rw[List.mem_singleton.1 hq];exact Rat.mul_one _,XD _⟩⟩,Nat.one_le_two_pow,h⟩
theorem Qz.int[c:Cx r n u k]{z:Int}(h:z.natAbs<=8):Qz u (z:Rat) 1:=⟨Cb.int (XW h (show 2^3<=_ from cM (by have:=c.u3;omega)))⟩
instance Zu.c0[c:Cx r n u k]:Zu u k (0:E r n) 0 0:=⟨by
  show Nm n _ (sh n (T.ofQ n ((0:Nat):Rat)));rw[show(((0:Nat):Rat))=0 from rfl,T.ofQ_zero,IZ];exact⟨c.five,.inl rfl,Cb.nil.mono (XJ _)⟩⟩
instance Zu.c1[c:Cx r n u k]:Zu u k (1:E r n) 1 0:=by
  haveI:Qz u ((1:Nat):Rat) 1:=Qz.int (c:=c) (z:=1) (by decide);exact(inferInstance:Zu u k (Go.Lw.qE ((1:Nat):Rat):E r n) 1 0)
instance Zu.c2[c:Cx r n u k]:Zu u k (2:E r n) 1 0:=by
  haveI:Qz u ((2:Nat):Rat) 1:=Qz.int (c:=c) (z:=2) (by decide);exact(inferInstance:Zu u k (Go.Lw.qE ((2:Nat):Rat):E r n) 1 0)
instance Zu.c4[c:Cx r n u k]:Zu u k (4:E r n) 1 0:=by
  haveI:Qz u ((4:Nat):Rat) 1:=Qz.int (c:=c) (z:=4) (by decide);exact(inferInstance:Zu u k (Go.Lw.qE ((4:Nat):Rat):E r n) 1 0)
instance Zu.px{p:Pn r n}{w v:Nat}[h:Zp u k p w v]:Zu u k p.1 w v:=⟨h.x⟩
instance Zu.py{p:Pn r n}{w v:Nat}[h:Zp u k p w v]:Zu u k p.2 w v:=⟨h.y⟩
theorem Aa{w v w' v' u k:Nat}(h:w<=w')(h':v<=v'):w*u+v*k<=w'*u+v'*k:=Nat.add_le_add (XY _ h) (XY _ h')
instance Zp.mk'{x y:E r n}{w v w' v':Nat}[hx:Zu u k x w v][hy:Zu u k y w' v']:Zp u k ((x,y):Pn r n) (max w w') (max v v') :=
  ⟨hx.nm.mono (Aa (Nat.le_max_left ..) (Nat.le_max_left ..)),hy.nm.mono (Aa (Nat.le_max_right ..) (Nat.le_max_right ..))⟩
def RM(p q:Pn r n):Pn r n:=(p.1+q.1,p.2+q.2)
def OL(p q:Pn r n):Pn r n:=(p.1-q.1,p.2-q.2)
def NQ(c:E r n)(p:Pn r n):Pn r n:=(c*p.1,c*p.2)
def VW(p q:Pn r n):E r n:=p.1*q.1+p.2*q.2
def Rx(p q:Pn r n):E r n:=p.1*q.2-p.2*q.1
def Pv(c s:E r n)(p:Pn r n):Pn r n:=(c*p.1-s*p.2,s*p.1+c*p.2)
def pQ(x y:Rat):Pn r n:=(qE x,qE y)
def SN(p:Pn r n):Pn r n:=(-p.2,p.1)
instance Zp.add[c:Cx r n u k]{p q:Pn r n}{w v w' v':Nat}[hp:Zp u k p w v][hq:Zp u k q w' v']:Zp u k (RM p q) (w+w') (v+v'+1) :=
  ⟨(inferInstance:Zu u k (p.1+q.1) (w+w') (v+v'+1)).nm,(inferInstance:Zu u k (p.2+q.2) (w+w') (v+v'+1)).nm⟩
instance Zp.sub[c:Cx r n u k]{p q:Pn r n}{w v w' v':Nat}[hp:Zp u k p w v][hq:Zp u k q w' v']:Zp u k (OL p q) (w+w') (v+v'+1) :=
  ⟨(inferInstance:Zu u k (p.1-q.1) (w+w') (v+v'+1)).nm,(inferInstance:Zu u k (p.2-q.2) (w+w') (v+v'+1)).nm⟩
instance Zp.scale[c:Cx r n u k]{a:E r n}{q:Pn r n}{w v w' v':Nat}[hp:Zu u k a w v][hq:Zp u k q w' v']:Zp u k (NQ a q) (w+w') (v+v'+1) :=
  ⟨(inferInstance:Zu u k (a*q.1) (w+w') (v+v'+1)).nm,(inferInstance:Zu u k (a*q.2) (w+w') (v+v'+1)).nm⟩
instance Zu.dot[c:Cx r n u k]{p q:Pn r n}{w v w' v':Nat}[hp:Zp u k p w v][hq:Zp u k q w' v']:Zu u k (VW p q) (w+w'+(w+w')) (v+v'+1+(v+v'+1)+1) :=
  (inferInstance:Zu u k (p.1*q.1+p.2*q.2) _ _)
instance Zu.cross[c:Cx r n u k]{p q:Pn r n}{w v w' v':Nat}[hp:Zp u k p w v][hq:Zp u k q w' v']:Zu u k (Rx p q) (w+w'+(w+w')) (v+v'+1+(v+v'+1)+1) :=
  (inferInstance:Zu u k (p.1*q.2-p.2*q.1) _ _)
instance Zp.turn[c:Cx r n u k]{a b:E r n}{p:Pn r n}{w v w' v' w2 v2:Nat}[ha:Zu u k a w v][hb:Zu u k b w' v'][hp:Zp u k p w2 v2] :
    Zp u k (Pv a b p) (w+w2+(w'+w2)) (v+v2+1+(v'+v2+1)+1) :=
  ⟨(inferInstance:Zu u k (a*p.1-b*p.2) _ _).nm,by
    have h:=(inferInstance:Zu u k (b*p.1+a*p.2) _ _).nm;exact h.eq (by rw[Nat.add_comm (w'+w2),Nat.add_comm (v'+v2+1)])⟩
instance Zp.ofQ[c:Cx r n u k]{x y:Rat}{w w':Nat}[hx:Qz u x w][hy:Qz u y w']:Zp u k (pQ x y:Pn r n) (max w w') (max 0 0) :=
  (inferInstance:Zp u k ((qE x,qE y):Pn r n) _ _)
instance Zp.quart{p:Pn r n}{w v:Nat}[hp:Zp u k p w v]:Zp u k (SN p) w v:=⟨(inferInstance:Zu u k (-p.2) w v).nm,hp.x⟩
end
theorem rg(rs:List (List Rt)):(llq rs).length=rs.length:=by simp[llq]
abbrev Et(ts:LL):Type:=E (ax ts) ts.length
def dE(ts:LL)(a:List Rat):Et ts:=ae ts.length a
def sX{ts:LL}(x:Et ts):List Rat:=sh ts.length x
def am{ts:LL}(x:Et ts):Int:=T.sgn (ax ts) ts.length x
class Ct(ts:LL)(u k:outParam Nat):Prop where
  ex:∃R,Tw ts R/\eB R ts.length<=k
  k1:1<=k
  u3:3<=u
  ub:u<=1000000
  kb:k<=1000000
instance Ct.cx{ts:LL}{u k:Nat}[c:Ct ts u k]:Cx (ax ts) ts.length u k:=by
  obtain⟨R,tw,h⟩:=c.ex;exact⟨⟨R,Gm tw▸tw,h⟩,c.k1,c.u3⟩
class Zl(ts:LL)(u k:Nat)(a:List Rat)(x:outParam (Et ts))(w v:outParam Nat):Prop where
  eq:ae ts.length a=x
  nm:Nm ts.length (w*u+v*k) a
section
variable{ts:LL}{u k:Nat}
instance Zl.sX{x:Et ts}{w v:Nat}[h:Zu u k x w v]:Zl ts u k (sX x) x w v:=⟨bg _ _,h.nm⟩
instance Zl.q[c:Ct ts u k]{q:Rat}{w:Nat}[h:Qz u q w]:Zl ts u k (sh 0 (q:Rat)) (qE q:Et ts) w 0:=⟨gM _ q,by
  obtain⟨R,tw,_⟩:=c.ex;exact(Nm.ofQ tw.five h.cb).eq oz⟩
instance Zl.nil [c : Ct ts u k] : Zl ts u k [] (0 : Et ts) 0 0 := ⟨by rw [iW]; exact E.zero_def.symm, by
  obtain⟨R,tw,_⟩:=c.ex;exact⟨tw.five,.inl rfl,Cb.nil.mono (XJ _)⟩⟩
theorem Zl.zu{a:List Rat}{x:Et ts}{w v:Nat}(h:Zl ts u k a x w v):Zu u k x w v:=⟨by
 have h1:=h.nm;have h2:=Cb.sh h1.cb h1.nl;rw[h.eq]at h2;exact⟨h1.five,eQ _ _,h2⟩⟩
theorem Zl.at{a:List Rat}{e:Nat}(h:Nm ts.length e a)(he:e<=u):Zl ts u k a (dE ts a) 1 0:=⟨rfl,h.mono oz⟩
theorem GI(c:Ct ts u k){w v m:Nat}(h:w+v<=m):w*u+v*k<=m*1000000:=by
 have h1:w*u<=w*1000000:=XL _ c.ub;have h2:v*k<=v*1000000:=XL _ c.kb;omega
theorem Zl.up(c:Ct ts u k){a:List Rat}{x:Et ts}{w v m:Nat}(h:Zl ts u k a x w v)(hm:w+v<=m):Nm ts.length (m*1000000) a:=h.nm.mono (GI c hm)
theorem Ct.kk(c:Ct ts u k){R:Nat}(h:eB R ts.length<=k):kB R ts.length<=1000000:=XW h c.kb
def dotE(x y z t:Et ts):Et ts:=x*z+y*t
def crsE(x y z t:Et ts):Et ts:=x*t-y*z
instance Zu.dotE[c:Ct ts u k]{x y z t:Et ts}{w1 v1 w2 v2 w3 v3 w4 v4:Nat}[Zu u k x w1 v1][Zu u k y w2 v2][Zu u k z w3 v3][Zu u k t w4 v4]:Zu u k (dotE x y z t) (w1+w3+(w2+w4)) (v1+v3+1+(v2+v4+1)+1) :=
  (inferInstance:Zu u k (x*z+y*t) _ _)
instance Zu.crsE[c:Ct ts u k]{x y z t:Et ts}{w1 v1 w2 v2 w3 v3 w4 v4:Nat}[Zu u k x w1 v1][Zu u k y w2 v2][Zu u k z w3 v3][Zu u k t w4 v4]:Zu u k (crsE x y z t) (w1+w4+(w2+w3)) (v1+v4+1+(v2+v3+1)+1) :=
  (inferInstance:Zu u k (x*t-y*z) _ _)
end
def eK(xs:List Int):List Int:=xs.mergeSort (fun a b=>decide (a<=b))
theorem Ay(xs:List Int):(eK xs).Perm xs:=List.mergeSort_perm _ _
theorem Wc(xs:List Int):(eK xs).Pairwise (· <= ·):=by
 have h:=List.pairwise_mergeSort (le:=fun a b:Int=>decide (a<=b)) (fun a b c h1 h2=>by simp only[decide_eq_true_eq]at *;omega) (fun a b=>by simp only[Yf,decide_eq_true_eq];omega) xs;exact h.imp (fun h=>of_decide_eq_true h)
theorem KI{xs ys:List Int}(hp:ys.Perm xs)(hs:ys.Pairwise (· <= ·)):ys=eK xs :=
 List.Perm.eq_of_pairwise (le:=fun a b:Int=>a<=b) (fun a b _ _ h1 h2=>by omega) hs (Wc xs) (hp.trans (Ay xs).symm)
theorem DF(xs:List Int):(eK xs).length=xs.length:=(Ay xs).length_eq
theorem zx{xs:List Int}{b:Int}:b∈eK xs↔b∈xs:=(Ay xs).mem_iff
theorem Gx(e:Nat)(l:List Nat):eD (e::l)=if e≠0 then e else eD l:=rfl
theorem o5{α:Type}{f:α->Nat}{L:List α}(h:∀x∈L,f x=0):eD (L.map f)=0:=by
 induction L with
 |nil=>rfl
 |cons x L ih =>
  rw[Yi,Gx,Yk (by rw[h x (X7 ..)];simp)];exact ih (fun y hy=>h y (X8 _ hy))
def jg(g:Gr)(j:Jt):Int:=if g.bo.contains j.a=true then(if g.bo.contains j.b=true then -1 else j.b)else j.a
def fO(l:Li)(g:Gr):List Int:=g.jo.map (fun j=>jg g (l.jo.getD j.toNat default))
theorem qv(l:Li)(g:Gr):(fO l g).length=g.jo.length:=by unfold fO;rw[XA]
theorem Tj{l:Li}(hl:aA l=0){g:Gr}(hg:GrOk l g):∀b∈fO l g,b<l.bo.length:=by
 intro b hb;unfold fO at hb;obtain⟨z,hz,rfl⟩:=List.mem_map.1 hb;obtain⟨z0,z1⟩:=hg.j z hz;obtain⟨j,hj⟩:=aw (l:=l.jo) (i:=z.toNat) oz;rw[aq hj];obtain⟨i1,i2,_⟩:=cO hl hj;have i1:=cW i1;have i2:=cW i2;unfold jg;split
 ·split
  ·omega
  ·omega
 ·omega
def cR(l:Li)(g:Gr)(own:Bool):List Int:=fO l g++(if own=true then g.bo else[])
theorem yP{l:Li}(hl:aA l=0){g:Gr}(hg:GrOk l g){own:Bool}:∀b∈cR l g own,b<l.bo.length:=by
 intro b hb;rcases List.mem_append.1 hb with hb |hb
 ·exact Tj hl hg b hb
 ·split at hb
  ·exact(hg.b b hb).2
  ·cases hb
theorem LY{l:Li}{g:Gr}(hg:GrOk l g){own:Bool}:(cR l g own).length<=5:=by
 unfold cR;have h1:=hg.lb;have h2:=hg.lj;rw[XZ,qv];split
 ·omega
 ·simp only[XM];omega
def gf(a:As)(b:Int):Nat:=if b<0 then 0 else bN a.rs (a.bs.getD b.toNat default).l
def iz(l:Li)(k:Int):Gr:=(splitG l).getD k.toNat default
def jT(l:Li)(k:Int)(a:As)(own:Bool):Nat :=
  if splitE l≠0 then splitE l else if k<0\/((splitG l).length:Int)<=k then 9 else if a.bs.length≠l.bo.length then 10 else if bC a.rs≠0 then bC a.rs
  else eD ((eK (cR l (iz l k) own)).map (gf a))
def fI(l:Li)(k:Int)(a:As)(own:Bool):Nat:=if aA l≠0 then aA l else jT l k a own
section
variable{l:Li}{k:Int}{a:As}{own:Bool}
theorem qH(h:aA l=0):fI l k a own=jT l k a own:=by unfold fI;rw[Yk oz]
theorem US{e:Nat}(he:(if aA l=0 then splitE l else aA l)=e)(h:e≠0):fI l k a own=e:=by
 by_cases h1:aA l=0
 ·rw[Yl h1]at he;rw[qH h1];unfold jT;rw[Yl oz];exact he
 ·rw[Yk h1]at he;unfold fI;rw[Yl h1];exact he
theorem It(h:(if aA l=0 then splitE l else aA l)=0):aA l=0/\splitE l=0:=by
 by_cases h1:aA l=0
 ·rw[Yl h1]at h;exact⟨h1,h⟩
 ·rw[Yk h1]at h;exact absurd h h1
theorem JO(hs:splitE l=0)(hk:k<0\/((splitG l).length:Int)<=k):jT l k a own=9:=by unfold jT;rw[Yk oz,Yl hk]
theorem KD(hs:splitE l=0)(hk:¬(k<0\/((splitG l).length:Int)<=k))(hb:a.bs.length≠l.bo.length):jT l k a own=10:=by
 unfold jT;rw[Yk oz,Yk hk,Yl hb]
theorem Pt(hs:splitE l=0)(hk:¬(k<0\/((splitG l).length:Int)<=k))(hb:a.bs.length=l.bo.length)(hc:bC a.rs≠0):jT l k a own=bC a.rs:=by
 unfold jT;rw[Yk oz,Yk hk,Yk oz,Yl hc]
theorem D4(hs:splitE l=0)(hk:¬(k<0\/((splitG l).length:Int)<=k))(hb:a.bs.length=l.bo.length)(hc:bC a.rs=0):jT l k a own=eD ((eK (cR l (iz l k) own)).map (gf a)):=by
 unfold jT;rw[Yk oz,Yk hk,Yk oz,Yk oz]
end
structure DyOk(E:Nat)(l:Li)(k:Int)(a:As)(own:Bool)(i:Nat)(g:Gr):Prop where
  li:aA l=0
  sp:splitE l=0
  hk:k=(i:Int)
  hg:(splitG l)[i]?=some g
  ok:GrOk l g
  dy:DyK l g
  ln:a.bs.length=l.bo.length
  chk:bC a.rs=0
  nd:∀b∈cR l g own,gf a b=0
  sm:∀b∈cR l g own,0<=b->∀p,a.bs[b.toNat]?=some p->∀x∈p.l,NR x E
def vS(E:Nat)(l:Li)(k:Int)(a:As)(own:Bool):Prop:=∀b∈cR l (iz l k) own,0<=b->∀p,a.bs[b.toNat]?=some p->∀x∈p.l,NR x E
theorem yo{l:Li}{k:Int}{a:As}{own:Bool}{E:Nat}(hs:vS E l k a own)(h:fI l k a own=0):∃i g,DyOk E l k a own i g:=by
 unfold fI at h;split at h
 ·rename_i h1;exact absurd h h1
 ·rename_i h1;have h1:=Decidable.not_not.1 h1;unfold jT at h;split at h
  ·rename_i h2;exact absurd h h2
  ·rename_i h2;split at h
   ·cases h
   ·rename_i h3;split at h
    ·cases h
    ·rename_i h4;split at h
     ·rename_i h5;exact absurd h h5
     ·rename_i h5;obtain⟨g,hg⟩:=aw (l:=splitG l) (i:=k.toNat) oz;have e:iz l k=g:=aq hg;rw[e]at h;obtain⟨d1,d2⟩:=oY h1 (Xx hg);refine⟨k.toNat,g,h1,by omega,by omega,hg,d2,d1,by omega,by omega,fun b hb=>?_,e▸hs⟩;exact oa h _ (List.mem_map.2 ⟨b,zx.2 hb,rfl⟩)
theorem DyOk.body{E:Nat}{l:Li}{k:Int}{a:As}{own:Bool}{i:Nat}{g:Gr}(h:DyOk E l k a own i g){b:Int}(hb:b∈cR l g own)(h0:0<=b):∃p,a.bs[b.toNat]?=some p/\bN a.rs p.l=0/\∀x∈p.l,NR x E:=by
 have h1:=yP h.li h.ok b hb;obtain⟨p,hp⟩:=aw (l:=a.bs) (i:=b.toNat) (by have:=h.ln;omega);have h2:=h.nd b hb;unfold gf at h2;rw[Yk oz,aq hp]at h2;exact⟨p,hp,h2,h.sm b hb h0 p hp⟩
theorem Uy(n:Nat):50000000000<=lm n:=kE n
theorem Eu{k:Int}{n:Nat}(h:cond (aa .lss k 0) true (aa .geq k (n:Int))=true):k<0\/(n:Int)<=k:=by
 by_cases h1:k<0
 ·exact .inl h1
 ·refine .inr ?_;have h2:aa .lss k 0=false:=decide_eq_false h1;rw[h2]at h;exact of_decide_eq_true (p:=k>=n) h
theorem QH{k:Int}{n:Nat}(h:cond (aa .lss k 0) true (aa .geq k (n:Int))=false):¬(k<0\/(n:Int)<=k):=by
 intro h1
 by_cases h2:k<0
 ·rw[show aa .lss k 0=true from decide_eq_true h2]at h;cases h
 ·rw[show aa .lss k 0=false from decide_eq_false h2]at h;have h3:¬(k>=n):=of_decide_eq_false h;omega
theorem Ld{k:Int}{n:Nat}(h:¬(k<0\/(n:Int)<=k)):∃i:Nat,k=i/\i<n:=⟨k.toNat,by omega,by omega⟩
theorem w7{a b:Nat}(h:aa .neq (a:Int) (b:Int)=true):a≠b:=by
 have h1:((a:Int) != (b:Int))=true:=h;have h2:=bne_iff_ne.1 h1;omega
theorem Ah{a b:Nat}(h:aa .neq (a:Int) (b:Int)=false):a=b:=by
 have h1:((a:Int) != (b:Int))=false:=h;have h2:(a:Int)=b:=by simpa only[bne_eq_false_iff_eq]using h1
 omega
theorem ph{r:(k:Nat)->T k}{n:Nat}(p q:Rat):(qE (p+q):E r n)=qE p+qE q:=T.ofQ_add n p q
theorem P8{r:(k:Nat)->T k}{n:Nat}(p:Rat):(qE (-p):E r n)=-qE p:=T.ofQ_neg n p
theorem mz{r:(k:Nat)->T k}{n:Nat}(p q:Rat):(qE (p-q):E r n)=qE p-qE q:=by
 rw[Rat.sub_eq_add_neg,ph,P8];grind
theorem mc{r:(k:Nat)->T k}{n:Nat}(p q:Rat):(qE (p*q):E r n)=qE p*qE q:=(T.mul_ofQ r n p q).symm
def aS(l:Li)(body pt:Int):Rat×Rat:=(((cA l body).getD pt.toNat default).x.q,((cA l body).getD pt.toNat default).y.q)
abbrev qC(p:Rat×Rat):List AV:=[bl (rt p.1).neg,ws (rt p.1).num,ws (rt p.1).den,bl (rt p.2).neg,ws (rt p.2).num,ws (rt p.2).den]
abbrev qP(p:Rat×Rat):AV:=.agg (qC p)
structure Sm(e:Nat)(p:Rat×Rat):Prop where
  x:Qb e p.1
  y:Qb e p.2
structure MkP(l:Li)(body pt:Int)(n k:Nat)(bd:Bd)(m:Mk):Prop where
  hn:body=n
  hk:pt=k
  gbd:l.bo[n]?=some bd
  gm:bd.pts[k]?=some m
  ex:m.x=rt (aS l body pt).1
  ey:m.y=rt (aS l body pt).2
  sm:Sm 1000 (aS l body pt)
theorem oD{l:Li}(hl:l.ok)(hli:aA l=0){body pt:Int}(h1:bu body l.bo.length=true)(h2:bu pt (cA l body).length=true):∃n k bd m,MkP l body pt n k bd m:=by
 obtain⟨bd,g1,g2,g3,g4⟩:=qO h1;rw[g2]at h2;obtain⟨m,g5,g6,g7,g8⟩:=uu h2;have hv:=Rw hli g1 g5;have ho:=(hl.bo bd g3).pts m g7;have e:aS l body pt=(m.x.q,m.y.q):=by unfold aS;rw[g2,g6]
 exact⟨body.toNat,pt.toNat,bd,m,by omega,by omega,g1,g5,by rw[e];exact Rt.eq_rt ho.x hv.1,by rw[e];exact Rt.eq_rt ho.y hv.2,by rw[e];exact⟨ho.qx.mono oz,ho.qy.mono oz⟩⟩
theorem jW{l:Li}(hl:l.ok)(hli:aA l=0){body pt:Int}(h1:bu body l.bo.length=true)(h2:bu pt (cA l body).length=true):Sm 1000 (aS l body pt):=by
 obtain⟨n,k,bd,m,h⟩:=oD hl hli h1 h2;exact h.sm
def bh(l:Li)(a:As)(body pt:Int):Et (llq a.rs)×Et (llq a.rs):=s7 l a body pt
structure PlP(E:Nat)(l:Li)(a:As)(body pt:Int)(n k:Nat)(bd:Bd)(m:Mk)(b:Pl):Prop where
  mp:MkP l body pt n k bd m
  gb:a.bs[n]?=some b
  eq:s7 l a body pt=oI (llq a.rs) b m
  av:b.av=Pq.av ⟨lq b.c,lq b.s,lq b.x,lq b.y⟩
  ok:Pq.ok (llq a.rs).length E ⟨lq b.c,lq b.s,lq b.x,lq b.y⟩
def Pd(E:Nat)(a:As)(body:Int):Prop:=∃p,a.bs[body.toNat]?=some p/\bN a.rs p.l=0/\∀x∈p.l,NR x E
theorem tU{E:Nat}{l:Li}(hl:l.ok)(hli:aA l=0){a:As}(al:AB a)(hc:bC a.rs=0){body pt:Int}(h1:bu body l.bo.length=true)(h2:bu pt (cA l body).length=true)(hb:Pd E a body):∃n k bd m b,PlP E l a body pt n k bd m b:=by
 obtain⟨n,k,bd,m,h⟩:=oD hl hli h1 h2;obtain⟨b,gb,hb,hbn⟩:=hb;obtain⟨tw,_⟩:=df al.tr hc;have h5:a.rs.length<=5:=by have:=tw.five;rwa [rg]at this
 have h9:=xR hb hbn h5;have e:body.toNat=n:=by have:=h.hn;omega
 have e2:pt.toNat=k:=by have:=h.hk;omega
 rw[e]at gb;obtain⟨bd',g1,g2,_,_⟩:=qO h1;rw[e]at g1;have:bd'=bd:=Option.some.inj (g1.symm.trans h.gbd);subst this;refine⟨n,k,bd',m,b,h,gb,?_,h9.1,by rw[rg];exact h9.2⟩;unfold s7;rw[e,e2,aq gb,g2,aq h.gm]
structure DyS(a:As):Prop where
  tr:TR a.rs 64990
  one:bC a.rs=0->(llq a.rs).length<=1
theorem DyS.ct{a:As}(h:DyS a)(hc:bC a.rs=0):Ct (llq a.rs) 310000 65000:=by
 obtain⟨tw,_⟩:=df h.tr hc;refine⟨⟨64990,tw,?_⟩,by omega,by omega,by omega,by omega⟩;have h1:=ig 64990 (h.one hc);have h2:eB 64990 1=64992:=by simp only[eB]
 omega
theorem mQ{l:Li}(hl:l.ok)(hli:aA l=0){a:As}(al:AB a)(S:DyS a)(hc:bC a.rs=0){body pt:Int}(h1:bu body l.bo.length=true)(h2:bu pt (cA l body).length=true)(hb:Pd 3900000 a body) :
  Zu 310000 65000 (bh l a body pt).1 40 40/\Zu 310000 65000 (bh l a body pt).2 40 40:=by
 obtain⟨n,k,bd,m,b,hp⟩:=tU hl hli al hc h1 h2 hb;obtain⟨tw,_⟩:=df S.tr hc
 have kb:kB 64990 (llq a.rs).length<=65000:=by
  have h1:=ig 64990 (S.one hc);have h2:eB 64990 1=64992:=by simp only[eB]
  show eB 64990 _<=_;omega
 have qx:Qb 1000 m.x.q:=by rw[hp.mp.ex,bV];exact hp.mp.sm.x
 have qy:Qb 1000 m.y.q:=by rw[hp.mp.ey,bV];exact hp.mp.sm.y
 have h:=uA tw hp.ok qx qy;unfold bh;rw[hp.eq];exact⟨⟨h.1.mono oz⟩,⟨h.2.mono oz⟩⟩
theorem lh{rs:List (List Rt)}{r:Nat}(h:TR rs r)(hc:bC rs=0):aY (llq rs)=.agg [.lst 1 (rs.map nR)]:=(df h hc).2.symm
theorem WL{x y:Option Blk}{k:Nat}{z:Blk}(h:lk [(1000,x),(1001,y)] k=some z):1000<=k:=by
 rw[aT]at h;split at h
 ·omega
 ·rw[aT]at h;split at h
  ·omega
  ·cases h
theorem lU{s:AS}{k k':Nat}{x y:Blk}(h:lk s.hp k=some x)(h':lk s.hp k'=some y):∀q z,lk [(k,some x),(k',some y)] q=some z->lk s.hp q=some z:=by
 intro q z hz;rw[aT]at hz;split at hz
 ·rename_i e;cases hz;rw[e];exact h
 ·rw[aT]at hz;split at hz
  ·rename_i e;cases hz;rw[e];exact h'
  ·cases hz
def cq(p q:Rat×Rat):Rat×Rat:=(p.1-q.1,p.2-q.2)
def bY(p q:Rat×Rat):Rat:=p.1*q.1+p.2*q.2
def AX(p q:Rat×Rat):Rat:=p.1*q.2-p.2*q.1
theorem Sm.sub{e f:Nat}{p q:Rat×Rat}(hp:Sm e p)(hq:Sm f q):Sm (e+f+1) (cq p q):=⟨hp.x.sub hq.x,hp.y.sub hq.y⟩
theorem Sm.dot{e f:Nat}{p q:Rat×Rat}(hp:Sm e p)(hq:Sm f q):Qb (e+f+(e+f)+1) (bY p q):=(hp.x.mul hq.x).add (hp.y.mul hq.y)
theorem Sm.cross{e f:Nat}{p q:Rat×Rat}(hp:Sm e p)(hq:Sm f q):Qb (e+f+(e+f)+1) (AX p q):=(hp.x.mul hq.y).sub (hp.y.mul hq.x)
theorem Sm.mono{e f:Nat}{p:Rat×Rat}(hp:Sm e p)(h:e<=f):Sm f p:=⟨hp.x.mono h,hp.y.mono h⟩
theorem ta{q:Rat}{e w:Nat}(h:Qb e q)(he:e<=w*310000):Qz 310000 q w:=⟨(Cb.one h).mono he⟩
def ak(l:Li)(j:Jt)(b:Int):Rat×Rat:=if j.a=b then aS l b j.point else aS l b j.on
def aG(l:Li)(a:As)(j:Jt)(b:Int):Et (llq a.rs)×Et (llq a.rs):=if j.a=b then bh l a j.b j.on else bh l a j.a j.point
structure PinP(E:Nat)(l:Li)(a:As)(j:Jt)(b:Int):Prop where
  tie:(j.a=b/\Pd E a j.b)\/(j.a≠b/\j.b=b/\Pd E a j.a)
theorem PinP.or{E:Nat}{l:Li}{a:As}{j:Jt}{b:Int}(h:PinP E l a j b):j.a=b\/j.b=b:=by
 rcases h.tie with h9 |h9
 ·exact .inl h9.1
 ·exact .inr h9.2.1
theorem l8{l:Li}(hl:l.ok)(hli:aA l=0){a:As}(al:AB a)(S:DyS a)(hc:bC a.rs=0){i:Nat}{j:Jt}(hj:l.jo[i]?=some j){b:Int}(h:PinP 3900000 l a j b) :
  Zu 310000 65000 (aG l a j b).1 40 40/\Zu 310000 65000 (aG l a j b).2 40 40:=by
 obtain⟨i1,i2,i3,i4,_⟩:=cO hli hj;unfold aG;rcases h.tie with⟨e,hb⟩ |⟨e,e2,hb⟩
 ·rw[Yl e];exact mQ hl hli al S hc i2 i4 hb
 ·rw[Yk e];exact mQ hl hli al S hc i1 i3 hb
theorem gG{l:Li}(hl:l.ok)(hli:aA l=0){i:Nat}{j:Jt}(hj:l.jo[i]?=some j){b:Int}(h:j.a=b\/j.b=b):Sm 1000 (ak l j b):=by
 obtain⟨i1,i2,i3,i4,_⟩:=cO hli hj;unfold ak
 by_cases e:j.a=b
 ·rw[Yl e];subst e;exact jW hl hli i1 i3
 ·rw[Yk e];rcases h with h |h
  ·exact absurd h e
  ·subst h;exact jW hl hli i2 i4
theorem N4{bs:List Int}{b:Int}(h:b∈bs):bs.contains b=true:=List.contains_iff_mem.2 h
theorem HB{bs:List Int}{b:Int}(h:b∉bs):bs.contains b=false:=by
 cases hc:bs.contains b with
 |false=>rfl
 |true=>exact absurd (List.contains_iff_mem.1 hc) h
theorem DyOk.ancs{E:Nat}{l:Li}{k:Int}{a:As}{own:Bool}{n:Nat}{g:Gr}(h:DyOk E l k a own n g){z b:Int}{j:Jt}(hz:z∈g.jo)(hj:l.jo[z.toNat]?=some j)(hb:jg g j=b)(h0:0<=b):Pd E a b:=by
 refine h.body ?_ h0;unfold cR fO;refine List.mem_append_left _ (List.mem_map.2 ⟨z,hz,?_⟩);rw[aq hj];exact hb
theorem DyOk.pin{E:Nat}{l:Li}{k:Int}{a:As}{own:Bool}{n:Nat}{g:Gr}(h:DyOk E l k a own n g){kd z b:Int}{j:Jt}{bs:List Int}(hbs:g.bo=bs)(t:TieO l kd bs z b j)(hz:z∈g.jo)(hb:b∈bs):PinP E l a j b:=by
 subst hbs;obtain⟨i1,i2,_⟩:=cO h.li t.hj;have i1:=cW i1;have i2:=cW i2;rcases t.tie with⟨e,hn⟩ |⟨e,hn⟩
 ·refine⟨.inl ⟨e,h.ancs hz t.hj ?_ i2.1⟩⟩;unfold jg;rw[Yl (N4 (e▸hb)),Yk (by rw[HB hn];simp)]
 ·refine⟨.inr ⟨fun e2=>hn (e2▸hb),e,h.ancs hz t.hj ?_ i1.1⟩⟩;unfold jg;rw[Yk (by rw[HB hn];simp)]
theorem DyOk.own{E:Nat}{l:Li}{k:Int}{a:As}{n:Nat}{g:Gr}(h:DyOk E l k a true n g){b:Int}(hb:b∈g.bo):Pd E a b:=by
 refine h.body ?_ (h.ok.b b hb).1;unfold cR;rw[Yl rfl];exact List.mem_append_right _ hb
structure RrrP(E:Nat)(l:Li)(a:As)(g:Gr)(i k z0 z1 z2:Int)(j0 j1 j2:Jt):Prop where
  eq:g=⟨1,[i,k],[z0,z1,z2],0⟩
  h0:l.jo[z0.toNat]?=some j0
  h1:l.jo[z1.toNat]?=some j1
  h2:l.jo[z2.toNat]?=some j2
  p0:PinP E l a j0 i
  p1:PinP E l a j1 k
  t1:j2.a=i\/j2.b=i
  t2:j2.a=k\/j2.b=k
structure SlP(E:Nat)(l:Li)(a:As)(g:Gr)(kd i z0 z1:Int)(j0 j:Jt):Prop where
  eq:g=⟨kd,[i],[z0,z1],0⟩
  h0:l.jo[z0.toNat]?=some j0
  h1:l.jo[z1.toNat]?=some j
  p0:PinP E l a j0 i
  p1:PinP E l a j i
  hk:j.kind≠0
theorem DyOk.rrr{E:Nat}{l:Li}{k:Int}{a:As}{own:Bool}{n:Nat}{g:Gr}(h:DyOk E l k a own n g)(hk:g.kind=1):∃i k z0 z1 z2 j0 j1 j2,RrrP E l a g i k z0 z1 z2 j0 j1 j2:=by
 have hd:=h.dy;cases hd with
 |drv _ _ _ _=>exact absurd hk (by simp)
 |pr _ _ _=>exact absurd hk (by simp)
 |rp _ _ _=>exact absurd hk (by simp)
 | @rrr i k z0 z1 z2 j0 j1 j2 ne t0 t1 h0 h2 kd tie =>
  refine⟨i,k,z0,z1,z2,j0,j1,j2,rfl,t0.hj,t1.hj,h2,h.pin rfl t0 (by simp) (by simp),h.pin rfl t1 (by simp) (by simp),?_,?_⟩
  ·rcases tie with h9 |h9
   ·exact .inl h9.1
   ·exact .inr h9.1
  ·rcases tie with h9 |h9
   ·exact .inr h9.2
   ·exact .inl h9.2
theorem DyOk.pr{E:Nat}{l:Li}{k:Int}{a:As}{own:Bool}{n:Nat}{g:Gr}(h:DyOk E l k a own n g)(hk:g.kind=2):∃i z0 z1 j0 j,SlP E l a g 2 i z0 z1 j0 j/\j.a=i/\Pd E a j.b:=by
 have hd:=h.dy;cases hd with
 |drv _ _ _ _=>exact absurd hk (by simp)
 |rrr _ _ _ _ _ _ _=>exact absurd hk (by simp)
 |rp _ _ _=>exact absurd hk (by simp)
 | @pr i z0 z1 j0 j1 t0 t1 ha =>
  have p1:PinP E l a j1 i:=h.pin rfl t1 (by simp) (by simp);refine⟨i,z0,z1,j0,j1,⟨rfl,t0.hj,t1.hj,h.pin rfl t0 (by simp) (by simp),p1,by rw[t1.kd];decide⟩,ha,?_⟩;rcases p1.tie with h9 |h9
  ·exact h9.2
  ·exact absurd ha h9.1
theorem DyOk.rp{E:Nat}{l:Li}{k:Int}{a:As}{own:Bool}{n:Nat}{g:Gr}(h:DyOk E l k a own n g)(h0:g.kind≠0)(h1:g.kind≠1)(h2:g.kind≠2):∃i z0 z1 j0 j,SlP E l a g 3 i z0 z1 j0 j/\j.a≠i/\j.b=i/\Pd E a j.a:=by
 have hd:=h.dy;cases hd with
 |drv _ _ _ _=>exact absurd rfl h0
 |rrr _ _ _ _ _ _ _=>exact absurd rfl h1
 |pr _ _ _=>exact absurd rfl h2
 | @rp i z0 z1 j0 j1 t0 t1 ha =>
  have p1:PinP E l a j1 i:=h.pin rfl t1 (by simp) (by simp);refine⟨i,z0,z1,j0,j1,⟨rfl,t0.hj,t1.hj,h.pin rfl t0 (by simp) (by simp),p1,by rw[t1.kd];decide⟩,ha,?_⟩;rcases p1.tie with h9 |h9
  ·exact absurd h9.1 ha
  ·exact⟨h9.2.1,h9.2.2⟩
def km(a:As)(b:Int)(q:Rat×Rat):Et (llq a.rs)×Et (llq a.rs) :=
  (rY (llq a.rs) (fL (llq a.rs) (a.bs.getD b.toNat default).c) (fL (llq a.rs) (a.bs.getD b.toNat default).s) (fL (llq a.rs) (a.bs.getD b.toNat default).x) q.1 q.2,
   sE (llq a.rs) (fL (llq a.rs) (a.bs.getD b.toNat default).c) (fL (llq a.rs) (a.bs.getD b.toNat default).s) (fL (llq a.rs) (a.bs.getD b.toNat default).y) q.1 q.2)
theorem GU{ts:LL}{r e f:Nat}(tw:Tw ts r){b:Pl}{q:Rat×Rat}(hb:Pq.ok ts.length e ⟨lq b.c,lq b.s,lq b.x,lq b.y⟩)(hq:Sm f q) :
  Nm ts.length (3*e+2*f+2*kB r ts.length+10) (sh ts.length (rY ts (fL ts b.c) (fL ts b.s) (fL ts b.x) q.1 q.2))/\Nm ts.length (3*e+2*f+2*kB r ts.length+10) (sh ts.length (sE ts (fL ts b.c) (fL ts b.s) (fL ts b.y) q.1 q.2)):=by
 have nx:=Nm.ofQ tw.five (Cb.one hq.x);have ny:=Nm.ofQ tw.five (Cb.one hq.y);have h1:=(xe tw hb.c hb.s nx ny).add hb.x;rw[zW]at h1;have h2:=(xC tw hb.c hb.s nx ny).add hb.y;rw[zy]at h2;exact⟨h1.mono oz,h2.mono oz⟩
def bF(c p:Rat×Rat):Rat:=bY (cq c p) (cq c p)
theorem V5{e f:Nat}{c p:Rat×Rat}(hc:Sm e c)(hp:Sm f p):Qb (e+f+1+(e+f+1)+(e+f+1+(e+f+1))+1) (bF c p):=(hc.sub hp).dot (hc.sub hp)
def ao(l:Li)(g:Gr)(n:Nat):Jt:=l.jo.getD (g.jo.getD n 0).toNat default
def aP(g:Gr)(n:Nat):Int:=g.bo.getD n 0
section
variable(l:Li)(a:As)
def cr(i:Int)(j:Jt):Rat×Rat:=cq (aS l i j.to) (aS l i j.on)
def cm(i:Int)(j0 j:Jt):Rat:=AX (cr l i j) (cq (aS l i j.on) (ak l j0 i))
def iR(i:Int)(j:Jt):Rat:=bY (cr l i j) (cr l i j)
def aQ{ts:LL}(p q:Et ts×Et ts):Et ts×Et ts:=(p.1-q.1,p.2-q.2)
def dB{ts:LL}(p q:Et ts×Et ts):Et ts:=dotE p.1 p.2 q.1 q.2
def gN{ts:LL}(p q:Et ts×Et ts):Et ts:=crsE p.1 p.2 q.1 q.2
def bU(i:Int)(j0 j:Jt):Et (llq a.rs)×Et (llq a.rs):=aQ (bh l a j.a j.point) (aG l a j0 i)
def cc(i:Int)(j0 j:Jt):Et (llq a.rs):=dB (bU l a i j0 j) (bU l a i j0 j)
def Am(g:Gr):Et (llq a.rs) :=
  if g.kind=0 then qE 1
  else if g.kind=1 then
    qE 4*(qE (bF (ak l (ao l g 2) (aP g 0)) (ak l (ao l g 0) (aP g 0)))*dB (aQ (aG l a (ao l g 0) (aP g 0)) (aG l a (ao l g 1) (aP g 1))) (aQ (aG l a (ao l g 0) (aP g 0)) (aG l a (ao l g 1) (aP g 1))))
      - ((qE (bF (ak l (ao l g 2) (aP g 0)) (ak l (ao l g 0) (aP g 0)))+dB (aQ (aG l a (ao l g 0) (aP g 0)) (aG l a (ao l g 1) (aP g 1))) (aQ (aG l a (ao l g 0) (aP g 0)) (aG l a (ao l g 1) (aP g 1))))-qE (bF (ak l (ao l g 2) (aP g 1)) (ak l (ao l g 1) (aP g 1))))
        * ((qE (bF (ak l (ao l g 2) (aP g 0)) (ak l (ao l g 0) (aP g 0)))+dB (aQ (aG l a (ao l g 0) (aP g 0)) (aG l a (ao l g 1) (aP g 1))) (aQ (aG l a (ao l g 0) (aP g 0)) (aG l a (ao l g 1) (aP g 1))))-qE (bF (ak l (ao l g 2) (aP g 1)) (ak l (ao l g 1) (aP g 1))))
  else if g.kind=2 then
    dB (aQ (bh l a (ao l g 1).b (ao l g 1).to) (bh l a (ao l g 1).b (ao l g 1).on)) (aQ (bh l a (ao l g 1).b (ao l g 1).to) (bh l a (ao l g 1).b (ao l g 1).on))*qE (bF (aS l (aP g 0) (ao l g 1).point) (ak l (ao l g 0) (aP g 0)))
      - gN (aQ (bh l a (ao l g 1).b (ao l g 1).to) (bh l a (ao l g 1).b (ao l g 1).on)) (aQ (aG l a (ao l g 0) (aP g 0)) (bh l a (ao l g 1).b (ao l g 1).on))
        * gN (aQ (bh l a (ao l g 1).b (ao l g 1).to) (bh l a (ao l g 1).b (ao l g 1).on)) (aQ (aG l a (ao l g 0) (aP g 0)) (bh l a (ao l g 1).b (ao l g 1).on))
  else qE (iR l (aP g 0) (ao l g 1))*cc l a (aP g 0) (ao l g 0) (ao l g 1)-qE (cm l (aP g 0) (ao l g 0) (ao l g 1))*qE (cm l (aP g 0) (ao l g 0) (ao l g 1))
def iJ(g:Gr):Et (llq a.rs) :=
  if g.kind=0 then qE 1
  else if g.kind=1 then gN (aQ (aG l a (ao l g 1) (aP g 1)) (aG l a (ao l g 0) (aP g 0))) (aQ (km a (aP g 0) (ak l (ao l g 2) (aP g 0))) (aG l a (ao l g 0) (aP g 0)))
  else if g.kind=2 then dB (aQ (bh l a (ao l g 1).b (ao l g 1).to) (bh l a (ao l g 1).b (ao l g 1).on)) (aQ (km a (aP g 0) (aS l (aP g 0) (ao l g 1).point)) (aG l a (ao l g 0) (aP g 0)))
  else dB (aQ (bh l a (ao l g 1).b (ao l g 1).to) (bh l a (ao l g 1).b (ao l g 1).on)) (bU l a (aP g 0) (ao l g 0) (ao l g 1))
end
section
variable{E:Nat}{l:Li}{a:As}{g:Gr}
theorem RrrP.at{i k z0 z1 z2:Int}{j0 j1 j2:Jt}(h:RrrP E l a g i k z0 z1 z2 j0 j1 j2):ao l g 0=j0/\ao l g 1=j1/\ao l g 2=j2/\aP g 0=i/\aP g 1=k/\g.kind=1:=by
 rw[h.eq];exact⟨aq h.h0,aq h.h1,aq h.h2,rfl,rfl,rfl⟩
theorem SlP.at{kd i z0 z1:Int}{j0 j:Jt}(h:SlP E l a g kd i z0 z1 j0 j):ao l g 0=j0/\ao l g 1=j/\aP g 0=i/\g.kind=kd:=by
 rw[h.eq];exact⟨aq h.h0,aq h.h1,rfl,rfl⟩
end
section
variable{ts:LL}
def aB(p q:Et ts×Et ts):Et ts:=dB (aQ p q) (aQ p q)
theorem E3(q:Rat):am (qE q:Et ts)=bK q:=T.sgn_ofQ _ _ q
theorem oB(x:Rat):0<=x*x:=by
 rcases(Rat.le_total:0<=x\/x<=0)with h |h
 ·exact Rat.mul_nonneg h h
 ·have h1 : 0 <= -x := by grind
  have h2:=Rat.mul_nonneg h1 h1;grind
theorem RO(p q:Rat×Rat):0<=bF p q:=by
 unfold bF bY cq;have h1:=oB (p.1-q.1);have h2:=oB (p.2-q.2);dsimp only;grind
theorem Bq(p q:Rat×Rat):0<=am (qE (bF p q):Et ts):=by
 rw[E3];have h:=RO p q;unfold bK;split
 ·grind
 ·split <;> omega
def bn(p:Et ts×Et ts)(r:Et ts)(q:Et ts×Et ts)(s:Et ts):Et ts:=qE 4*(r*aB p q)-((r+aB p q)-s)*((r+aB p q)-s)
end
section
variable{E:Nat}{l:Li}{a:As}{g:Gr}
end
theorem DyOk.ne{E:Nat}{l:Li}{k:Int}{a:As}{own:Bool}{n:Nat}{i k2 z0 z1 z2:Int}(h:DyOk E l k a own n ⟨1,[i,k2],[z0,z1,z2],0⟩):i≠k2:=by
 have hd:=h.dy;generalize hg:(⟨1,[i,k2],[z0,z1,z2],0⟩:Gr)=g at hd;cases hd with
 |drv _ _ _ _=>simp at hg
 |pr _ _ _=>simp at hg
 |rp _ _ _=>simp at hg
 |rrr ne _ _ _ _ _ _=>simp at hg;obtain⟨⟨rfl,rfl⟩,_⟩:=hg;exact ne
structure Bulk{H:Type}(bk:DataW H->Nat)(bka:List (DataW H)->Nat):Prop where
  one:∀d,1<=bk d
  nil:bka []=0
  cons:∀d l,bka (d::l)=bk d+bka l
  slice:∀e s,bka e+1<=bk (.slice e s)
  agg:∀l,bka l<=bk (.agg l)
section
variable{P:Program}{W:World}{H:Type}{enc:TypeId×Value->H}{bk:DataW H->Nat}{bka:List (DataW H)->Nat}
theorem Bulk.pick(B:Bulk bk bka){α:Type}{m:α->Nat}:∀{l:List α}{xs:List (DataW H)},l.length<=xs.length->(∀(i:Nat)(a:α),l[i]?=some a->∃x,xs[i]?=some x/\m a<=bk x)->(l.map m).sum<=bka xs
 |[],xs,_,_=>by simp
 |a::l,[],hl,_=>by simp at hl
 |a::l,x::xs,hl,h=>by
  obtain⟨y,hy,h1⟩:=h 0 a rfl;cases hy;have h2:=B.pick (l:=l) (xs:=xs) (by simpa using hl) (fun i b hb=>h (i+1) b hb);rw[B.cons,Yi,List.sum_cons];omega
def tc(P:Program)(W:World)(enc:TypeId×Value->H)(bk:DataW H->Nat)(t:TypeId){α:Type}(f:α->AV)(p:α->Prop)(m:α->Nat):Prop :=
  ∀(sp:Nat->Bool)(fuel:Nat)(cs:List Value)(x:DataW H×List MemPlace),DataW.trod enc P W 0 sp true fuel t cs=some x->(∀n∈x.1.weights P t,n<=reachBytes)->∃a,p a/\mY W cs (f a).cells/\m a<=bk x.1
theorem dw.m{t:TypeId}{α:Type}{f:α->AV}{p:α->Prop}(h:dw P W enc t f p):tc P W enc bk t f p (fun _=>0):=by
 intro sp fuel cs x hx hw;obtain⟨a,h1,h2⟩:=h sp fuel cs x hx hw;exact⟨a,h1,h2,XJ _⟩
theorem dw.m1(B:Bulk bk bka){t:TypeId}{α:Type}{f:α->AV}{p:α->Prop}(h:dw P W enc t f p):tc P W enc bk t f p (fun _=>1):=by
 intro sp fuel cs x hx hw;obtain⟨a,h1,h2⟩:=h sp fuel cs x hx hw;exact⟨a,h1,h2,B.one _⟩
theorem tc.map{α β:Type}{t:TypeId}{f:α->AV}{p:α->Prop}{m:α->Nat}(h:tc P W enc bk t f p m)(g:α->β)(f':β->AV)(p':β->Prop)(m':β->Nat)(hg:∀a,p a->p' (g a)/\f' (g a)=f a/\m' (g a)<=m a):tc P W enc bk t f' p' m':=by
 intro sp fuel cs x hx hwt;obtain⟨a,ha,hc,hm⟩:=h sp fuel cs x hx hwt;obtain⟨h1,h2,h3⟩:=hg a ha;exact⟨g a,h1,by rw[h2];exact hc,XW h3 hm⟩
end
open Go.Proofs
section
variable{W:World}{H:Type}{enc:TypeId×Value->H}
theorem Ux:dw prog W enc 350 (fun n:Nat=>u32 n) (fun n=>n<4294967296) :=
 (FX (k:=.u32) Tryz.underlying350).map Int.toNat _ _ (fun n h=>by
  have h1:0<=n/\n<=4294967295:=by simpa[Lit.wf,IntKind.min,IntKind.max,IntKind.signed,IntKind.bits]using h
  have h2:((n.toNat:Nat):Int)=n:=by omega
  exact⟨by omega,by unfold u32;rw[h2]⟩)
theorem DI:dw prog W enc 43 ws (fun l=>Ws l/\l.length<=281474976710656) :=
 (ql Tryz.underlying43 (n:=1) (by kernel_rfl) oz (by kernel_rfl) Ux (fun _=>rfl)).map id _ _ (fun l h=>⟨⟨fun x hx=>h.1 x hx,h.2⟩,rfl⟩)
theorem Hi:dw prog W enc 4 bl (fun _=>True):=P4 Tryz.underlying4
theorem ow:dw prog W enc 3 i64 (fun _=>True):=(FX (k:=.i64) Tryz.underlying3).map id _ _ (fun n h=>⟨trivial,rfl⟩)
theorem s6:dw prog W enc 9 (fun s:ByteArray=>AV.v (.string s)) (fun s=>s.size<=281474976710656):=RV Tryz.underlying9
theorem At:dw prog W enc 45 Rt.av Rt.wok :=
 (oX (n := 3) Tryz.underlying45 (by kernel_rfl)
  (.cons rfl (n:=1) (by kernel_rfl) Hi (fun _=>rfl) (.cons rfl (n:=1) (by kernel_rfl) DI (fun _=>rfl) (.cons rfl (n:=1) (by kernel_rfl) DI (fun _=>rfl) (.nil _)))) (fun _=>rfl)).map
  (fun z=>⟨z.1,z.2.1,z.2.2.1⟩) _ _ (fun z h=>⟨⟨h.2.1.1,h.2.2.1.1⟩,rfl⟩)
theorem Kg:dw prog W enc 47 Tn.av (fun x=>x.t.wok) :=
 (oX (n := 4) Tryz.underlying47 (by kernel_rfl) (.cons rfl (n := 3) (by kernel_rfl) At (fun _ => rfl) (.cons rfl (n := 1) (by kernel_rfl) Hi (fun _ => rfl) (.nil _))) (fun _ => rfl)).map
  (fun z=>⟨z.1,z.2.1⟩) _ _ (fun z h=>⟨h.1,rfl⟩)
theorem Rd:dw prog W enc 175 Mk.av (fun m=>m.name.size<=281474976710656/\m.x.wok/\m.y.wok) :=
 (oX (n := 7) Tryz.underlying175 (by kernel_rfl)
  (.cons rfl (n:=1) (by kernel_rfl) s6 (fun _=>rfl) (.cons rfl (n:=3) (by kernel_rfl) At (fun _=>rfl) (.cons rfl (n:=3) (by kernel_rfl) At (fun _=>rfl) (.nil _)))) (fun _=>rfl)).map
  (fun z=>⟨z.1,z.2.1,z.2.2.1⟩) _ _ (fun z h=>⟨⟨h.1,h.2.1,h.2.2.1⟩,rfl⟩)
theorem PF:dw prog W enc 173 Bd.av (fun b=>b.name.size<=281474976710656/\b.pts.length<=281474976710656/\∀m∈b.pts,m.name.size<=281474976710656/\m.x.wok/\m.y.wok) :=
 (oX (n := 2) Tryz.underlying173 (by kernel_rfl)
  (.cons rfl (n:=1) (by kernel_rfl) s6 (fun _=>rfl) (.cons rfl (n:=1) (by kernel_rfl) (ql Tryz.underlying171 (n:=7) (by kernel_rfl) oz (by kernel_rfl) Rd (fun _=>rfl)) (fun _=>rfl) (.nil _))) (fun _=>rfl)).map
  (fun z=>⟨z.1,z.2.1⟩) _ _ (fun z h=>⟨⟨h.1,h.2.1.2,h.2.1.1⟩,rfl⟩)
theorem Ql:dw prog W enc 75 Jt.av (fun j=>j.name.size<=281474976710656) :=
 (oX (n := 7) Tryz.underlying75 (by kernel_rfl)
  (.cons rfl (n := 1) (by kernel_rfl) s6 (fun _ => rfl) (.cons rfl (n := 1) (by kernel_rfl) ow (fun _ => rfl) (.cons rfl (n := 1) (by kernel_rfl) ow (fun _ => rfl) (.cons rfl (n := 1) (by kernel_rfl) ow (fun _ => rfl)
   (.cons rfl (n:=1) (by kernel_rfl) ow (fun _=>rfl) (.cons rfl (n:=1) (by kernel_rfl) ow (fun _=>rfl) (.cons rfl (n:=1) (by kernel_rfl) ow (fun _=>rfl) (.nil _)))))))) (fun _=>rfl)).map
  (fun z=>⟨z.1,z.2.1,z.2.2.1,z.2.2.2.1,z.2.2.2.2.1,z.2.2.2.2.2.1,z.2.2.2.2.2.2.1⟩) _ _ (fun z h=>⟨h.1,rfl⟩)
theorem Vp:dw prog W enc 185 Dr.av (fun d=>d.name.size<=281474976710656) :=
 (oX (n := 2) Tryz.underlying185 (by kernel_rfl) (.cons rfl (n := 1) (by kernel_rfl) s6 (fun _ => rfl) (.cons rfl (n := 1) (by kernel_rfl) ow (fun _ => rfl) (.nil _))) (fun _ => rfl)).map
  (fun z=>⟨z.1,z.2.1⟩) _ _ (fun z h=>⟨h.1,rfl⟩)
abbrev UZ(l:Li):List AV:=[.v (.string l.name),.lst 2 (l.bo.map Bd.av),.lst 7 (l.jo.map Jt.av),.lst 2 (l.dv.map Dr.av)]
theorem R6:dw prog W enc 26 (fun l:Li=>.agg (UZ l)) Li.okw :=
 (oX (n := 4) Tryz.underlying26 (by kernel_rfl)
  (.cons rfl (n := 1) (by kernel_rfl) s6 (fun _ => rfl)
   (.cons rfl (n := 1) (by kernel_rfl) (ql Tryz.underlying22 (n := 2) (by kernel_rfl) oz (by kernel_rfl) PF (fun _ => rfl)) (fun _ => rfl)
    (.cons rfl (n := 1) (by kernel_rfl) (ql Tryz.underlying23 (n := 7) (by kernel_rfl) oz (by kernel_rfl) Ql (fun _ => rfl)) (fun _ => rfl)
     (.cons rfl (n:=1) (by kernel_rfl) (ql Tryz.underlying24 (n:=2) (by kernel_rfl) oz (by kernel_rfl) Vp (fun _=>rfl)) (fun _=>rfl) (.nil _))))) (fun _=>rfl)).map
  (fun z=>⟨z.1,z.2.1,z.2.2.1,z.2.2.2.1⟩) _ _ (fun z h=>⟨⟨h.1,h.2.1.1,h.2.2.1.1,h.2.2.2.1.1,h.2.1.2,h.2.2.1.2,h.2.2.2.1.2⟩,rfl⟩)
theorem Qu:dw prog W enc 88 (fun l:List Tn=>.lst 4 (l.map Tn.av)) (fun l=>(∀x∈l,x.t.wok)/\l.length<=281474976710656) :=
 ql Tryz.underlying88 (n:=4) (by kernel_rfl) oz (by kernel_rfl) Kg (fun _=>rfl)
end
open Go.Proofs Go.Proofs.YtpdiojikejnehaaGreat
open Go.ChangeShapes Go.WideShapes Go.ChangeAt Go.RowKit
theorem own:ownKnob prog.godebug=none:=by kernel_rfl
theorem Jm:laidOutB prog=true:=by kernel_rfl
theorem VC:prog.stopsHeard=true:=by kernel_rfl
theorem Qo:prog.plainKeys=true:=by kernel_rfl
theorem NE:mapsRowed prog=true:=by kernel_rfl
theorem Rj:prog.mayEnter=true:=by kernel_rfl
theorem K6:prog.liftsFinal=false:=by kernel_rfl
theorem KX{v:Value}(h:∀cs,v≠.agg cs):v.cells=#[v]:=by
 cases v <;> first |rfl |exact absurd rfl (h _)
theorem V0{P:Program}{W:World}{r:Reach}{b0:Nat}{t e:TypeId}{v:Value}(ht:P.underlying t=some (.slice e))(hval:Value.okWide P W r b0 t v):v.cells=#[v]:=by
 refine KX (fun cs h=>?_);subst h;unfold Value.okWide at hval;rw[ht]at hval;unfold Cell.okWide at hval;rw[ht]at hval;unfold Cell.ok at hval;rw[ht]at hval;exact hval
theorem Hf{H:Type}{enc:TypeId×Value->H}{W W':World}{t:TypeId}{v:Value}{d:DataW H}{ps:List MemPlace}{sp':Nat->Bool}(hr:prog.readableRec t=true)(ht:t<prog.types.size)
  (h:DataW.Trod enc prog W 0 (fun _=>true) true t v d ps) (hb:Below W.heap.size W W') (hlt:∀x∈ps,x.block<W.heap.size) (hs:∀p∈ps,sp' p.block=true):DataW.Trod enc prog W' 0 sp' true t v d ps :=
 WideElems.Trod_stays Jm hr ht h (fun x hx=>hb.same (hlt x hx)) hs
end Go.Lw
namespace Go.Lw
open Go.Proofs
theorem Gl(m:List Nat)(hm:Ws m)(hl:m.length<=fH):FP 326 [ws m] (bl (!decide (m=[])&&(⟨false,m⟩:Wh).valid)):=by
 refine aj func326 ?_;refine gl ?_;refine cQ ?_;refine oF (fun h=>(ji (by simp[aa]at h;omega) (by unfold fH at hl;unfold a8;exact XW hl oz))) ?_;refine oO (fun h=>(ci (i:=m.length-1) (by simp[aa]at h;omega))) ?_;refine af ?_
 by_cases h:m=[]
 ·subst h;rfl
 ·have h1:0 < m.length:=List.length_pos_iff.2 h;have h2:aa .gtr (m.length:Int) 0 = true:=by simp [aa,h1]
  simp only[bl,h,decide_false,Bool.not_false,Bool.true_and,Wh.valid,List.getLast?_eq_getElem?,iY (show m.length-1<m.length by omega),aa];congr 2;generalize ah m _=x;rw[Bool.eq_iff_iff];simp[h1]
theorem zI:FP 189 [] (zA 1):=by
 refine aj func189 ?_;refine gc (FM 1 oz) ?_;refine af ?_
 first |rfl |(simp;done)
theorem BC(r:Rt)(h:r.ok):FP 236 [r.av] (bl r.valid):=by
 have hr:=h;have hn:=h.n0;have hd:=h.d0;have hl1:r.num.length<=137438953472:=h.2.2.1;have hl2:r.den.length<=137438953472:=h.2.2.2;refine aj func236 ?_;refine gl ?_;refine cQ ?_;refine gC (fun t12=>?_) (fun t12=>?_)
 ·have h0 : r.num = [] /\ r.den = [] := by simpa [aa] using t12
  refine af ?_;unfold Rt.valid;rw[Yl h0];rfl
 have h0:¬(r.num=[]/\r.den=[]):=by
  have:=t12;simp[aa]at this;exact fun h=>this h.1 h.2
 refine gc (Gl r.num hr.1 hr.2.2.1) ?_;refine b7 (fun _=>(Gl r.den hr.2.1 hr.2.2.2)) ?_;refine b7 (fun _=>(Fk r.n0 r.d0 hn hd (by show r.num.length+r.den.length<_;unfold aD;omega))) ?_;refine b7 (fun _=>zI) ?_;refine b7 (fun _=>(Od (Rt.gcd_zs hr) ve)) ?_;refine af ?_;exact congrArg bl (We h0).symm
theorem xd(r:Rt)(h:r.ok):FP 220 [r.av] (.tup [zA r.q.num,zA r.q.den]):=by
 have hl1:r.num.length<=137438953472:=h.2.2.1;have hl2:r.den.length<=137438953472:=h.2.2.2;refine aj func220 ?_;refine gc (BC r h) ?_;refine cQ ?_;refine gC (fun t12=>?_) (fun t12=>?_)
 ·have h0:¬(r.valid=true/\r.num≠[]):=by
   have:=t12;intro h';simp[aa,h'.1,h'.2]at this
  refine gc zI ?_;refine gR ?_;exact dF (by rw[Rt.zero h0];exact Sub.tup (.cons I5 (.cons (.refl _) .nil)))
 have h0:r.valid=true/\r.num≠[]:=by
  have:=t12;cases hv:r.valid
  ·rw[hv]at this;cases this
  ·rw[hv]at this;exact⟨rfl,by simpa[aa]using this⟩
 obtain⟨e1,e2,e3,e4,e5,e6⟩:=Rt.parts h h0.1 h0.2;refine gD ?_;refine bp ?_;rw[e1,e2];exact Gq e3 e4 e5
theorem Ao{n d:Int}(hn:Zs n)(hd:Zs d)(h0:d≠0):FP 187 [zA n,zA d] (qA (Rat.divInt n d)):=by
 refine aj func187 ?_;refine gc (AZ hn) ?_;refine gC (fun t14=>?_) (fun t14=>?_)
 ·have e0 : n=0 := Int.sign_eq_zero_iff_zero.1 (by simpa[aa]using t14);refine gR ?_;exact l0 (by rw[e0,Rat.zero_divInt];exact jx)
 have e0:n≠0:=fun h=>by rw[h]at t14;cases t14
 refine gc (AZ hd) ?_;refine yc [2,3,4] [4] (fun(n1 d1:Int)=>[]) (fun n1 d1=>[(2,some (.box (zA n1).cells)),(3,some (.box (zA d1).cells))]) (fun n1 d1=>0<d1/\n1≠0/\Zs n1/\Zs d1/\Rat.divInt n1 d1=Rat.divInt n d) ?_ ?_
 ·intro K1 J1;refine gC (fun t18=>?_) (fun t18=>?_)
  ·have e1 : d<0 := Int.sign_eq_neg_one_iff_neg.1 (by have := Int.sign_trichotomy d;have h9 : d.sign<0 := (by simpa[aa]using t18);omega);refine gc (yQ hn) ?_;refine gc (yQ hd) ?_;refine gD ?_;exact pW J1 (-n) (-d) ⟨by omega,by omega,hn.neg,hd.neg,Fa n d⟩
  have e1:0<d:=by
   have h9:0<=d.sign:=by simpa[aa]using t18
   have:=Int.sign_nonneg_iff.1 h9;omega
  exact pW J1 n d ⟨e1,e0,hn,hd,rfl⟩
 rintro n1 d1 ⟨f1,f2,f3,f4,f5⟩;have g2:Zs (Int.gcd n1 d1:Int):=f3.of_le (by rw[X4];exact Nat.le_of_dvd oz (Int.gcd_dvd_natAbs_left _ _));have g3:(Int.gcd n1 d1:Int)≠0:=by have:=Int.gcd_pos_of_ne_zero_left d1 f2;omega
 refine gc (Xn f3 f4) ?_;refine gc (HO f3 g2 g3) ?_;refine gc (HO f4 g2 g3) ?_;refine af ?_;rw[<- f5,<- Mg f1 f2];rfl
theorem Js(n:Int)(h:-9223372036854775808<=n/\n<=9223372036854775807):FP 88 [i64 n] (qA n):=by
 have hz:Zs n:=⟨2,by omega,by unfold Lz;simp only[Nat.reducePow];omega⟩
 refine aj func88 ?_;refine gc (FM n h) ?_;refine gc zI ?_;refine gc (Ao hz ve oz) ?_;refine af ?_;exact congrArg qA (Rat.num_divInt_den (n:Rat))
theorem V6(a:Rt)(ha:a.ok):FP 222 [a.av] (qA (-a.q)):=by
 have za:=ha.qs;refine aj func222 ?_;refine gc (xd a ha) ?_;refine gc (yQ za.num) ?_;refine gc (Ao za.num.neg za.den (by have:=a.q.den_nz;omega)) ?_;refine gD ?_;refine af ?_;rw[II];rfl
theorem WG(a:Rt)(ha:a.ok):FP 107 [a.av] (i64 (bK a.q)):=by
 refine aj func107 ?_;refine gc (xd a ha) ?_;refine gc (AZ ha.qs.num) ?_;refine af ?_;rw[Is]
theorem K8(a b:Rt)(ha:a.ok)(hb:b.ok):FP 139 [a.av,b.av] (qA (a.q+b.q)):=by
 have za:=ha.qs;have zb:=hb.qs;have m1:=za.mul zb;have m2:=zb.mul za;refine aj func139 ?_;refine gc (xd a ha) ?_;refine gc (xd b hb) ?_;refine gc (yF za.num zb.den) ?_;refine gc (yF zb.num za.den) ?_;refine gc (M2 m1.1 m2.1) ?_;refine gc (yF za.den zb.den) ?_;refine gc (Ao (za.cross zb) m1.2.2.1 (Int.mul_ne_zero (by have:=a.q.den_nz;omega) (by have:=b.q.den_nz;omega))) ?_;refine gD ?_;refine af ?_;rw[BH];rfl
theorem Ke(a b:Rt)(ha:a.ok)(hb:b.ok):FP 108 [a.av,b.av] (qA (a.q-b.q)):=by
 refine aj func108 ?_;refine gc (V6 b hb) ?_;refine gc (K8 a (rt (-b.q)) ha hb.qs.neg.ok) ?_;refine gD ?_;refine af ?_;rw[bV,<- Rat.sub_eq_add_neg];rfl
theorem Dh(a b:Rt)(ha:a.ok)(hb:b.ok)(hs:Qs (a.q-b.q)):FP 38 [a.av,b.av] (i64 (bK (a.q-b.q))):=by
 refine aj func38 ?_;refine gc (Ke a b ha hb) ?_;refine gc (WG (rt (a.q-b.q)) hs.ok) ?_;refine af ?_;rw[bV]
theorem sT{α:Type}(f:α->AV)(l:List α)(hl:l.length<=281474976710656):FP 318 [.lst 3 (l.map f)] (i64 (fE l.length)):=by
 refine aj func318 ?_;refine aW [0] [] (fun(k:Nat)=>[(3,some (i64 k))]) (fun _=>[]) (fun k=>k<=48/\∀j,j<k->2^j<l.length) (fun k=>48-k) 0 ⟨by omega,fun j h=>by omega⟩ ?_;rintro k ⟨hk,hj⟩ K1 J1;refine gs (iU (.const _) (.tmp rfl) oz (rW oz) rfl) ?_;refine gl ?_;refine gC (fun t8=>?_) (fun t8=>?_)
 ·have h1 : 2 ^ k < l.length := by have := t8; simp only [aa, decide_eq_true_eq] at this; omega
  have h2:k<48:=by
   rcases XH k 48 with h |h
   ·exact h
   ·have:2 ^ 48 <= 2 ^ k:=cM h;have:(2:Nat) ^ 48 = 281474976710656:=by decide
    omega
  refine ga (du oz) ?_;exact aO J1 (k+1) ⟨by omega,fun j h=>by rcases XH j k with h3 |h3;exact hj j h3;(have:j=k:=by omega);subst this;exact h1⟩
 have h1:l.length<=2^k:=by have:=t8;simp only[aa,decide_eq_false_iff_not]at this;omega
 have h2:=EU hj h1;refine gs (iU (.const _) (.tmp rfl) oz (rW oz) rfl) ?_;refine gl ?_;refine gC (fun t15=>?_) (fun t15=>?_)
 ·have h3 : 2 ^ k ≠ l.length := by have := t15; simp only [aa, bne_iff_ne, ne_eq] at this; omega
  refine af ?_;unfold fE;rw[h2,Yk h3];rfl
 have h3:2^k=l.length:=by have:=t15;simp only[aa,bne_eq_false_iff_eq]at this;omega
 refine af ?_;unfold fE;rw[h2,Yl h3]
theorem Eh(ts:List (List Rt))(a:List Rt)(ha:∀r∈a,r.ok)(hl:a.length<=281474976710656)(ht:ts.length<=281474976710656):FP 252 [dI ts,nR a] (br (cG ts.length a)):=by
 refine aj func252 ?_;refine gl ?_;refine BK [1,4] [] [] [] (¬(a≠[]/\(fE a.length<0\/(ts.length:Int)<fE a.length))) ?_ ?_
 ·intro K1 J1;refine gC (fun t10=>?_) (fun t10=>?_)
  ·have h0 : a ≠ [] := fun h => by rw [h] at t10; simp [aa] at t10
   refine gc (sT Rt.av a hl) ?_;refine cQ ?_;refine gC (fun t21=>?_) (fun t21=>?_)
   ·have h1:fE a.length<0\/(ts.length:Int)<fE a.length:=by
     have h9:=t21
     by_cases h:fE a.length<0
     ·exact .inl h
     ·simp only[aa,decide_eq_false h,cond_false,decide_eq_true_eq]at h9;exact .inr h9
    refine af ?_;unfold cG;rw[Yl ⟨h0,h1⟩];rfl
   have h1:¬(fE a.length<0\/(ts.length:Int)<fE a.length):=by
    have h9:=t21
    by_cases h:fE a.length<0
    ·simp only[aa,decide_eq_true h,cond_true]at h9;cases h9
    ·simp only[aa,decide_eq_false h,cond_false,decide_eq_false_iff_not]at h9;exact fun h'=>h'.elim h h9
   exact o9 J1 (fun h=>h1 h.2)
  have h0:a=[]:=by
   cases a with
   |nil=>rfl
   |cons c l=>simp[aa]at t10
  exact o9 J1 (fun h=>h.1 h0)
 rintro hn;refine gl ?_;refine aW [23,24] [] (fun(i:Nat)=>[(25,some (i64 i))]) (fun _=>[]) (fun i=>i<=a.length/\(a.take i).all Rt.valid=true) (fun i=>a.length-i) 0 ⟨XJ _,by simp⟩ ?_;rintro i ⟨hi,hv⟩ K2 J2;refine gC (fun t26=>?_) (fun t26=>?_)
 ·have hin : i < a.length := by simpa [aa] using t26
  obtain⟨r,hr⟩:=aw hin;have hrok:=ha r (Xx hr);refine gi (aE hr) ?_;refine gc (s9 r hrok) ?_;refine gC (fun t31=>?_) (fun t31=>?_)
  ·have hrv : r.valid = false := by simpa using t31
   refine af ?_;unfold cG;rw[Yk hn,Yk]
   ·rfl
   ·rw[X9];intro h;rw[h r (Xx hr)]at hrv;cases hrv
  have hrv:r.valid=true:=by simpa using t31
  refine ga aN ?_;exact aO J2 (i+1) ⟨by omega,by rw[dR hr,List.all_append,hv];simp[hrv]⟩
 have hin:i=a.length:=by have:a.length<=i:=(by simpa[aa]using t26);omega
 subst hin;rw[XP]at hv;refine af ?_;unfold cG;rw[Yk hn,Yl hv];rfl
theorem HD(a:List Rat)(ha:∀q∈a,Qs q)(hl:a.length<=281474976710656):FP 329 [nA a] (bl (bH a)):=by
 refine aj func329 ?_;refine gl ?_;refine aW [5,6] [] (fun(i:Nat)=>[(7,some (i64 i))]) (fun _=>[]) (fun i=>i<=a.length/\bH (a.take i)=true) (fun i=>a.length-i) 0 ⟨XJ _,by simp[bH]⟩ ?_;rintro i ⟨hi,hv⟩ K1 J1;refine gC (fun t8=>?_) (fun t8=>?_)
 ·have hin : i < a.length := by simpa [aa] using t8
  obtain⟨q,hq⟩:=aw hin;have hqs:=ha q (Xx hq);refine gi (aE hq) ?_;refine gc (vf (rt q) hqs.ok) ?_;refine gC (fun t13=>?_) (fun t13=>?_)
  ·have h0:q≠0:=by
    intro h;have h9:=t13;rw[bV,h]at h9;cases h9
   refine af ?_
   have:bH a=false:=by
    rw[Bool.eq_false_iff];intro h;exact h0 (by simpa using List.all_eq_true.1 h q (Xx hq))
   rw[this];rfl
  have h0:q=0:=by
   have h9:bK q=0:=by have:=t13;rw[bV]at this;simpa[aa]using this
   exact qL h9
  refine ga aN ?_;exact aO J1 (i+1) ⟨by omega,by rw[dR hq];simp only[bH,List.all_append,XF];exact⟨hv,by simp[h0]⟩⟩
 have hin:i=a.length:=by have:a.length<=i:=(by simpa[aa]using t8);omega
 subst hin;rw[XP]at hv;refine af ?_;rw[hv];rfl
theorem JI(a:List Rat)(hl:a.length<=281474976710656):FP 328 [nA a] (bl (bH a)):=by
 refine aj func328 ?_;refine gl ?_;refine aW [5,6] [] (fun(i:Nat)=>[(7,some (i64 i))]) (fun _=>[]) (fun i=>i<=a.length/\bH (a.take i)=true) (fun i=>a.length-i) 0 ⟨XJ _,by simp[bH]⟩ ?_;rintro i ⟨hi,hv⟩ K1 J1;refine gC (fun t8=>?_) (fun t8=>?_)
 ·have hin : i < a.length := by simpa [aa] using t8
  obtain⟨q,hq⟩:=aw hin;refine gi (aE hq) ?_;refine cQ ?_;refine cQ ?_;refine gC (fun t24=>?_) (fun t24=>?_)
  ·have h0:q≠0:=UP t24;refine af ?_
   have:bH a=false:=by
    rw[Bool.eq_false_iff];intro h;exact h0 (by simpa using List.all_eq_true.1 h q (Xx hq))
   rw[this];rfl
  have h0:q=0:=MY t24;refine ga aN ?_;exact aO J1 (i+1) ⟨by omega,by rw[dR hq];simp only[bH,List.all_append,XF];exact⟨hv,by simp[h0]⟩⟩
 have hin:i=a.length:=by have:a.length<=i:=(by simpa[aa]using t8);omega
 subst hin;rw[XP]at hv;refine af ?_;rw[hv];rfl
theorem Bp(a:List Rat)(ha:∀q∈a,Qs q)(hl:a.length<=1099511627776):FP 278 [nA a] (nA a):=by
 refine aj func278 ?_;refine gl ?_;refine gW (Wk.virt 900 3 rfl) ?_;refine aW [6,7] [] (fun(i:Nat)=>[(3,some (.ms 900 3 0 i)),(8,some (i64 i))]) (fun i=>[(900,some (.row 3 ((a.take i).map qA)))]) (fun i=>i<=a.length) (fun i=>a.length-i) 0 (XJ _) ?_;rintro i hi K1 J1;refine gC (fun t9=>?_) (fun t9=>?_) (st2:=(7,0))
 ·have hin : i < a.length := by simpa [aa] using t9
  obtain⟨q,hq⟩:=aw hin;have hqs:=(ha q (Xx hq)).ok;have hl1:(rt q).num.length<=137438953472:=hqs.2.2.1;have hl2:(rt q).den.length<=137438953472:=hqs.2.2.2;refine gi (aE hq) ?_;refine gs (iK T43 rfl T350 rfl rfl rfl) ?_;refine gs (oJ (.tmp rfl) rfl rfl (.tmp rfl) T43 rfl T350 rfl rfl (by simp only[XA];omega) rfl rfl) ?_;refine gs (iK T43 rfl T350 rfl rfl rfl) ?_;refine gs (oJ (.tmp rfl) rfl rfl (.tmp rfl) T43 rfl T350 rfl rfl (by simp only[XA];omega) rfl rfl) ?_;refine gs (bX (.tmp rfl) rfl (by simp;omega) (.tmp rfl) T67 rfl T45 rfl rfl (by simp;omega) rfl rfl) ?_;refine gD ?_ (6,0);refine gW (Wk.of (sl:=[(3,some (.ms 25 3 0 (i+1))),(6,some (nA a)),(7,some (i64 a.length)),(8,some (i64 i))]) (hp:=[(25,some (.row 3 ((a.take (i+1)).map qA)))]) aZ (.cons rfl (BlkSub.of (by rw[dR hq,XQ];rfl)) .nil)) ?_ (6,0);refine gW (Wk.rk (k:=25) (d:=900) rfl rfl) ?_;refine ga aN ?_;exact aO J1 (i+1) hin
 have hin:i=a.length:=by have:a.length<=i:=(by simpa[aa]using t9);omega
 subst hin;refine gW ((Wk.freeze (k:=900) rfl).trans<|Wk.of (sl:=[(3,some (nA a))]) (hp:=[]) (.cons rfl (Sub.of (by rw[bJ (by simp),XP];rfl)) .nil) .nil) ?_;refine af ?_;rfl
theorem lC{n:Nat}(a:List Rat)(hn:n<=5)(ha:Nl n a)(hs:∀q∈a,Qs q):FP 237 [nA a] (nA (sh n (ae n a))):=by
 have hl:=ha.len5 hn;rw[<- O0 ha hn];refine aj func237 ?_;refine gc (sT qA a oz) ?_;refine gl ?_;refine gC (fun t17=>?_) (fun t17=>?_) (st1:=(3,0));exact absurd t17 (by rcases ha with rfl |⟨j,hj,h⟩;(simp[aa]);(rw[h,tY];simp[aa];omega));refine gl ?_;refine aW [0] [] (fun(m:Nat)=>[(4,some (i64 m))]) (fun _=>[]) (fun m=>mG a m) (fun m=>m) a.length (Xk (ha.mono hn)) ?_;rintro m hm K1 J1;refine gs (fq rfl rfl rfl (fun h=>kq (.opt rfl (o1 h)) (.const _) oz (nU (by have:=hm.le;omega)) rfl)) ?_;refine gs (fq rfl rfl rfl (fun h=>eW (.opt rfl (o1 h)) (.some _ (.opt rfl (o1 h)) oz) (.some _ (.opt rfl (o1 h)) oz) T67 rfl T45 rfl oz (by have:=hm.le;simp;omega) rfl)) ?_;refine b7 (fun _=>(by have h9:=JI ((a.drop (m/2)).take (m-m/2)) (by simp;omega);rw[<- yz]at h9;exact h9)) ?_;refine gC (fun t31=>?_) (fun t31=>?_)
 ·have h1:1<m/\bH ((a.drop (m/2)).take (m-m/2))=true:=by
   have h9:=t31
   by_cases h:(m:Int)>1
   ·simp only[aa,decide_eq_true h,cond_true]at h9;exact⟨by omega,h9⟩
   ·simp only[aa,decide_eq_false h,cond_false]at h9;cases h9
  refine gs (kq (.tmp rfl) (.const _) oz (nU (by have:=hm.le;omega)) rfl) ?_;exact aO J1 (m/2) (S6 hm h1.1 h1.2)
 have h1:1<m->bH ((a.drop (m/2)).take (m-m/2))=false:=by
  intro h;have h9:=t31;simp only[aa,decide_eq_true (show(m:Int)>1 by omega),cond_true]at h9;exact h9
 refine gs (fq rfl rfl rfl (fun h=>eW (.opt rfl (o1 h)) (.none _) (.some _ (.const _) oz) T67 rfl T45 rfl oz (by have h8:(m:Int)=1:=(by simpa[aa]using h);have:=hm.le;simp only[XA];omega) rfl)) ?_;refine b7 (fun _=>(by have h9:=JI ((a.drop 0).take 1) (by simp;omega);rw[<- yz]at h9;exact h9)) ?_;refine gC (fun t40=>?_) (fun t40=>?_)
 ·have h2:m=1/\bH (a.take 1)=true:=by
   have h9:=t40
   by_cases h:m=1
   ·rw[h]at h9;exact⟨h,h9⟩
   ·rw[show aa .eql (m:Int) 1=false by simp[aa];omega]at h9;cases h9
  obtain⟨rfl,h3⟩:=h2;refine gR ?_;exact l0 (by rw[Ry hm h3];exact Sub.nil _ _ _)
 have h2:m=1->bH (a.take 1)=false:=by
  intro h;have h9:=t40;rw[h]at h9;exact h9
 have h3:=PI hm h1 h2;refine gs (eW (.tmp rfl) (.none _) (.some _ (.tmp rfl) oz) T67 rfl T45 rfl oz (by have:=hm.le;simp;omega) rfl) ?_;refine gc (by have h9:=Bp ((a.drop 0).take m) (fun q hq=>hs q (List.mem_of_mem_drop (List.mem_of_mem_take hq))) (by simp;omega);have h8:=h9;rw[<- yz]at h9;exact h9) ?_;refine af ?_;rw[h3];simp[nA,map_take]
theorem yh(d:Nat)(hd:Nat.blt d 1000=true)(a:List Rat)(n:Nat)(hl:a.length<=n)(hn:n<=1099511627776) :
  Con prog 331 [nA a,i64 n] [] (.ms d 3 0 n) [(d,some (.row 3 ((bT a n).map qA)))]:=by
 refine gF func331 (fun k z h=>by cases h) ?_;refine gs (gV (.tmp rfl) T67 rfl T45 rfl rfl oz (by dsimp only;omega) rfl) ?_;refine gs (L8 (.tmp rfl) rfl (by simp) (.tmp rfl) T67 rfl T45 rfl rfl (by simp;omega) rfl) ?_ (3,0);refine gW (Wk.of (sl:=[(5,some (.ms 7 3 0 n))]) (hp:=[(7,some (.row 3 ((bT a n).map qA)))]) (.cons rfl (Sub.of (by simp)) .nil) (.cons rfl (Gg a n hl) .nil)) ?_;refine gR ?_;exact az.own1 rfl hd rfl
theorem Cj(a:List Rat)(n:Nat)(hl:a.length<=n)(hn:n<=1099511627776):FP 331 [nA a,i64 n] (nA (bT a n)):=by
 have h:=Con.freeze (by rw[XA,fS hl];omega) (yh 0 rfl a n hl hn);rw[Yh,XR (by rw[XA,fS hl];exact XD _)]at h;exact h
theorem oH(a b:List Rat)(ha:∀q∈a,Qs q)(hb:∀q∈b,Qs q)(la:a.length<=1099511627776)(lb:b.length<=1099511627776):FP 239 [nA a,nA b] (nA (dH a b)):=by
 obtain⟨n,hn⟩:∃n,n=max a.length b.length:=⟨_,rfl⟩
 have hwa:=fS (show a.length<=n by omega);have hwb:=fS (show b.length<=n by omega);have hp:=fW (a:=a) (b:=b);rw[<- hn]at hp;have qa:∀q∈bT a n,Qs q:=fun q hq=>by rcases List.mem_append.1 hq with h |h;exact ha q h;(rw[(List.mem_replicate.1 h).2];exact Qs.zero)
 have qb:∀q∈bT b n,Qs q:=fun q hq=>by rcases List.mem_append.1 hq with h |h;exact hb q h;(rw[(List.mem_replicate.1 h).2];exact Qs.zero)
 refine aj func239 ?_;refine gl ?_;refine gl ?_;refine gs (vq (.tmp rfl) (.tmp rfl) rfl) ?_ (2,0);refine gW (Wk.of (sl:=[(0,some (nA a)),(1,some (nA b)),(5,some (i64 n))]) (hp:=[]) (.k (.k (.cons rfl (Sub.int oz) .nil))) .nil) ?_;refine go ?_;refine gt (aH (yh 900 rfl a n oz oz) (bB rfl rfl) aI rfl rfl) ?_;refine gc (Cj b n oz oz) ?_;refine aW [1,19] [] (fun(i:Nat)=>[(0,some (.ms 900 3 0 n)),(20,some (i64 i))]) (fun i=>[(900,some (.row 3 (((dH a b).take i++(bT a n).drop i).map qA)))]) (fun i=>i<=n) (fun i=>n-i) 0 (XJ _) ?_;rintro i hi K1 J1;refine gC (fun t21=>?_) (fun t21=>?_) (st2:=(8,0))
 ·have hin : i < n := by simpa [aa] using t21
  have hmx:=El (p:=dH a b) (w:=bT a n) (i:=i) oz oz;have hqa:=(qa _ (yN (i:=i) oz)).ok;have hqb:=(qb _ (yN (i:=i) oz)).ok;refine gs (b8 (n:=i) (.tmp rfl) (.tmp rfl) T67 rfl T45 rfl oz oz rfl) ?_;refine gs (ez (.tmp rfl) rfl (aE hmx) T45 rfl rfl rfl) ?_;refine gi (aE (getD_some (i:=i) (l:=bT b n) oz)) ?_;refine gc (ni (rt ((bT a n).getD i 0)) (rt ((bT b n).getD i 0)) hqa hqb) ?_;refine gs (b8 (n:=i) (.tmp rfl) (.tmp rfl) T67 rfl T45 rfl oz oz rfl) ?_;refine gs (dT (.tmp rfl) rfl (aE hmx) rfl (.tmp rfl) rfl rfl T45 rfl rfl) ?_;refine gD ?_ (7,0);refine gW (Wk.of (sl:=[(0,some (.ms 900 3 0 n)),(1,some (nA (bT b n))),(19,some (i64 n)),(20,some (i64 i))]) (hp:=[(900,some (.row 3 (((dH a b).take (i+1)++(bT a n).drop (i+1)).map qA)))]) aZ (.cons rfl (BlkSub.of (by rw[Ee oz oz (by rw[MI,<- hn,bV,bV])])) .nil)) ?_;refine ga aN ?_;exact aO J1 (i+1) hin
 have hin:i=n:=by have:n<=i:=(by simpa[aa]using t21);omega
 refine gW ((Wk.freeze (k:=900) rfl).trans<|Wk.of (sl:=[(0,some (nA (dH a b)))]) (hp:=[]) (.cons rfl (Sub.of (by rw[bJ (by simp;omega),hin,List.drop_of_length_le oz,XR oz,append_nil];rfl)) .nil) .nil) ?_;refine af ?_;rfl
theorem uf(a:List Rat)(ha:∀q∈a,Qs q)(la:a.length<=1099511627776):FP 240 [nA a] (nA (ee a)):=by
 obtain⟨n,hn⟩:∃n,n=a.length:=⟨_,rfl⟩
 refine aj func240 ?_;refine gl ?_;refine gs (gV (.tmp rfl) T67 rfl T45 rfl rfl oz (by dsimp only;omega) rfl) ?_ (2,0);refine gW (Wk.of (sl:=[(0,some (nA a)),(3,some (.ms 7 3 0 n))]) (hp:=[(7,some (.row 3 ((bT [] n).map qA)))]) (.k (.cons rfl (Sub.of (by simp[hn])) .nil)) (.cons rfl (BlkSub.of_ (Gg [] n (by simp)) (by rw[hn];rfl)) .nil)) ?_;refine gl ?_;refine aW [0] [] (fun(i:Nat)=>[(3,some (.ms 7 3 0 n)),(9,some (i64 n)),(10,some (i64 i))]) (fun i=>[(7,some (.row 3 (((ee a).take i++(bT [] n).drop i).map qA)))]) (fun i=>i<=n) (fun i=>n-i) 0 (XJ _) ?_ (h1:=(.k (.cons rfl (Sub.int oz) (.k .nil))));rintro i hi K1 J1;refine gC (fun t11=>?_) (fun t11=>?_) (st2:=(7,0))
 ·have hin : i < n := by simpa [aa] using t11
  have hm1:=jD (a:=a);have hm2:=fS (a:=[]) (n:=n) (by simp);have hmx:=El (p:=ee a) (w:=bT [] n) (i:=i) oz oz;have hqa:=(ha _ (yN (i:=i) oz)).ok;refine gi (aE (getD_some (i:=i) oz)) ?_;refine gc (uh (rt (a.getD i 0)) hqa) ?_;refine gs (b8 (n:=i) (.tmp rfl) (.tmp rfl) T67 rfl T45 rfl oz oz rfl) ?_;refine gs (dT (.tmp rfl) rfl (aE hmx) rfl (.tmp rfl) rfl rfl T45 rfl rfl) ?_ (6,0);refine gW (Wk.of (sl:=[(0,some (nA a)),(3,some (.ms 7 3 0 n)),(9,some (i64 n)),(10,some (i64 i))]) (hp:=[(7,some (.row 3 (((ee a).take (i+1)++(bT [] n).drop (i+1)).map qA)))]) aZ (.cons rfl (BlkSub.of (by rw[Ee oz oz (by rw[Oa,bV])])) .nil)) ?_;refine ga aN ?_;exact aO J1 (i+1) hin
 have hin:i=n:=by have:n<=i:=(by simpa[aa]using t11);omega
 have hm1:=jD (a:=a);have hm2:=fS (a:=[]) (n:=n) (by simp);refine gW ((Wk.freeze (k:=7) rfl).trans<|Wk.of (sl:=[(3,some (nA (ee a)))]) (hp:=[]) (.cons rfl (Sub.of (by rw[bJ (by simp;omega),hin,List.drop_of_length_le oz,XR oz,append_nil];rfl)) .nil) .nil) ?_;refine af ?_;rfl
theorem x6(a b:List Rat)(n:Nat)(la:a.length<=n)(lb:b.length<=n)(hn:n<=274877906944):FP 330 [nA a,nA b,i64 n] (nA (fy a b n)):=by
 refine aj func330 ?_;refine gt (aH (yh 900 rfl a n la oz) (bB rfl rfl) aI rfl rfl) ?_;refine gc (Cj b n lb oz) ?_;refine gs (oJ (.tmp rfl) rfl (by simp[fS la]) (.tmp rfl) T67 rfl T45 rfl rfl (by simp[fS lb];omega) rfl rfl) ?_;refine af ?_;rw[<- XQ];rfl
end Go.Lw
