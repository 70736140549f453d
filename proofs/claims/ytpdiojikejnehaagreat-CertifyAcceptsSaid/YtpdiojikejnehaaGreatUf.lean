/- CertifyAccepts: for any linkage, any turns and a further turn the law returns true and leaves its arguments as they were. No other condition. Part 6 of 8: what the later parts need -/
import Derived.Test.YtpdiojikejnehaaGreatUe
import Derived.Laws.Cover3
set_option linter.unusedVariables false
open List (mem_of_getElem? mem_append map_cons mem_cons length_cons length_append length_nil getD_eq_getElem?_getD getElem?_append_left all_eq_true getElem?_map getElem?_append_right getElem?_eq_getElem nil_append map_append length_take take_of_length_le take_length map_nil not_mem_nil length_map map_map length_replicate map_set length_set)
open Nat (le_refl lt_or_ge le_trans zero_le pow_add)
open Int (toNat_natCast)
open Go.Proofs.Tryz
namespace Go.Lw
open Go.Proofs
theorem Gc{α:Type}[BEq α][LawfulBEq α]{xs:List α}{b:α}{ok:Nat->Bool}(h:∀i x,xs[i]?=some x->ok i=!(b==x)):decide (0<=iX (bU xs.length ok))=xs.contains b:=by
 cases hf:bU xs.length ok with
 |some i =>
  obtain⟨h1,h2⟩:=eI hf;obtain⟨x,hx⟩:=ax h1;rw[h i x hx]at h2;have:b=x:=by simpa using h2
  subst this;rw[List.contains_iff_mem.2 (mem_of_getElem? hx)];exact decide_eq_true (by show(0:Int)<=(i:Int);omega)
 |none =>
  rw[decide_eq_false (by show ¬(0:Int) <= -1;decide)]
  symm
  rw[<- Bool.not_eq_true,List.contains_iff_mem];intro hm;obtain⟨i,hi⟩:=List.mem_iff_getElem?.1 hm;have hlt:=(List.getElem?_eq_some_iff.1 hi).1;unfold bU at hf;rw[List.find?_eq_none]at hf;have:=hf i (List.mem_range.2 hlt);rw[h i b hi]at this;simp at this
theorem O3(xs:List Bool)(b:Bool)(hl:xs.length<=281474976710656):FP 340 [.lst 1 (xs.map bl),bl b] (i64 (iX (bU xs.length (fun i=>!(b==xs.getD i false))))):=by
 refine ai func340 ?_;refine gl ?_;refine aN [0,1,7] [] (fun(i:Nat)=>[(8,some (i64 i))]) (fun _=>[]) (fun i=>i<=xs.length/\∀j,j<i->(!(b==xs.getD j false))=true) (fun i=>xs.length-i) 0 ⟨zero_le _,fun j h=>by omega⟩ ?_;rintro i ⟨hi,hj⟩ K1 J1;refine gC (fun t9=>?_) (fun t9=>?_)
 ·have hin:=aS t9;obtain⟨x,hx⟩:=ax hin;have hg:xs.getD i false=x:=aC hx;refine gi (aA hx) ?_;refine gC (fun t16=>?_) (fun t16=>?_)
  ·have h2:(b==x)=true:=t16;refine af ?_;rw[fL hin hj (by rw[hg,h2];rfl)];rfl
  have h2:(b==x)=false:=t16;refine ga aF ?_;exact aH J1 (i+1) ⟨hin,fun j h9=>by rcases lt_or_ge j i with g |g;exact hj j g;(have:j=i:=by omega);subst this;rw[hg,h2];rfl⟩
 have hin:=aZ hi t9;subst hin;refine af ?_;rw[eP hj];rfl
theorem Ft(xs:List Bool)(b:Bool)(hl:xs.length<=281474976710656):FP 251 [.lst 1 (xs.map bl),bl b] (bl (xs.contains b)):=by
 refine ai func251 ?_;refine gc (O3 xs b hl) ?_;refine af ?_;rw[<- Gc (xs:=xs) (b:=b) (ok:=fun i=>!(b==xs.getD i false)) (fun i x hx=>by rw[aC hx])];rfl
theorem Tg(xs:List Int)(b:Int)(hl:xs.length<=281474976710656):FP 341 [.lst 1 (xs.map i64),i64 b] (i64 (iX (bU xs.length (fun i=>!(b==xs.getD i 0))))):=by
 refine ai func341 ?_;refine gl ?_;refine aN [0,1,7] [] (fun(i:Nat)=>[(8,some (i64 i))]) (fun _=>[]) (fun i=>i<=xs.length/\∀j,j<i->(!(b==xs.getD j 0))=true) (fun i=>xs.length-i) 0 ⟨zero_le _,fun j h=>by omega⟩ ?_;rintro i ⟨hi,hj⟩ K1 J1;refine gC (fun t9=>?_) (fun t9=>?_)
 ·have hin:=aS t9;obtain⟨x,hx⟩:=ax hin;have hg:xs.getD i 0=x:=aC hx;refine gi (aA hx) ?_;refine gC (fun t16=>?_) (fun t16=>?_)
  ·have h2:(b==x)=true:=t16;refine af ?_;rw[fL hin hj (by rw[hg,h2];rfl)];rfl
  have h2:(b==x)=false:=t16;refine ga aF ?_;exact aH J1 (i+1) ⟨hin,fun j h9=>by rcases lt_or_ge j i with g |g;exact hj j g;(have:j=i:=by omega);subst this;rw[hg,h2];rfl⟩
 have hin:=aZ hi t9;subst hin;refine af ?_;rw[eP hj];rfl
theorem B5(xs:List Int)(b:Int)(hl:xs.length<=281474976710656):FP 253 [.lst 1 (xs.map i64),i64 b] (bl (xs.contains b)):=by
 refine ai func253 ?_;refine gc (Tg xs b hl) ?_;refine af ?_;rw[<- Gc (xs:=xs) (b:=b) (ok:=fun i=>!(b==xs.getD i 0)) (fun i x hx=>by rw[aC hx])];rfl
theorem G3(l:Li)(hl:l.ok):FP 143 [l.av] (.tup [.lst 4 (((if ay l=0 then splitG l else[])).map Gr.av),bg (if ay l=0 then splitE l else ay l)]):=by
 refine ai func143 ?_;refine gc (I1 l hl) (hnm:=(by unfold oF;split <;> rfl)) ?_;refine gC (fun t12=>?_) (fun t12=>?_) (st2:=(77777,0))
 ·have h1:=cE t12;refine gR ?_;exact dV (by rw[if_neg h1,if_neg h1];exact Sub.tup (.cons (.nil _ _ _) (.cons (.refl _) .nil)))
 have hli:=cC t12;have h8:=(cJ hli).2.2.2.1;have hj16:l.jo.length<=16:=by have:=(cJ hli).2.1;unfold ee at this;split at this;cases this;omega
 have lk1:(bH l).length=l.bo.length:=by unfold bH;rw[pU,gy]
 have lk2:(dA l).length=l.jo.length:=by unfold dA;rw[pU,length_replicate]
 have e1:oF l=.iptr (du l (bH l) (bK l) [.lst 1 ((dA l).map bl),.lst 4 ((findG l).map Gr.av)]):=by unfold oF;rw[if_pos hli]
 have c1:=tB (k:=bH l);have c2:=tB (k:=dA l);refine gW (Wk.of (sl:=[(4,some (.iptr (du l (bH l) (bK l) [.lst 1 ((dA l).map bl),.lst 4 ((findG l).map Gr.av)]))),(5,some (bg (ay l)))]) (hp:=[]) (.cons rfl (Sub.of e1) (.k .nil)) .nil) ?_;refine gc (Ft (bH l) false oz) ?_;refine bM (fun _=>(Ft (dA l) false oz)) ?_;refine gC (fun t25=>?_) (fun t25=>?_)
 ·have h2:splitE l=7:=by
   unfold splitE;rw[if_neg];intro h;have h3:(bH l).contains false=false:=c1.1 oz;have h4:(dA l).contains false=false:=c2.1 oz;rw[h3,h4]at t25;cases t25
  refine gR ?_;exact dV (by rw[if_pos hli,if_pos hli];unfold splitG;rw[if_neg (by rw[h2];simp),h2];exact Sub.tup (.cons (.nil _ _ _) (.cons (.refl _) .nil)))
 have h2:splitE l=0:=by
  unfold splitE;rw[if_pos];cases h3:(bH l).contains false <;> cases h4:(dA l).contains false <;> rw[h3,h4]at t25 <;> first |(cases t25;done) |(have g1:=c1.2 h3;have g2:=c2.2 h4;omega)
 refine bh ?_;rw[if_pos hli,if_pos hli,h2];unfold splitG;rw[if_pos h2];rfl
def SO(ys:List Int)(i:Nat):Prop:=∀p q,p<q->q<i->ys.getD p 0<=ys.getD q 0
def SI(ys:List Int)(i j:Nat):Prop:=∀p q,p<q->q<=i->q≠j->ys.getD p 0<=ys.getD q 0
theorem Si{xs ys:List Int}{i:Nat}(hp:ys.Perm xs)(hi:ys.length<=i)(h:SO ys i):ys=dX xs:=by
 refine N1 hp (List.pairwise_iff_getElem.2 fun p q hp hq hpq=>?_);have h1:=h p q hpq oz;rw[aC (getElem?_eq_getElem hp),aC (getElem?_eq_getElem hq)]at h1;exact h1
theorem SP{ys:List Int}{i:Nat}(h:SO ys i):SI ys i i:=fun p q h1 h2 h3=>h p q h1 oz
theorem UY{ys:List Int}{i j:Nat}(h:SI ys i j)(hj:j=0\/ys.getD (j-1) 0<=ys.getD j 0):SO ys (i+1):=by
 intro p q h1 h2
 by_cases hq:q=j
 ·subst hq;rcases hj with hj |hj
  ·omega
  ·by_cases hp:p=q-1
   ·subst hp;exact hj
   ·exact Int.le_trans (h p (q-1) oz oz oz) hj
 ·exact h p q h1 oz hq
theorem GJ(ys:List Int)(i:Nat)(x:Int)(p:Nat)(hi:i<ys.length):(ys.set i x).getD p 0=if p=i then x else ys.getD p 0:=by
 rw[getD_eq_getElem?_getD,getD_eq_getElem?_getD,List.getElem?_set]
 by_cases h:i=p
 ·subst h;simp[hi]
 ·rw[if_neg h,if_neg (fun e=>h e.symm)]
theorem P8{ys:List Int}{i j:Nat}(h:SI ys i j)(hj:0<j)(hi:j<=i)(hl:i<ys.length)(hlt:ys.getD j 0<ys.getD (j-1) 0):SI ((ys.set j (ys.getD (j-1) 0)).set (j-1) (ys.getD j 0)) i (j-1):=by
 intro p q h1 h2 h3
 have e:∀r,((ys.set j (ys.getD (j-1) 0)).set (j-1) (ys.getD j 0)).getD r 0=if r=j-1 then ys.getD j 0 else if r=j then ys.getD (j-1) 0 else ys.getD r 0:=fun r=>by
  rw[GJ _ _ _ _ (by rw[length_set];omega),GJ _ _ _ _ oz]
 rw[e,e,if_neg h3]
 by_cases hq:q=j
 ·rw[if_pos hq]
  by_cases hp:p=j-1
  ·rw[if_pos hp];omega
  ·rw[if_neg hp,if_neg oz];exact h p (j-1) oz oz oz
 ·rw[if_neg hq]
  by_cases hp:p=j-1
  ·rw[if_pos hp];exact h j q oz h2 hq
  ·rw[if_neg hp]
   by_cases hp2:p=j
   ·rw[if_pos hp2];exact h (j-1) q oz h2 hq
   ·rw[if_neg hp2];exact h p q h1 h2 hq
theorem QG{ys:List Int}{j:Nat}{a b:Int}(ha:ys[j]?=some a)(hb:ys[j-1]?=some b):((ys.set j b).set (j-1) a).Perm ys:=by
 obtain⟨h1,rfl⟩:=List.getElem?_eq_some_iff.1 ha;obtain⟨h2,rfl⟩:=List.getElem?_eq_some_iff.1 hb;exact List.set_set_perm h1 h2
theorem OW{j:Nat}{a b:Int}(h:cond (aa .gtr (j:Int) 0) (decide (a<b)) false=true):0<j/\a<b:=by
 cases h1:aa .gtr (j:Int) 0 <;> rw[h1]at h
 ·cases h
 ·exact⟨iH (b:=0) h1,of_decide_eq_true h⟩
theorem Pa{j:Nat}{a b:Int}(h:cond (aa .gtr (j:Int) 0) (decide (a<b)) false=false):j=0\/b<=a:=by
 cases h1:aa .gtr (j:Int) 0 <;> rw[h1]at h
 ·have:=gj (b:=0) h1;omega
 ·have h2:decide (a<b)=false:=h;have:=of_decide_eq_false h2;omega
theorem QT(ys:List Int)(j:Nat)(a b:Int):((ys.map i64).set j (i64 b)).set (j-1) (i64 a)=((ys.set j b).set (j-1) a).map i64:=by rw[map_set,map_set]
theorem CD(a:Int):FP 384 [i64 a] (bl false):=by
 refine ai func384 ?_;refine af ?_;simp[aa];rfl
theorem Lr(a b:Int):FP 348 [i64 a,i64 b] (bl (decide (a<b))):=by
 refine ai func348 ?_;refine gc (CD a) ?_;refine bM (fun _=>(CD b)) ?_;refine af ?_
 first |rfl |(simp;done)
theorem Ks(xs:List Int)(hl:xs.length<=12):Con prog 342 [.ms 1000 1 0 xs.length,i64 0,i64 xs.length] [(1000,some (.row 1 (xs.map i64)))] (.tup []) [(1000,some (.row 1 ((dX xs).map i64)))]:=by
 refine gF func342 (fun k z h=>bj h) ?_;refine ga (show _=((1:Nat):Int)from rfl) ?_;refine f0 [1,2] [] (fun(ys:List Int)(i:Nat)=>[(0,some (.ms 1000 1 0 xs.length)),(6,some (i64 i))]) (fun ys _=>[(1000,some (.row 1 (ys.map i64)))]) (fun ys i=>ys.length=xs.length/\ys.Perm xs/\1<=i/\SO ys i) (fun _ i=>xs.length+1-i) xs 1 ⟨rfl,.refl _,le_refl _,fun p q h1 h2=>by omega⟩ ?_;rintro ys i ⟨hyl,hyp,hi1,hso⟩ K1 J1;refine gC (fun t12=>?_) (fun t12=>?_)
 ·have hin:=aS t12;refine f0 [1,2,6] [] (fun (zs:List Int) (j:Nat)=>[(0,some (.ms 1000 1 0 xs.length)),(7,some (i64 j))]) (fun zs _=>[(1000,some (.row 1 (zs.map i64)))]) (fun zs j=>zs.length = xs.length /\ zs.Perm xs /\ j <= i /\ SI zs i j) (fun _ j=>j) ys i ⟨hyl,hyp,le_refl _,SP hso⟩ ?_;rintro zs j ⟨hzl,hzp,hji,hsi⟩ K2 J2;obtain ⟨a,ha⟩:=ax (show j < zs.length by omega);obtain ⟨b,hb⟩:=ax (show j - 1 < zs.length by omega);refine gs (d5 rfl rfl rfl (fun h=>bP (n:=j) (.opt rfl (o1 h)) (.opt rfl (o1 h)) T39 rfl T3 rfl oz oz rfl)) ?_;refine gs (d5 rfl rfl rfl (fun h=>dQ (.opt rfl (o1 h)) rfl (aA ha) T3 rfl rfl rfl)) ?_;refine m8 (fun h=>(iK (iH (b:=0) h) (by unfold aR; omega))) ?_;refine gs (d5 rfl rfl rfl (fun h=>bP (n:=(j - 1)) (.opt rfl (o1 h)) (.opt rfl (o1 h)) T39 rfl T3 rfl oz oz rfl)) ?_;refine gs (d5 rfl rfl rfl (fun h=>dQ (.opt rfl (o1 h)) rfl (aA hb) T3 rfl rfl rfl)) ?_;refine bM (fun _=>(Lr a b)) ?_;refine gD ?_;refine gC (fun t30=>?_) (fun t30=>?_)
  ·obtain⟨hj0,hab⟩:=OW t30;refine ga (iK hj0 (by unfold aR;omega)) ?_;refine ga (iK hj0 (by unfold aR;omega)) ?_;refine gs (bP (n:=(j-1)) (.tmp rfl) (.tmp rfl) T39 rfl T3 rfl oz oz rfl) ?_;refine gs (dQ (.tmp rfl) rfl (aA hb) T3 rfl rfl rfl) ?_;refine gs (bP (n:=j) (.tmp rfl) (.tmp rfl) T39 rfl T3 rfl oz oz rfl) ?_;refine gs (dQ (.tmp rfl) rfl (aA ha) T3 rfl rfl rfl) ?_;refine gs (bP (n:=j) (.tmp rfl) (.tmp rfl) T39 rfl T3 rfl oz oz rfl) ?_;refine gs (dk (.tmp rfl) rfl (aA ha) rfl (.tmp rfl) rfl rfl T3 rfl rfl) ?_;refine gs (bP (n:=(j-1)) (.tmp rfl) (.tmp rfl) T39 rfl T3 rfl oz oz rfl) ?_;refine gs (dk (.tmp rfl) rfl ((List.getElem?_set_ne oz).trans (aA hb)) rfl (.tmp rfl) rfl rfl T3 rfl rfl) ?_;refine gD ?_;refine ga (iK hj0 (by unfold aR;omega)) ?_;exact fC J2 ((zs.set j b).set (j-1) a) (j-1) ⟨by rw[length_set,length_set];exact hzl,(QG ha hb).trans hzp,by omega,by have h9:=P8 hsi hj0 hji oz (by rw[aC ha,aC hb];exact hab);rw[aC ha,aC hb]at h9;exact h9⟩ (hw:=Wk.of aW (.cons rfl (BlkSub.of (congrArg (Blk.row 1) (QT zs j a b))) .nil))
  have hs:=Pa t30;refine ga aF ?_;exact fC J1 zs (i+1) ⟨hzl,hzp,by omega,UY hsi (by rw[aC ha,aC hb];exact hs)⟩
 have hin:=sr t12;refine gR ?_;exact aq.own2 rfl (by rw[<- Si hyp oz hso]) rfl
theorem Iw(xs:List Int)(hl:xs.length<=12)(m:Int):Con prog 254 [.ms 1000 1 0 xs.length,i64 0,i64 xs.length,i64 m] [(1000,some (.row 1 (xs.map i64)))] (.tup []) [(1000,some (.row 1 ((dX xs).map i64)))]:=by
 refine gF func254 (fun k z h=>bj h) ?_;refine Kr [1,2,3,8,9] [1000] [(0,some (.ms 1000 1 0 xs.length))] [] (True) (0) trivial ?_;rintro-K1 J1;refine ga (dI oz) ?_;refine gC (fun t23=>?_) (fun t23=>?_) (st2:=(77777,0))
 ·refine gt (az (Ks xs hl) (aE rfl rfl rfl) aB rfl rfl) ?_;refine gR ?_;exact aq.own2 rfl rfl rfl
 (rw[show aa .leq ((xs.length:Int)-0) 12=true from decide_eq_true oz]at t23;cases t23)
theorem Ku(x:Nat)(hx:x<256):FP 352 [u64 x] (i64 (aV x)):=by
 refine ai func352 ?_;refine gC (fun t4=>?_) (fun t4=>?_) (st1:=(2,0))
 ·(have:=t4;simp[aa]at this;omega)
 refine gC (fun t8=>?_) (fun t8=>?_) (st1:=(5,0))
 ·(have:=t8;simp[aa]at this;omega)
 refine gC (fun t14=>?_) (fun t14=>?_) (st1:=(8,0))
 ·(have:=t14;simp[aa]at this;omega)
 refine gv (jb hx) ?_;refine gs (s8 (y:=x) (.const _) (.tmp rfl) T9 rfl (by kernel_rfl) (by first |rfl |omega) oz rfl) ?_;refine gv (i64_in (by have:=iA hx;omega)) ?_;refine ga (cV (by have:=iA hx;omega)) ?_;refine af ?_;simp only[i64];congr 2;omega
theorem RY(x:Nat)(hx:x<256):FP 255 [u64 x] (i64 (aV x)):=by
 refine ai func255 ?_;refine gC (fun hcfalse=>?_) (fun hcfalse=>?_) (st1:=(1,0));cases hcfalse;refine gc (Ku x hx) ?_;refine af ?_
 first |rfl |(simp;done)
theorem PS(xs:List Int)(hl:xs.length<=12):Con prog 146 [.ms 1000 1 0 xs.length] [(1000,some (.row 1 (xs.map i64)))] (.tup []) [(1000,some (.row 1 ((dX xs).map i64)))]:=by
 refine gF func146 (fun k z h=>bj h) ?_;refine gv (show IntKind.u64.wrap _=((xs.length:Nat):Int)from u64_in oz) ?_;refine gc (RY xs.length oz) ?_;refine gt (az (Iw xs hl _) (.cons (.tmp rfl) (.cons (.const _) (bm rfl rfl))) aB rfl rfl) ?_;refine gR ?_;exact aq.own2 rfl rfl rfl
theorem KC{l:Li}{g:Gr}{i:Nat}{z:Int}{j:Jt}(hz:g.jo[i]?=some z)(hj:l.jo[z.toNat]?=some j):(fq l g)[i]?=some (iQ g j):=by
 unfold fq;rw[getElem?_map,hz,Option.map_some,aC hj]
theorem wN{l:Li}{g:Gr}{i:Nat}{z:Int}{j:Jt}{a:Int}(hz:g.jo[i]?=some z)(hj:l.jo[z.toNat]?=some j)(ha:iQ g j=a):((fq l g).take i).map i64++[i64 a]=((fq l g).take (i+1)).map i64:=by
 rw[dG (KC hz hj),ha,map_append];rfl
theorem Kd{z:Int}{n:Nat}(h0:0<=z)(h1:z<n):cond (aa .lss z 0) true (aa .geq z (n:Int))=false:=by
 rw[show aa .lss z 0=false from decide_eq_false oz];exact decide_eq_false oz
theorem Px(l:Li)(hl:l.ok)(hli:ay l=0)(g:Gr)(hg:GrOk l g):Con prog 145 [l.av,g.av] [] (.tup [.ms 900 1 0 g.jo.length,.v .nilIface]) [(900,some (.row 1 ((fq l g).map i64)))]:=by
 have hlb:=hg.lb;have hlj:=hg.lj;refine gF func145 (fun k z h=>by cases h) ?_;refine gc (A6 l hl) ?_;refine gC (fun t16=>?_) (fun t16=>?_) (st1:=(3,0))
 ·(rw[hli]at t16;cases t16)
 refine gl ?_;refine gW ((Wk.virt 900 1 rfl).trans<|Wk.of (sl:=[(2,some (.ptr 2 0)),(3,some (.ptr 3 0)),(7,some (.ms 900 1 0 0)),(19,some (.lst 1 (g.jo.map i64))),(20,some (i64 g.jo.length)),(21,some (i64 0))]) (hp:=[(2,some (.box l.av.cells)),(3,some (.box g.av.cells)),(900,some (.row 1 []))]) (.k (.k (.cons rfl (Sub.nM _ _ _) (.k (.k (.k .nil)))))) (.k (.k (.k .nil)))) ?_;refine aN [2,3,19,20] [2,3] (fun(i:Nat)=>[(7,some (.ms 900 1 0 i)),(21,some (i64 i))]) (fun i=>[(900,some (.row 1 (((fq l g).take i).map i64)))]) (fun i=>i<=g.jo.length) (fun i=>g.jo.length-i) 0 (zero_le _) ?_;rintro i hi K1 J1;refine gC (fun t22=>?_) (fun t22=>?_) (st2:=(18,0))
 ·have hin:=aS t22;obtain ⟨z,hz⟩:=ax hin;obtain ⟨z0,z1⟩:=hg.j z (mem_of_getElem? hz);obtain ⟨j,hj⟩:∃ j,l.jo[z.toNat]? = some j:=ax oz;have hlt:(((fq l g).take i).map i64).length = i:=by rw [length_map,length_take,pR]; omega
  refine gi (aA hz) ?_;refine cF ?_;refine gC (fun t33=>?_) (fun t33=>?_) (st1:=(9,0))
  ·(rw[Kd z0 z1]at t33;cases t33)
  refine gi (gO (n:=z.toNat) oz hj) ?_;refine gc (B5 g.bo j.a oz) ?_;refine gc (B5 g.bo j.b oz) ?_;refine gD ?_;refine gC (fun t55=>?_) (fun t55=>?_)
  ·have ha : iQ g j = -1 := by unfold iQ; cases h1 : g.bo.contains j.a <;> cases h2 : g.bo.contains j.b <;> rw [h1, h2] at t55 <;> first | (cases t55; done) | rfl
   refine gs (ci (.tmp rfl) rfl hlt.symm (.tmp rfl) T39 rfl T3 rfl rfl (by simp only[length_cons,length_nil];omega) rfl rfl) ?_ (17,0);refine gW (Wk.of (sl:=[(2,some (.ptr 2 0)),(3,some (.ptr 3 0)),(7,some (.ms 62 1 0 (i+1))),(19,some (.lst 1 (g.jo.map i64))),(20,some (i64 g.jo.length)),(21,some (i64 i))]) (hp:=[(2,some (.box l.av.cells)),(3,some (.box g.av.cells)),(62,some (.row 1 (((fq l g).take (i+1)).map i64)))]) aW (.k (.k (.cons rfl (BlkSub.of (congrArg (Blk.row 1) (wN hz hj ha))) .nil)))) ?_ (17,0);refine gW (Wk.rk (k:=62) (d:=900) rfl rfl) ?_;refine ga aF ?_;exact aH J1 (i+1) hin
  refine gC (fun t63=>?_) (fun t63=>?_)
  ·have ha : iQ g j = j.b := by unfold iQ; cases h1 : g.bo.contains j.a <;> cases h2 : g.bo.contains j.b <;> rw [h1] at t63 <;> rw [h1, h2] at t55 <;> first | (cases t55; done) | (cases t63; done) | rfl
   refine gs (ci (.tmp rfl) rfl hlt.symm (.tmp rfl) T39 rfl T3 rfl rfl (by simp only[length_cons,length_nil];omega) rfl rfl) ?_ (17,0);refine gW (Wk.of (sl:=[(2,some (.ptr 2 0)),(3,some (.ptr 3 0)),(7,some (.ms 69 1 0 (i+1))),(19,some (.lst 1 (g.jo.map i64))),(20,some (i64 g.jo.length)),(21,some (i64 i))]) (hp:=[(2,some (.box l.av.cells)),(3,some (.box g.av.cells)),(69,some (.row 1 (((fq l g).take (i+1)).map i64)))]) aW (.k (.k (.cons rfl (BlkSub.of (congrArg (Blk.row 1) (wN hz hj ha))) .nil)))) ?_ (17,0);refine gW (Wk.rk (k:=69) (d:=900) rfl rfl) ?_;refine ga aF ?_;exact aH J1 (i+1) hin
  have ha:iQ g j=j.a:=by unfold iQ;rw[if_neg (by rw[show g.bo.contains j.a=false from t63];simp)]
  refine gs (ci (.tmp rfl) rfl hlt.symm (.tmp rfl) T39 rfl T3 rfl rfl (by simp only[length_cons,length_nil];omega) rfl rfl) ?_ (17,0);refine gW (Wk.of (sl:=[(2,some (.ptr 2 0)),(3,some (.ptr 3 0)),(7,some (.ms 54 1 0 (i+1))),(19,some (.lst 1 (g.jo.map i64))),(20,some (i64 g.jo.length)),(21,some (i64 i))]) (hp:=[(2,some (.box l.av.cells)),(3,some (.box g.av.cells)),(54,some (.row 1 (((fq l g).take (i+1)).map i64)))]) aW (.k (.k (.cons rfl (BlkSub.of (congrArg (Blk.row 1) (wN hz hj ha))) .nil)))) ?_ (17,0);refine gW (Wk.rk (k:=54) (d:=900) rfl rfl) ?_;refine ga aF ?_;exact aH J1 (i+1) hin
 have hin:=aZ hi t22;subst hin;refine gW (Wk.of (sl:=[(7,some (.ms 900 1 0 g.jo.length))]) (hp:=[(900,some (.row 1 ((fq l g).map i64)))]) aW (.cons rfl (BlkSub.of (by rw[take_of_length_le (by rw[pR];exact le_refl _)])) .nil)) ?_;refine gR ?_;exact aq.keep (a6 rfl)
section
variable{ts:LL}{u k:Nat}{a b a2 b2:List Rat}{x y x2 y2:Et ts}{w v w' v' w2 v2 w3 v3:Nat}
theorem wS(c:Ct ts u k)(h:w+v+(w'+v')<=10000):w*u+v*k+(w'*u+v'*k)+1<=lm ts.length:=by
 have h1:=Gt c (w:=w+w') (v:=v+v') (m:=10000) oz;have h2:=iJ ts.length;rw[vk];omega
theorem E0(c:Ct ts u k){R:Nat}(h:eB R ts.length<=k):2*(2500*1000000+2500*1000000+kB R ts.length)<=lm ts.length:=by
 have h1:=c.kk h;have h2:=iJ ts.length;omega
theorem Uj [c : Ct ts u k] [ha : Zl ts u k a x w v] [hb : Zl ts u k b y w' v'] (h : w + v + (w' + v') <= 10000 := by decide) : FP 356 [aO ts, nA a, nA b] (.tup [nA (sX (x + y)), .v .nilIface]) := by
 obtain⟨R,tw,hk⟩:=c.ex;have h0:=wS c h;have h1:=w9 tw ha.nm hb.nm oz;rw[ha.eq,hb.eq]at h1;exact h1
theorem CW [c : Ct ts u k] [ha : Zl ts u k a x w v] [hb : Zl ts u k b y w' v'] (h : w + v + (w' + v') <= 10000 := by decide) : FP 176 [aO ts, nA a, nA b] (.tup [nA (sX (x - y)), .v .nilIface]) := by
 obtain⟨R,tw,hk⟩:=c.ex;have h0:=wS c h;have h1:=nv tw ha.nm hb.nm oz;rw[ha.eq,hb.eq]at h1;exact h1
theorem H5 [c : Ct ts u k] [ha : Zl ts u k a x w v] [hb : Zl ts u k b y w' v'] (h : w + v + (w' + v') <= 10000 := by decide) : FP 127 [aO ts, nA a, nA b] (.tup [nA (sX (x * y)), .v .nilIface]) := by
 obtain⟨R,tw,hk⟩:=c.ex;have h0:=wS c h;have h1:=z6 tw ha.nm hb.nm oz;rw[ha.eq,hb.eq]at h1;exact h1
theorem TE [c : Ct ts u k] [ha : Zl ts u k a x w v] [hb : Zl ts u k b y w' v'] [ha2 : Zl ts u k a2 x2 w2 v2] [hb2 : Zl ts u k b2 y2 w3 v3] (h : w + v + (w' + v') + (w2 + v2 + (w3 + v3)) <= 2500 := by decide) :
  FP 80 [aO ts,aI a b,aI a2 b2] (.tup [nA (sX (dotE x y x2 y2)),.v .nilIface]):=by
 obtain⟨R,tw,hk⟩:=c.ex;have h0:=E0 c hk;have h1:=v5 (e:=2500*1000000) tw (ha.up c oz) (hb.up c oz) (ha2.up c oz) (hb2.up c oz) oz;rw[ha.eq,hb.eq,ha2.eq,hb2.eq]at h1;exact h1
def atXE(c s X:Et ts)(p q:Rat):Et ts:=(c*qE p-s*qE q)+X
def atYE(c s Y:Et ts)(p q:Rat):Et ts:=(s*qE p+c*qE q)+Y
instance Zu.atXE[c:Ct ts u k]{x y z:Et ts}{p q:Rat}{w1 v1 w2 v2 w3 v3 w4 w5:Nat}[Zu u k x w1 v1][Zu u k y w2 v2][Zu u k z w3 v3][Qz u p w4][Qz u q w5]:Zu u k (atXE x y z p q) (w1+w4+(w2+w5)+w3) (v1+0+1+(v2+0+1)+1+v3+1) :=
  (inferInstance:Zu u k ((x*Lw.qE p-y*Lw.qE q)+z) _ _)
instance Zu.atYE[c:Ct ts u k]{x y z:Et ts}{p q:Rat}{w1 v1 w2 v2 w3 v3 w4 w5:Nat}[Zu u k x w1 v1][Zu u k y w2 v2][Zu u k z w3 v3][Qz u p w4][Qz u q w5]:Zu u k (atYE x y z p q) (w2+w4+(w1+w5)+w3) (v2+0+1+(v1+0+1)+1+v3+1) :=
  (inferInstance:Zu u k ((y*Lw.qE p+x*Lw.qE q)+z) _ _)
end
abbrev PJ(l:Li)(g:Gr)(a:As):List AV:=[.v (.string l.name),.lst 2 (l.bo.map Bd.av),.lst 7 (l.jo.map Jt.av),.lst 2 (l.dv.map Dr.av),i64 g.kind,.lst 1 (g.bo.map i64),.lst 1 (g.jo.map i64),i64 g.driver,
  .lst 1 (a.rs.map nR),.lst 4 (a.bs.map Pl.av),.lst 1 (a.ms.map i64),.v .nilIface]
abbrev b8(l:Li)(g:Gr)(a:As):Blk:=.box (PJ l g a)
def tm(e:Nat):AV:=if e=0 then .ptr 900 0 else .v (.pointer none)
def GF(e:Nat)(l:Li)(g:Gr)(a:As):Hp:=if e=0 then[(900,some (b8 l g a))]else[]
theorem kp{e:Nat}(h:e≠0):tm e=.v (.pointer none):=if_neg h
theorem pE{e:Nat}{l:Li}{g:Gr}{a:As}(h:e≠0):GF e l g a=[]:=if_neg h
theorem Ea(l:Li)(g:Gr):cD l g true=fq l g++g.bo:=rfl
theorem FJ(l:Li)(g:Gr):cD l g false=fq l g:=by unfold cD;simp
theorem NP{rs:List (List Rt)}{b:Pl}{i:Nat}{x:List Rt}(h:ba rs=0)(hx:b.l[i]?=some x)(hb:∀y∈b.l.take i,bX rs.length y=0)(hn:bX rs.length x≠0):bt rs b.l=bX rs.length x:=vU h hx hb hn
theorem Sn{l:Li}{g:Gr}{a:As}{own:Bool}{j:Nat}{b:Int}(hb:(dX (cD l g own))[j]?=some b)(hj:∀c∈(dX (cD l g own)).take j,fQ a c=0)(hn:fQ a b≠0):dR ((dX (cD l g own)).map (fQ a))=fQ a b:=by
 have h1:dX (cD l g own)=(dX (cD l g own)).take j++b::(dX (cD l g own)).drop (j+1):=by
  obtain⟨hi,e⟩:=List.getElem?_eq_some_iff.1 hb;rw[<- e,<- List.drop_eq_getElem_cons hi,List.take_append_drop]
 generalize dX (cD l g own)=xs at *;rw[h1,map_append,sZ _ _ (pf hj),map_cons,De,if_pos hn]
theorem U4(l:Li)(hl:l.ok)(k:Int)(a:As)(al:AB a)(own:Bool) :
  Con prog 63 [l.av,i64 k,a.av,bl own] [] (.tup [tm (fg l k a own),bg (fg l k a own)]) (GF (fg l k a own) l (iO l k) a):=by
 have hbl:=al.bl;refine gF func63 (fun k z h=>by cases h) ?_;refine gc (G3 l hl) ?_;refine gC (fun t27=>?_) (fun t27=>?_)
 ·have h1:=cE t27;refine gR ?_;rw[MO rfl h1,kp h1,pE h1];exact lI rfl
 have h1:=cC t27;obtain⟨hli,hsp⟩:=Hg h1;rw[show(if ay l=0 then splitG l else[])=splitG l from if_pos hli];have hbs:=(cJ hli).2.2.2.1;have hgl:=(r5 hli).2;have hsg:splitG l=findG l:=by unfold splitG;rw[if_pos hsp]
 refine cF ?_;refine gC (fun t36=>?_) (fun t36=>?_)
 ·have h2:=Uc t36;have he:fg l k a own=9:=(qe hli).trans (RA hsp h2);refine gR ?_;rw[he,kp (by decide),pE (by decide)];exact lI rfl
 have h2:=RG t36;refine gl ?_;refine gl ?_;refine gC (fun t44=>?_) (fun t44=>?_)
 ·have h3:=Bu t44;have he:fg l k a own=10:=(qe hli).trans (LA hsp h2 h3);refine gR ?_;rw[he,kp (by decide),pE (by decide)];exact lI rfl
 have h3:=Dq t44;refine gc (mN a.rs 400000000 al.tr) ?_;refine gC (fun t50=>?_) (fun t50=>?_)
 ·have h4:=cE t50;refine gR ?_;rw[(qe hli).trans (Tq hsp h2 h3 h4),kp h4,pE h4];exact lI rfl
 have h4:=cC t50;obtain⟨i,rfl,hi⟩:=TY h2;obtain⟨g,hg⟩:=ax hi;obtain⟨hgd,hgo⟩:=qS hli (mem_of_getElem? hg);have hgA:iO l (i:Nat)=g:=aC hg;rw[hgA];have he5:fg l (i:Nat) a own=dR ((dX (cD l g own)).map (fQ a)):=by rw[<- hgA];exact(qe hli).trans (Hq hsp h2 h3 h4)
 have hnl:(cD l g own).length<=5:=OY hgo;have hgb:=hgo.lb;have hgj:=hgo.lj;refine gi (aA hg) ?_;refine gt (az (Px l hl hli g hgo) (bm rfl rfl) aB rfl rfl) ?_;refine gD ?_;refine gC (fun t62=>?_) (fun t62=>?_) (st1:=(13,0));cases t62;refine DA [1,4,6,10] [4,6] [(13,some (.ms 900 1 0 (cD l g own).length))] [(900,some (.row 1 ((cD l g own).map i64)))] (True) ?_ ?_
 ·intro K1 J1;refine gC (fun t64=>?_) (fun t64=>?_)
  ·have ho:own=true:=t64;subst ho;refine gi (aA hg) ?_;refine gs (ci (.tmp rfl) rfl (by rw[length_map,pR]) (.tmp rfl) T39 rfl T3 rfl rfl (by simp only[length_map];omega) rfl rfl) ?_;exact uv J1 trivial (hw:=(Wk.of (sl:=[(1,some (i64 i)),(4,some (.ptr 4 0)),(6,some (.ptr 6 0)),(10,some (.lst 4 ((splitG l).map Gr.av))),(13,some (.ms 71 1 0 (cD l g true).length))]) (hp:=[(4,some (.box l.av.cells)),(6,some (.box a.av.cells)),(71,some (.row 1 ((cD l g true).map i64)))]) (.k (.k (.k (.k (.cons rfl (Sub.of (by rw[Ea,length_append,pR,length_map])) .nil))))) (.k (.k (.cons rfl (BlkSub.of (by rw[Ea,map_append])) .nil)))).trans<|(Wk.rk (k:=71) (d:=900) rfl rfl).trans<|Wk.o)
  have ho:own=false:=t64;subst ho;exact uv J1 trivial (hw:=Wk.of (.cons rfl (Sub.of (by rw[FJ,pR])) (.k (.k (.k (.k .nil))))) (.cons rfl (BlkSub.of (by rw[FJ])) (.k (.k .nil))))
 rintro -;refine gt (az (Con.rk 900 rfl rfl (PS (cD l g own) oz)) (cq rfl) aB rfl rfl) ?_ (17,0);refine gW ((Wk.freeze (k:=900) rfl).trans<|Wk.of (sl:=[(1,some (i64 i)),(4,some (.ptr 4 0)),(6,some (.ptr 6 0)),(10,some (.lst 4 ((splitG l).map Gr.av))),(13,some (.lst 1 ((dX (cD l g own)).map i64)))]) (hp:=[(4,some (.box l.av.cells)),(6,some (.box a.av.cells))]) (.k (.k (.k (.k (.cons rfl (Sub.of (bJ (by rw[length_map,F3]))) .nil))))) (.k (.k .nil))) ?_;refine gl ?_;refine aN [1,4,6,10,74,75] [4,6] (fun(j:Nat)=>[(76,some (i64 j))]) (fun _=>[]) (fun j=>j<=(dX (cD l g own)).length/\∀b∈(dX (cD l g own)).take j,fQ a b=0) (fun j=>(dX (cD l g own)).length-j) 0 ⟨zero_le _,fun b hb=>by simp at hb⟩ ?_;rintro j ⟨hj,hjz⟩ K2 J2;refine gC (fun t77=>?_) (fun t77=>?_)
 ·have hjn:=aS t77;obtain ⟨b,hb⟩:=ax hjn;have hbm:=yH.1 (mem_of_getElem? hb);have hbr:=xN hli hgo b hbm;have hsl:(dX (cD l g own)).length <= 5:=by rw [F3]; exact hnl
  refine gi (aA hb) ?_;refine gC (fun t81=>?_) (fun t81=>?_)
  ·have hz : fQ a b = 0 := by unfold fQ; rw [if_pos (by simpa [aa] using t81)]
   refine ga aF ?_;exact aH J2 (j+1) ⟨hjn,fun c hc=>by rw[dG hb]at hc;rcases List.mem_append.1 hc with h9 |h9;exact hjz c h9;(rw[List.mem_singleton.1 h9];exact hz)⟩
  have hb0:0<=b:=by have:=of_decide_eq_false (p:=b<0) t81;omega
  obtain⟨p,hp⟩:=ax (l:=a.bs) (i:=b.toNat) oz;have hpn:=al.nr p (mem_of_getElem? hp);have hnd:fQ a b=bt a.rs p.l:=by unfold fQ;rw[if_neg oz,aC hp]
  refine gi (gO (n:=b.toNat) oz hp) ?_;refine ge rfl ?_;refine aN [1,4,6,10,74,75,76,95,96] [4,6] (fun(q:Nat)=>[(97,some (i64 q))]) (fun _=>[]) (fun q=>q<=4/\∀x∈p.l.take q,bX a.rs.length x=0) (fun q=>4-q) 0 ⟨zero_le _,fun x hx=>by simp at hx⟩ ?_;rintro q ⟨hq,hqz⟩ K3 J3;refine gC (fun t98=>?_) (fun t98=>?_)
  ·have hqn:q<4:=aS (b:=4) t98;obtain⟨x,hx⟩:∃x,p.l[q]?=some x:=ax (show q<p.l.length from hqn);have hxn:=hpn x (mem_of_getElem? hx);have hone:bt a.rs [x]=bX a.rs.length x:=HF h4;refine gi (aA hx) ?_;refine gc (xZ a.rs 400000000 al.tr x 50000000000 hxn (Rx _)) ?_;refine gC (fun t109=>?_) (fun t109=>?_)
   ·have h5:=cE t109;rw [hone] at h5 ⊢;have h6:fQ a b = bX a.rs.length x:=hnd.trans (NP h4 hx hqz h5);have h7:fg l (i:Nat) a own = bX a.rs.length x:=by rw [he5,Sn hb hjz (by rw [h6]; exact h5),h6]
    refine gR ?_;rw[h7,kp h5,pE h5];exact lI rfl
   have h5:=cC t109;rw[hone]at h5;refine ga aF ?_;exact aH J3 (q+1) ⟨hqn,fun z hz=>by rw[dG hx]at hz;rcases List.mem_append.1 hz with h9 |h9;exact hqz z h9;(rw[List.mem_singleton.1 h9];exact h5)⟩
  have hqn:q=4:=aZ (b:=4) hq t98;subst hqn;have hqz:∀x∈p.l,bX a.rs.length x=0:=hqz;refine ga aF ?_;exact aH J2 (j+1) ⟨hjn,fun c hc=>by rw[dG hb]at hc;rcases List.mem_append.1 hc with h9 |h9;exact hjz c h9;(rw[List.mem_singleton.1 h9,hnd];exact rc h4 hqz)⟩
 have hjn:=aZ hj t77
 have h8:fg l (i:Nat) a own=0:=by
  rw[he5];exact pf (fun b hb=>hjz b (by rw[hjn,take_length];exact hb))
 refine gi (aA hg) ?_;refine gD ?_ (77777,0);refine gW (Wk.o (sl:=[(8,some (.ptr 120 0)),(9,some (.v .nilIface))]) (hp:=[(120,some (b8 l g a))])) ?_ (77777,0);refine gW (Wk.rk (k:=120) (d:=900) rfl rfl) ?_;refine gR ?_;rw[h8];exact aq.keep (a6 rfl)
theorem HP{ts:LL}{r e:Nat}(tw:Tw ts r){a b c d:List Rat}(ha:Nm ts.length e a)(hb:Nm ts.length e b)(hc:Nm ts.length e c)(hd:Nm ts.length e d)(he:2*e<=lm ts.length) :
  FP 76 [aO ts,aI a b,aI c d] (.tup [aI (sh ts.length (subT ts (ae ts.length a) (ae ts.length c))) (sh ts.length (subT ts (ae ts.length b) (ae ts.length d))),.v .nilIface]):=by
 refine ai func76 ?_;refine gc (mO (e:=e) tw [(a,b),(c,d)] (by simp only[mem_cons,not_mem_nil,or_false];rintro p (rfl |rfl);exact⟨ha,hb⟩;exact⟨hc,hd⟩) oz (by simp)) ?_;refine gC (fun t16=>?_) (fun t16=>?_) (st1:=(3,0));cases t16;refine gt (az (Con.rB 21 rfl rfl rfl rfl (uH tw ha hb hc hd he)) (aE rfl rfl rfl) aB rfl rfl) ?_;refine gt (az (Con.rB 21 rfl rfl rfl rfl (u4 _ _ _)) (bm rfl rfl) aB rfl rfl) ?_;refine bh ?_;rfl
theorem DD{ts:LL}{r e:Nat}(tw:Tw ts r){a b c d:List Rat}(ha:Nm ts.length e a)(hb:Nm ts.length e b)(hc:Nm ts.length e c)(hd:Nm ts.length e d)(he:2*(e+e+kB r ts.length)<=lm ts.length) :
  FP 77 [aO ts,aI a b,aI c d] (.tup [nA (sh ts.length (l7 ts (ae ts.length a) (ae ts.length b) (ae ts.length c) (ae ts.length d))),.v .nilIface]):=by
 refine ai func77 ?_;refine gc (Con.sA (.cons (.refl _) (.cons (.refl _) (.cons (.refl _) (.cons (Sub.fn0 _) .nil)))) (HV tw ha hb hc hd oz _ _ (Dj tw ha hb hc hd he))) ?_;refine bh ?_
 first |rfl |(simp;done)
section
variable{ts:LL}{u k:Nat}{a b a2 b2:List Rat}{x y x2 y2:Et ts}{w v w' v' w2 v2 w3 v3:Nat}
theorem I8 [c : Ct ts u k] [ha : Zl ts u k a x w v] [hb : Zl ts u k b y w' v'] [ha2 : Zl ts u k a2 x2 w2 v2] [hb2 : Zl ts u k b2 y2 w3 v3] (h : w + v + (w' + v') + (w2 + v2 + (w3 + v3)) <= 2500 := by decide) :
  FP 76 [aO ts,aI a b,aI a2 b2] (.tup [aI (sX (x-x2)) (sX (y-y2)),.v .nilIface]):=by
 obtain⟨R,tw,hk⟩:=c.ex;have h0:=E0 c hk;have h1:=HP (e:=2500*1000000) tw (ha.up c oz) (hb.up c oz) (ha2.up c oz) (hb2.up c oz) oz;rw[ha.eq,hb.eq,ha2.eq,hb2.eq]at h1;exact h1
end
variable{P:Program}{N:Nat}{R:Array Oper}{s:AS}{pos:String}{after:Array Edge}
theorem aQ{d f k:Nat}{bx:Blk}{args:Array Operand}{ts:Array TypeId}{xs:List AV}{r:AV}{t:TypeId}
  (hcon:Con P f xs [(k,some bx)] r [(k,some bx)]) (ha:EvL s args.toList xs) (hk:s.blk k=some bx) (hok:ic s [(k,some bx)] [(k,some bx)] r=true) (hN:Nat.blt d N=true) :
  Step P N R s ⟨some d,.call ⟨.value (.func f),args,ts⟩,t,pos,after,none⟩ ⟨some r,[],dU args.toList,[k]⟩:=by
 refine Step.weaken (az (d:=d) hcon ha (fun k' z h=>by
  obtain⟨rfl,h9⟩:=fc h;cases h9;exact hk) hok hN) (fun s' h=>h) (fun s' h k' hk'=>?_) (fun s' h=>?_)
 ·left;simp only[map_append,cT,map_cons,map_nil,mem_append,mem_cons,not_mem_nil,or_false]at hk' ⊢;rcases hk' with h9 |h9 <;> exact h9
 ·intro C m a w hr;refine⟨m,hr.weak (fun t x hx=>⟨x,hx,.refl _⟩) (fun k' x hx=>⟨x,?_,.refl _⟩)⟩;have hb:lk s'.hp k=some bx:=(h.2 k (List.mem_singleton.2 rfl)).trans hk;show lk ([(k,some bx)]++cT [(k,some bx)]++s'.hp) k'=some x;have hx':lk s'.hp k'=some x:=hx;simp only[cT,map_cons,map_nil,List.cons_append,nil_append,aJ]
  by_cases e:k'=k
  ·rw[if_pos e];rw[e,hb]at hx';exact hx'
  ·rw[if_neg e,if_neg e];exact hx'
theorem mv{k1 k2 k':Nat}{x y:Option Blk}{z:Blk}(h:lk [(k1,x),(k2,y)] k'=some z):(k'=k1/\x=some z)\/(k'≠k1/\k'=k2/\y=some z):=by
 rw[aJ]at h
 by_cases e:k'=k1
 ·rw[if_pos e]at h;exact .inl ⟨e,h⟩
 ·rw[if_neg e]at h;obtain⟨h1,h2⟩:=fc h;exact .inr ⟨e,h1,h2⟩
theorem mx{k1 k2:Nat}{x y:Option Blk}:lk [(k1,x),(k2,y)] k1=x:=by rw[aJ,if_pos rfl]
theorem mL{k1 k2:Nat}{x y:Option Blk}(h:k1≠k2):lk [(k1,x),(k2,y)] k2=y:=by rw[aJ,if_neg (fun e=>h e.symm),aJ,if_pos rfl]
theorem Ht{k1 k2:Nat}(hne:k1≠k2){x y:Blk}{m:Nat->Option Nat}{b:Nat}:aU [(k1,some x),(k2,some y)] m b↔m k1=some b\/m k2=some b:=by
 constructor
 ·rintro⟨k',z,hz,hb⟩;rcases mv hz with⟨e,_⟩ |⟨_,e,_⟩
  ·exact .inl (e▸hb)
  ·exact .inr (e▸hb)
 ·rintro(h |h)
  ·exact⟨k1,x,mx,h⟩
  ·exact⟨k2,y,mL hne,h⟩
theorem Gq{k1 k2 d1 d2:Nat}(hk:k1≠k2)(hd:d1≠d2){x y x' y':Blk}{m m2:Nat->Option Nat}(h1:m2 d1=m k1)(h2:m2 d2=m k2):aU [(d1,some x'),(d2,some y')] m2=aU [(k1,some x),(k2,some y)] m:=by
 funext b;apply propext;rw[Ht hk,Ht hd,h1,h2]
theorem zW{ext:Nat->Prop}{k1 k2 d1 d2:Nat}(hk:k1≠k2)(hd:d1≠d2){x y x' y':Blk}{m m2:Nat->Option Nat}{w:World}(h1:m2 d1=m k1)(h2:m2 d2=m k2):Im ext [(d1,some x'),(d2,some y')] m2 w=Im ext [(k1,some x),(k2,some y)] m w:=by
 funext b cs;simp only[Im,Gq hk hd (x:=x) (y:=y) (x':=x') (y':=y') h1 h2]
theorem HN{ext:Nat->Prop}{k1 k2 d1 d2:Nat}(hk:k1≠k2)(hd:d1≠d2){x y:Blk}{m m2:Nat->Option Nat}{w:World}(hx:x.nm=[])(hy:y.nm=[])(h1:m2 d1=m k1)(h2:m2 d2=m k2)
  (hr:HeapRel ext [(k1,some x),(k2,some y)] m w):HeapRel ext [(d1,some x),(d2,some y)] m2 w:=by
 refine⟨?_,?_,?_⟩
 ·intro k' z hz;rw[zW hk hd (x:=x) (y:=y) h1 h2];rcases mv hz with⟨rfl,h9⟩ |⟨_,rfl,h9⟩
  ·cases h9;exact BlkRep.mono (w:=w) (fun _ _ h=>h) (fun _ _ h=>h) (fun _ _ hn=>(xr hx hn).elim) h1 (fun _ _=>rfl) (hr.blk k1 _ mx)
  ·cases h9;exact BlkRep.mono (w:=w) (fun _ _ h=>h) (fun _ _ h=>h) (fun _ _ hn=>(xr hy hn).elim) h2 (fun _ _=>rfl) (hr.blk k2 _ (mL hk))
 ·intro k k' z z' b hz hz' hb hb';rcases mv hz with⟨rfl,_⟩ |⟨_,rfl,_⟩ <;> rcases mv hz' with⟨rfl,_⟩ |⟨_,rfl,_⟩
  ·rfl
  ·exact absurd (hr.inj k1 k2 _ _ b mx (mL hk) (h1▸hb) (h2▸hb')) hk
  ·exact absurd (hr.inj k1 k2 _ _ b mx (mL hk) (h1▸hb') (h2▸hb)) hk
  ·rfl
 ·intro k' z b hz hb;rcases mv hz with⟨rfl,h9⟩ |⟨_,rfl,h9⟩
  ·exact hr.sep k1 _ b mx (h1▸hb)
  ·exact hr.sep k2 _ b (mL hk) (h2▸hb)
theorem Con.rekeyBB{P:Program}{f:FuncId}{k1 k2 o1 o2:Nat}{x y x' y':Blk}{xs:List AV}{r:AV}(d1 d2:Nat)(hk:k1≠k2)(hd:d1≠d2)(hx:x.nm=[])(hy:y.nm=[])(hx':x'.nm=[])(hy':y'.nm=[])(hxs:(xs.all fun x=>x.nm.isEmpty)=true)(hr:r.nm=[])
  (h:Con P f (.ptr k1 o1 :: .ptr k2 o2::xs) [(k1,some x),(k2,some y)] r [(k1,some x'),(k2,some y')]):Con P f (.ptr d1 o1 :: .ptr d2 o2::xs) [(d1,some x),(d2,some y)] r [(d1,some x'),(d2,some y')]:=by
 refine⟨h.ok,?_⟩;intro ext m w vs hext hheap hvs hrep;obtain⟨m2,e1,e2⟩:∃m2:Nat->Option Nat,m2 k1=m d1/\m2 k2=m d2:=⟨fun k=>if k=k1 then m d1 else m d2,if_pos rfl,if_neg (fun e=>hk e.symm)⟩
 have h1 := h.ret ext m2 w vs hext (HN hd hk hx hy e1 e2 hheap) (by simpa using hvs) (by
  intro j v z hv hz;rw[zW hd hk (x:=x) (y:=y) e1 e2]
  match j,hz with
  |0,hz =>
   cases hz;have h2:=hrep 0 v _ hv rfl;cases h2 with
   |ptr hm=>exact .ptr (e1.trans hm)
  |1,hz =>
   cases hz;have h2:=hrep 1 v _ hv rfl;cases h2 with
   |ptr hm=>exact .ptr (e2.trans hm)
  |j+2,hz =>
   have h2:=hrep (j+2) v z hv hz;refine gX ?_ h2;have:=List.all_eq_true.1 hxs z (mem_of_getElem? hz);simpa using this)
 refine Calls.mono h1 ?_;rintro e w' ⟨v,m',rfl,hf,hh,hn,hkp,hrr⟩;have ho:=Gq hd hk (x:=x) (y:=y) (x':=x) (y':=y) e1 e2;obtain⟨m3,f1,f2⟩:∃m3:Nat->Option Nat,m3 d1=m' k1/\m3 d2=m' k2:=⟨fun k=>if k=d1 then m' k1 else m' k2,if_pos rfl,if_neg (fun e=>hd e.symm)⟩
 refine⟨v,m3,rfl,ho▸hf,HN hk hd hx' hy' f1 f2 hh,?_,?_,?_⟩
 ·intro k' z b hz hb;rw[<- ho];rcases mv hz with⟨rfl,_⟩ |⟨_,rfl,_⟩
  ·exact hn k1 _ b mx (f1▸hb)
  ·exact hn k2 _ b (mL hk) (f2▸hb)
 ·intro k' z z' hz hz';rcases mv hz with⟨rfl,_⟩ |⟨_,rfl,_⟩
  ·rw[f1,<- e1];exact hkp k1 _ _ mx mx
  ·rw[f2,<- e2];exact hkp k2 _ _ (mL hk) (mL hk)
 ·rw[zW hk hd (x:=x') (y:=y') f1 f2];exact gX hr hrr
end Go.Lw
namespace Go.Lw
open Go.Proofs
theorem B7{l:Li}{body pt:Int}{n k:Nat}{bd:Bd}{m:Mk}(h:MkP l body pt n k bd m):qP (aX l body pt)=.agg [bl m.x.neg,ws m.x.num,ws m.x.den,bl m.y.neg,ws m.y.num,ws m.y.den]:=by
 rw[h.ex,h.ey]
theorem nI{p q:Rat×Rat}{e f:Nat}(hp:Sm e p)(hq:Sm f q)(he:e<=1000000)(hf:f<=1000000):FP 156 [qP p,qP q] (qP (bW p q)):=by
 refine ai func156 ?_;refine gc (uA (hp.x.qs oz) (hq.x.qs oz)) ?_;refine gc (uA (hp.y.qs oz) (hq.y.qs oz)) ?_;refine gD ?_;refine af ?_
 first |rfl |(simp;done)
theorem Ff{p q:Rat×Rat}{e f:Nat}(hp:Sm e p)(hq:Sm f q)(he:e<=1000000)(hf:f<=1000000):FP 261 [qP p,qP q] (qA (bQ p q)):=by
 refine ai func261 ?_;refine gc (sH (hp.x.qs oz) (hq.x.qs oz)) ?_;refine gc (sH (hp.y.qs oz) (hq.y.qs oz)) ?_;refine gc (zO ((hp.x.mul hq.x).qs oz) ((hp.y.mul hq.y).qs oz)) ?_;refine gD ?_;refine af ?_
 first |rfl |(simp;done)
theorem PC{p q:Rat×Rat}{e f:Nat}(hp:Sm e p)(hq:Sm f q)(he:e<=1000000)(hf:f<=1000000):FP 178 [qP p,qP q] (qA (xk p q)):=by
 refine ai func178 ?_;refine gc (sH (hp.x.qs oz) (hq.y.qs oz)) ?_;refine gc (sH (hp.y.qs oz) (hq.x.qs oz)) ?_;refine gc (uA ((hp.x.mul hq.y).qs oz) ((hp.y.mul hq.x).qs oz)) ?_;refine gD ?_;refine af ?_
 first |rfl |(simp;done)
theorem Ay{p:Rat×Rat}{e:Nat}(hp:Sm e p)(he:e<=1000000):FP 169 [qP p] (nA (sh 0 (bQ p p:Rat))):=by
 refine ai func169 ?_;refine gc (Ff hp hp he he) ?_;refine gc (kK ((hp.dot hp).qs oz)) ?_;refine af ?_
 first |rfl |(simp;done)
theorem my{l:Li}(hl:l.ok)(hli:ay l=0)(g:Gr)(a:As){body pt:Int}(h1:bi body l.bo.length=true)(h2:bi pt (cz l body).length=true) :
  Con prog 170 [.ptr 1000 0,i64 body,i64 pt] [(1000,some (b8 l g a))] (qP (aX l body pt)) [(1000,some (b8 l g a))]:=by
 obtain⟨n,k,bd,m,mp⟩:=ou hl hli h1 h2;rw[B7 mp];have hn:=mp.hn;have hk:=mp.hk;have hlb:=hl.lb;subst hn;subst hk;refine gF func170 (fun k z h=>bj h) ?_;refine gi (aA mp.gbd) ?_;refine gi (aA mp.gm) ?_;refine gR ?_;exact aq.keep (a6 rfl)
theorem sK{E:Nat}{l:Li}(hl:l.ok)(hli:ay l=0)(g:Gr){a:As}(al:AB a)(hc:ba a.rs=0){body pt:Int}(h1:bi body l.bo.length=true)(h2:bi pt (cz l body).length=true)(hE:E<=20000000000)(h3:(llq a.rs).length<=2)(hb:Pd E a body) :
  Con prog 91 [.ptr 1000 0,i64 body,i64 pt] [(1000,some (b8 l g a))] (aI (sX (bC l a body pt).1) (sX (bC l a body pt).2)) [(1000,some (b8 l g a))]:=by
 obtain⟨n,k,bd,m,b,hp⟩:=uR hl hli al hc h1 h2 hb;obtain⟨tw,hta⟩:=db al.tr hc
 have kb:kB 400000000 (llq a.rs).length<=1200000006:=by
  have h9:=gT 400000000 h3;have h8:eB 400000000 2=1200000006:=by decide
  show eB 400000000 _<=_;omega
 have hlm:lm (llq a.rs).length=200000000000:=by unfold lm;rw[if_pos h3]
 have hlb:=hl.lb;have hbl:=al.bl;have hmk:=my hl hli g a h1 h2;show Con prog _ _ _ (aI (sh (llq a.rs).length (sk l a body pt).1) (sh (llq a.rs).length (sk l a body pt).2)) _;rw[hp.eq];have hn:=hp.mp.hn;rw[B7 hp.mp]at hmk
 have hat:FP 89 [de a.rs,b.av,m.x.av,m.y.av] (.tup [aI (sh (llq a.rs).length (m7 (llq a.rs) b m).1) (sh (llq a.rs).length (m7 (llq a.rs) b m).2),.v .nilIface]):=by
  rw[hta,hp.av,hp.mp.ex,hp.mp.ey];have h9:=Cu tw (hp.ok.c.mono (f:=E+1000) oz) (hp.ok.s.mono oz) (hp.ok.x.mono oz) (hp.ok.y.mono oz) (hp.mp.sm.x.mono (f:=E+1000) oz) (hp.mp.sm.y.mono (f:=E+1000) oz) oz;unfold m7;rw[hp.mp.ex,hp.mp.ey,bZ,bZ];exact h9
 refine gF func91 (fun k z h=>bj h) ?_;refine gt (az hmk (aE rfl rfl rfl) aB rfl rfl) ?_;refine gi (gO (n:=n) hn hp.gb) ?_;refine gc hat ?_;refine gD ?_;refine gC (fun t39=>?_) (fun t39=>?_) (st2:=(77777,0))
 ·refine gR ?_;exact aq.keep (a6 rfl)
 cases t39
theorem r7{E:Nat}(hE:E<=20000000000){l:Li}(hl:l.ok)(hli:ay l=0)(g:Gr)(hg:GrOk l g){a:As}(al:AB a)(hc:ba a.rs=0){k:Nat}{z b:Int}{j:Jt}(hz:g.jo[k]?=some z)(hj:l.jo[z.toNat]?=some j)(h3:(llq a.rs).length<=2)(h:PinP E l a j b) :
  Con prog 150 [.ptr 1000 0,i64 k,i64 b] [(1000,some (b8 l g a))] (.tup [qP (aj l j b),aI (sX (aM l a j b).1) (sX (aM l a j b).2)]) [(1000,some (b8 l g a))]:=by
 obtain⟨z0,z1⟩:=hg.j z (mem_of_getElem? hz);obtain⟨i1,i2,i3,i4,_⟩:=dx hli hj;have hgj:=hg.lj;have hlj:=hl.lj;refine gF func150 (fun k z h=>bj h) ?_;refine gi (aA hz) ?_;refine gi (gO (n:=z.toNat) oz hj) ?_;refine gD ?_;refine gC (fun t27=>?_) (fun t27=>?_)
 ·have e:j.a = b:=cM t27;have hb:Pd E a j.b:=by rcases h.tie with h9 | h9; exact h9.2; exact absurd e h9.1
  have eq1:aj l j b=aX l b j.point:=if_pos e;have eq2:aM l a j b=bC l a j.b j.on:=if_pos e;rw[eq1,eq2];subst e;refine gt (az (my hl hli g a i1 i3) (aE rfl rfl rfl) aB rfl rfl) ?_;refine gt (az (sK hl hli g al hc i2 i4 hE h3 hb) (aE rfl rfl rfl) aB rfl rfl) ?_;refine gD ?_;refine gR ?_;exact aq.keep (a6 rfl)
 have e:j.a≠b:=dJ t27;have e2:j.b=b/\Pd E a j.a:=by rcases h.tie with h9 |h9;exact absurd h9.1 e;exact h9.2
 have eq1:aj l j b=aX l b j.on:=if_neg e;have eq2:aM l a j b=bC l a j.a j.point:=if_neg e;rw[eq1,eq2];obtain⟨e2,hb⟩:=e2;subst e2;refine gt (az (my hl hli g a i2 i4) (aE rfl rfl rfl) aB rfl rfl) ?_;refine gt (az (sK hl hli g al hc i1 i3 hE h3 hb) (aE rfl rfl rfl) aB rfl rfl) ?_;refine gD ?_;refine gR ?_;exact aq.keep (a6 rfl)
theorem Ei{l:Li}(hl:l.ok)(hli:ay l=0)(g:Gr)(hg:GrOk l g)(a:As){z b:Int}{j:Jt}(hz:g.jo[2]?=some z)(hj:l.jo[z.toNat]?=some j)(h:j.a=b\/j.b=b) :
  Con prog 166 [.ptr 1000 0,i64 b] [(1000,some (b8 l g a))] (qP (aj l j b)) [(1000,some (b8 l g a))]:=by
 obtain⟨z0,z1⟩:=hg.j z (mem_of_getElem? hz);obtain⟨i1,i2,i3,i4,_⟩:=dx hli hj;have hgj:=hg.lj;have hlj:=hl.lj;have h2:=(List.getElem?_eq_some_iff.1 hz).1;refine gF func166 (fun k z h=>bj h) ?_;refine gi (aA hz) ?_;refine gi (gO (n:=z.toNat) oz hj) ?_;refine gD ?_;refine gC (fun t23=>?_) (fun t23=>?_)
 ·have e:j.a=b:=cM t23;have eq1:aj l j b=aX l b j.point:=if_pos e;rw[eq1];subst e;refine gt (az (my hl hli g a i1 i3) (aE rfl rfl rfl) aB rfl rfl) ?_;refine gR ?_;exact aq.keep (a6 rfl)
 have e:j.a≠b:=dJ t23;have e2:j.b=b:=by rcases h with h9 |h9;exact absurd h9 e;exact h9
 have eq1:aj l j b=aX l b j.on:=if_neg e;rw[eq1];subst e2;refine gt (az (my hl hli g a i2 i4) (aE rfl rfl rfl) aB rfl rfl) ?_;refine gR ?_;exact aq.keep (a6 rfl)
theorem DZ{l:Li}(hl:l.ok)(g:Gr)(hg:GrOk l g)(a:As){z:Int}{j:Jt}(hz:g.jo[1]?=some z)(hj:l.jo[z.toNat]?=some j) :
  Con prog 90 [.ptr 1000 0] [(1000,some (b8 l g a))] j.av [(1000,some (b8 l g a))]:=by
 obtain⟨z0,z1⟩:=hg.j z (mem_of_getElem? hz);have hgj:=hg.lj;have hlj:=hl.lj;have h2:=(List.getElem?_eq_some_iff.1 hz).1;refine gF func90 (fun k z h=>bj h) ?_;refine gi (aA hz) ?_;refine gi (gO (n:=z.toNat) oz hj) ?_;refine gD ?_;refine gR ?_;exact aq.keep (a6 rfl)
abbrev JU{ts:LL}(p:Rat×Rat)(at_:Et ts×Et ts)(c:Rat×Rat):List AV :=
  [bl (rt p.1).neg,ws (rt p.1).num,ws (rt p.1).den,bl (rt p.2).neg,ws (rt p.2).num,ws (rt p.2).den,nA (sX at_.1),nA (sX at_.2),bl (rt c.1).neg,ws (rt c.1).num,ws (rt c.1).den,bl (rt c.2).neg,ws (rt c.2).num,ws (rt c.2).den]
abbrev um{ts:LL}(p:Rat×Rat)(at_:Et ts×Et ts)(c:Rat×Rat):AV:=.agg (JU p at_ c)
abbrev N4{ts:LL}(p:Rat×Rat)(at_:Et ts×Et ts)(c:Rat×Rat):AV:=.agg [nA (sX at_.1),nA (sX at_.2),nA (sh 0 (bO c p:Rat))]
theorem zD{ts:LL}{p c:Rat×Rat}(hp:Sm 1000 p)(hc:Sm 1000 c)(at_:Et ts×Et ts):FP 73 [um p at_ c] (N4 p at_ c):=by
 refine ai func73 ?_;refine gc (nI hc hp oz oz) ?_;refine gc (Ay (hc.sub hp) oz) ?_;refine gD ?_;refine af ?_
 first |rfl |(simp;done)
theorem ML{E:Nat}{l:Li}(hl:l.ok)(hli:ay l=0){a:As}(al:AB a)(hc:ba a.rs=0)(h3:(llq a.rs).length<=2){i k z0 z1 z2:Int}{j0 j1 j2:Jt}(hg:GrOk l ⟨1,[i,k],[z0,z1,z2],0⟩)
  (h0:l.jo[z0.toNat]?=some j0) (h1:l.jo[z1.toNat]?=some j1) (h2:l.jo[z2.toNat]?=some j2) (p0:PinP E l a j0 i) (p1:PinP E l a j1 k) (t1:j2.a=i\/j2.b=i) (t2:j2.a=k\/j2.b=k) (hE:E<=20000000000:=by omega) :
  Con prog 70 [.ptr 1000 0] [(1000,some (b8 l ⟨1,[i,k],[z0,z1,z2],0⟩ a))] (.tup [um (aj l j0 i) (aM l a j0 i) (aj l j2 i),um (aj l j1 k) (aM l a j1 k) (aj l j2 k)]) [(1000,some (b8 l ⟨1,[i,k],[z0,z1,z2],0⟩ a))]:=by
 refine gF func70 (fun k z h=>bj h) ?_;refine gi (rfl) ?_;refine gi (rfl) ?_;refine gD ?_;refine gt (az (r7 oz hl hli _ hg al hc (k:=0) rfl h0 h3 p0) (.cons (.tmp rfl) (.cons (.const _) (cq rfl))) aB rfl rfl) ?_;refine gt (az (r7 oz hl hli _ hg al hc (k:=1) rfl h1 h3 p1) (.cons (.tmp rfl) (.cons (.const _) (cq rfl))) aB rfl rfl) ?_;refine gt (az (Ei hl hli _ hg a rfl h2 t1) (bm rfl rfl) aB rfl rfl) ?_;refine gt (az (Ei hl hli _ hg a rfl h2 t2) (bm rfl rfl) aB rfl rfl) ?_;refine gD ?_;refine gR ?_;exact aq.keep (a6 rfl)
theorem Mj{E:Nat}{l:Li}(hl:l.ok)(hli:ay l=0){a:As}(al:AB a)(hc:ba a.rs=0)(h3:(llq a.rs).length<=2){i z0 z1:Int}{j0 j1:Jt}(hg:GrOk l ⟨2,[i],[z0,z1],0⟩)
  (h0:l.jo[z0.toNat]?=some j0) (h1:l.jo[z1.toNat]?=some j1) (p0:PinP E l a j0 i) (ha:j1.a=i) (hk:j1.kind≠0) (hb:Pd E a j1.b) (hE:E<=20000000000:=by omega) :
  Con prog 74 [.ptr 1000 0] [(1000,some (b8 l ⟨2,[i],[z0,z1],0⟩ a))] (.tup [um (aj l j0 i) (aM l a j0 i) (aX l i j1.point),aI (sX (bC l a j1.b j1.on).1) (sX (bC l a j1.b j1.on).2),aI (sX (bC l a j1.b j1.to).1) (sX (bC l a j1.b j1.to).2)]) [(1000,some (b8 l ⟨2,[i],[z0,z1],0⟩ a))]:=by
 obtain⟨i1,i2,i3,i4,i5⟩:=dx hli h1;rw[ha]at i1 i3;refine gF func74 (fun k z h=>bj h) ?_;refine gi (rfl) ?_;refine gt (aQ (DZ hl _ hg a rfl h1) (cq rfl) rfl rfl rfl) ?_;refine gD ?_;refine gt (az (r7 oz hl hli _ hg al hc (k:=0) rfl h0 h3 p0) (.cons (.tmp rfl) (.cons (.const _) (cq rfl))) aB rfl rfl) ?_;refine gt (az (my hl hli _ a i1 i3) (aE rfl rfl rfl) aB rfl rfl) ?_;refine gt (az (sK hl hli _ al hc i2 i4 oz h3 hb) (aE rfl rfl rfl) aB rfl rfl) ?_;refine gt (az (sK hl hli _ al hc i2 (i5 hk) oz h3 hb) (aE rfl rfl rfl) aB rfl rfl) ?_;refine gD ?_;refine gR ?_;exact aq.keep (a6 rfl)
structure Vr where
  w:List Rt
  x:List Rt
  y:List Rt
instance:Inhabited Vr:=⟨⟨[],[],[]⟩⟩
def Vr.av(v:Vr):AV:=.agg [nR v.w,nR v.x,nR v.y]
def Vr.l(v:Vr):List (List Rt):=[v.w,v.x,v.y]
theorem AL.ct{a:As}(h:AL a)(hc:ba a.rs=0):Ct (llq a.rs) 4000 300000:=by
 obtain⟨tw,_⟩:=db h.tr hc;exact⟨⟨40000,tw,le_trans (TW 40000 tw.three) oz⟩,by omega,by omega,by omega,by omega⟩
abbrev dh(rs:List (List Rt)):Blk:=.box [.lst 1 (rs.map nR),.v .nilIface]
theorem tN(rs:List (List Rt))(a:List Rat):Con prog 71 [.ptr 1000 0,nA a,.v .nilIface] [(1000,some (dh rs))] (nA a) [(1000,some (dh rs))]:=by
 refine gF func71 (fun k z h=>bj h) ?_;refine gC (fun t11=>?_) (fun t11=>?_) (st2:=(77777,0))
 ·refine gR ?_;exact aq.keep (a6 rfl)
 cases t11
theorem CB(rs:List (List Rt))(a b:List Rat):Con prog 75 [.ptr 1000 0,aI a b,.v .nilIface] [(1000,some (dh rs))] (aI a b) [(1000,some (dh rs))]:=by
 refine gF func75 (fun k z h=>bj h) ?_;refine gC (fun t11=>?_) (fun t11=>?_) (st2:=(77777,0))
 ·refine gR ?_;exact aq.keep (a6 rfl)
 cases t11
section
variable{rs:List (List Rt)}{r u k:Nat}{a b:List Rat}{x y:Et (llq rs)}{w v w' v':Nat}
theorem GQ (h : TR rs r) (hc : ba rs = 0) [c0 : Ct (llq rs) u k] [ha : Zl (llq rs) u k a x w v] [hb : Zl (llq rs) u k b y w' v'] (hs : w + v + (w' + v') <= 10000 := by decide) :
  Con prog 79 [.ptr 1000 0,nA a,nA b] [(1000,some (dh rs))] (nA (sX (x*y))) [(1000,some (dh rs))]:=by
 have hx:=H5 (ha:=ha) (hb:=hb) hs;rw[oS h hc]at hx;refine gF func79 (fun k z h=>bj h) ?_;refine gc hx ?_;refine gt (az (tN _ _) (aE rfl rfl rfl) aB rfl rfl) ?_;refine gR ?_;exact aq.keep (a6 rfl)
theorem TS (h : TR rs r) (hc : ba rs = 0) [c0 : Ct (llq rs) u k] [ha : Zl (llq rs) u k a x w v] [hb : Zl (llq rs) u k b y w' v'] (hs : w + v + (w' + v') <= 10000 := by decide) :
  Con prog 78 [.ptr 1000 0,nA a,nA b] [(1000,some (dh rs))] (nA (sX (x-y))) [(1000,some (dh rs))]:=by
 have hx:=CW (ha:=ha) (hb:=hb) hs;rw[oS h hc]at hx;refine gF func78 (fun k z h=>bj h) ?_;refine gc hx ?_;refine gt (az (tN _ _) (aE rfl rfl rfl) aB rfl rfl) ?_;refine gR ?_;exact aq.keep (a6 rfl)
end
structure DyW(l:Li)(a:As):Prop where
  hl:l.ok
  li:ay l=0
  al:AB a
  hc:ba a.rs=0
structure DyR(l:Li)(a:As):Prop extends DyW l a where
  s:DyS a
theorem DyR.two{l:Li}{a:As}(D:DyR l a):(llq a.rs).length<=2:=le_trans (D.s.one D.hc) oz
theorem xc{n:Nat}(hn:n<=1):kB 64990 n<=65000:=by
 have h1:=gT 64990 hn;have h2:eB 64990 1=64992:=by simp only[eB]
 show eB 64990 _<=_;omega
theorem Ia{n:Nat}(h3:n<=2):kB 400000000 n<=1200000006:=by
 have h9:=gT 400000000 h3;have h8:eB 400000000 2=1200000006:=by decide
 show eB 400000000 _<=_;omega
abbrev rL(l:Li)(a:As)(i:Int)(j0 j:Jt):List AV :=
  qC (aj l j0 i)++([nA (sX (aM l a j0 i).1),nA (sX (aM l a j0 i).2)]++(qC (cW l i j)++[nA (sh 0 (cG l i j0 j:Rat)),nA (sh 0 (ji l i j:Rat)),nA (sX (cA l a i j0 j)),nA (sX (co l a i j0 j).1),nA (sX (co l a i j0 j).2)]))
theorem Fp{l:Li}{a:As}(D:DyR l a){n:Nat}{i:Int}{j0 j:Jt}(h0:l.jo[n]?=some j0)(p0:PinP 3900000 l a j0 i){m:Nat}(h1:l.jo[m]?=some j)(hb:Pd 3900000 a j.a) :
  Zu 310000 65000 (co l a i j0 j).1 80 81/\Zu 310000 65000 (co l a i j0 j).2 80 81:=by
 obtain⟨i1,i2,i3,i4,_⟩:=dx D.li h1;obtain⟨z1,z2⟩:=lM D.hl D.li D.al D.s D.hc h0 p0;obtain⟨y1,y2⟩:=lX D.hl D.li D.al D.s D.hc i1 i3 hb;haveI c:=D.s.ct D.hc;haveI:=z1;haveI:=z2;haveI:=y1;haveI:=y2
 exact⟨(inferInstance:Zu 310000 65000 ((bC l a j.a j.point).1-(aM l a j0 i).1) _ _),(inferInstance:Zu 310000 65000 ((bC l a j.a j.point).2-(aM l a j0 i).2) _ _)⟩
theorem Qk{E:Nat}(hE:E<=20000000000){l:Li}{a:As}(D:DyW l a)(h3:(llq a.rs).length<=2){i z0 z1:Int}{j0 j:Jt}(hg:GrOk l ⟨3,[i],[z0,z1],0⟩)
  (h0:l.jo[z0.toNat]?=some j0) (h1:l.jo[z1.toNat]?=some j) (p0:PinP E l a j0 i) (hi:j.b=i) (hk:j.kind≠0) (hb:Pd E a j.a)
  (hsub:FP 76 [.agg [.lst 1 (a.rs.map nR)],aI (sX (bC l a j.a j.point).1) (sX (bC l a j.a j.point).2),aI (sX (aM l a j0 i).1) (sX (aM l a j0 i).2)] (.tup [aI (sX (co l a i j0 j).1) (sX (co l a i j0 j).2),.v .nilIface]))
  (hdot:FP 80 [.agg [.lst 1 (a.rs.map nR)],aI (sX (co l a i j0 j).1) (sX (co l a i j0 j).2),aI (sX (co l a i j0 j).1) (sX (co l a i j0 j).2)] (.tup [nA (sX (cA l a i j0 j)),.v .nilIface])) :
  Con prog 81 [.ptr 1000 0,.ptr 1001 0] [(1000,some (b8 l ⟨3,[i],[z0,z1],0⟩ a)),(1001,some (dh a.rs))] (.agg (rL l a i j0 j)) [(1000,some (b8 l ⟨3,[i],[z0,z1],0⟩ a)),(1001,some (dh a.rs))]:=by
 obtain⟨i1,i2,i3,i4,i5⟩:=dx D.li h1;have hs0:Sm 1000 (aj l j0 i):=gG D.hl D.li h0 (by rcases p0.tie with h9 |h9;exact .inl h9.1;exact .inr h9.2.1);subst hi;have hs1:=kR D.hl D.li i2 i4;have hs2:=kR D.hl D.li i2 (i5 hk);have hv:=hs2.sub hs1;refine gF func81 (fun k z h=>IB h) ?_;refine gi (rfl) ?_;refine gt (aQ (DZ D.hl _ hg a rfl h1) (cq rfl) rfl rfl rfl) ?_;refine gD ?_;refine gt (az (r7 hE D.hl D.li _ hg D.al D.hc (k:=0) rfl h0 h3 p0) (.cons (.tmp rfl) (.cons (.const _) (cq rfl))) aB rfl rfl) ?_;refine gt (aQ (my D.hl D.li _ a i2 i4) (aE rfl rfl rfl) rfl rfl rfl) ?_;refine gt (aQ (my D.hl D.li _ a i2 (i5 hk)) (aE rfl rfl rfl) rfl rfl rfl) ?_;refine gc (nI hs2 hs1 oz oz) ?_;refine gD ?_;refine gc (nI hs1 hs0 oz oz) ?_;refine gc (PC hv (hs1.sub hs0) oz oz) ?_;refine gc (kK ((hv.cross (hs1.sub hs0)).qs oz)) ?_;refine gc (Ay hv oz) ?_;refine gD ?_;refine gt (az (sK D.hl D.li _ D.al D.hc i1 i3 hE h3 hb) (aE rfl rfl rfl) aB rfl rfl) ?_;refine gC (fun t63=>?_) (fun t63=>?_) (st2:=(77777,0))
 ·refine gc hsub ?_;refine gt (az (Con.rB 1001 rfl rfl rfl rfl (CB _ _ _)) (aE rfl rfl rfl) aB rfl rfl) ?_;refine gD ?_;refine gc hdot ?_;refine gt (az (Con.rB 1001 rfl rfl rfl rfl (tN _ _)) (aE rfl rfl rfl) aB rfl rfl) ?_;refine gD ?_;refine gR ?_;exact aq.keep (lJ rfl rfl)
 cases t63
theorem Pr{l:Li}{a:As}(D:DyR l a){i z0 z1:Int}{j0 j:Jt}(hg:GrOk l ⟨3,[i],[z0,z1],0⟩)
  (h0:l.jo[z0.toNat]?=some j0) (h1:l.jo[z1.toNat]?=some j) (p0:PinP 3900000 l a j0 i) (hi:j.b=i) (hk:j.kind≠0) (hb:Pd 3900000 a j.a) :
  Con prog 81 [.ptr 1000 0,.ptr 1001 0] [(1000,some (b8 l ⟨3,[i],[z0,z1],0⟩ a)),(1001,some (dh a.rs))] (.agg (rL l a i j0 j)) [(1000,some (b8 l ⟨3,[i],[z0,z1],0⟩ a)),(1001,some (dh a.rs))]:=by
 obtain⟨i1,i2,i3,i4,i5⟩:=dx D.li h1;obtain⟨z1',z2'⟩:=lM D.hl D.li D.al D.s D.hc h0 p0;obtain⟨y1,y2⟩:=lX D.hl D.li D.al D.s D.hc i1 i3 hb;obtain⟨w1,w2⟩:=Fp D h0 p0 h1 hb;haveI c:=D.s.ct D.hc;haveI:=z1';haveI:=z2';haveI:=y1;haveI:=y2;haveI:=w1;haveI:=w2
 have hsub:=I8 (ts:=llq a.rs) (u:=310000) (k:=65000) (a:=sX (bC l a j.a j.point).1) (b:=sX (bC l a j.a j.point).2) (a2:=sX (aM l a j0 i).1) (b2:=sX (aM l a j0 i).2);have hdot:=TE (ts:=llq a.rs) (u:=310000) (k:=65000) (a:=sX (co l a i j0 j).1) (b:=sX (co l a i j0 j).2) (a2:=sX (co l a i j0 j).1) (b2:=sX (co l a i j0 j).2);rw[oS D.s.tr D.hc]at hsub hdot;exact Qk oz D.toDyW D.two hg h0 h1 p0 hi hk hb hsub hdot
theorem MD{l:Li}{a:As}(D:DyR l a){i:Int}{j0 j:Jt}{w v:Nat}[z1:Zl (llq a.rs) 310000 65000 (sh 0 (cG l i j0 j:Rat)) (qE (cG l i j0 j)) 3 0][z2:Zl (llq a.rs) 310000 65000 (sh 0 (ji l i j:Rat)) (qE (ji l i j)) 3 0][z3:Zu 310000 65000 (cA l a i j0 j) w v](hw:w+v<=2000) :
  Con prog 82 [.agg (rL l a i j0 j),.ptr 1001 0] [(1001,some (dh a.rs))] (nA (sX (qE (ji l i j)*cA l a i j0 j-qE (cG l i j0 j)*qE (cG l i j0 j)))) [(1001,some (dh a.rs))]:=by
 haveI c:=D.s.ct D.hc;haveI:=z1.zu;haveI:=z2.zu
 have m1:=GQ (a:=sh 0 (ji l i j:Rat)) (b:=sX (cA l a i j0 j)) D.s.tr D.hc oz;have m2:=GQ (a:=sh 0 (cG l i j0 j:Rat)) (b:=sh 0 (cG l i j0 j:Rat)) D.s.tr D.hc oz;have m3:=TS (a:=sX (qE (ji l i j)*cA l a i j0 j)) (b:=sX (qE (cG l i j0 j)*qE (cG l i j0 j):Et (llq a.rs))) D.s.tr D.hc oz;refine gF func82 (fun k z h=>by have:=(fc h).1;omega) ?_;refine gt (az (Con.rB 1001 rfl rfl rfl rfl m1) (aE rfl rfl rfl) aB rfl rfl) ?_;refine gt (az (Con.rB 1001 rfl rfl rfl rfl m2) (aE rfl rfl rfl) aB rfl rfl) ?_;refine gt (az (Con.rB 1001 rfl rfl rfl rfl m3) (aE rfl rfl rfl) aB rfl rfl) ?_;refine gD ?_;refine gR ?_;exact aq.keep (a6 rfl)
abbrev Ci:Type:=List Rat×List Rat×List Rat
abbrev Bb(c:Ci):AV:=.agg [nA c.1,nA c.2.1,nA c.2.2]
structure CiZ(rs:List (List Rt))(c:Ci):Prop where
  x:Nm (llq rs).length 2500000000 c.1
  y:Nm (llq rs).length 2500000000 c.2.1
  r:Nm (llq rs).length 2500000000 c.2.2
  sg:0<=ak (dE (llq rs) c.2.2)
theorem Iy{ts:LL}(p q:Et ts×Et ts):dotE (q.1-p.1) (q.2-p.2) (q.1-p.1) (q.2-p.2)=aD p q:=by
 unfold aD pj br dotE;dsimp only;grind
theorem Ez{ts:LL}(c:Ct ts 310000 65000){x y x2 y2:Et ts}(h1:Zu 310000 65000 x 40 40)(h2:Zu 310000 65000 y 40 40)(h3:Zu 310000 65000 x2 40 40)(h4:Zu 310000 65000 y2 40 40):Zu 310000 65000 (aD (x,y) (x2,y2)) 320 327:=by
 haveI:=c;haveI:=h1;haveI:=h2;haveI:=h3;haveI:=h4
 exact(inferInstance:Zu 310000 65000 (dotE (x-x2) (y-y2) (x-x2) (y-y2)) _ _)
section
variable{rs:List (List Rt)}{r:Nat}{a b c a2 b2 c2:List Rat}
theorem Fb(h:TR rs r)(hc:ba rs=0){e:Nat}(ha:Nm (llq rs).length e a)(hb:Nm (llq rs).length e b)(he:e<=lm (llq rs).length):FP 273 [de rs,aI a b] (.v .nilIface):=by
 obtain⟨tw,etw⟩:=db h hc;have hca:=mO tw [(a,b)] (fun p hp=>by rw[List.mem_singleton.1 hp];exact⟨ha,hb⟩) he (by show 1<=500;omega);rw[<- etw]at hca;refine ai func273 ?_;refine gc hca ?_;refine af ?_;rfl
theorem Bg(h:TR rs r)(hc:ba rs=0){e:Nat}(ha:Nm (llq rs).length e a)(hb:Nm (llq rs).length e b)(hn:Nm (llq rs).length e c)(he:e+1<=lm (llq rs).length):FP 272 [de rs,.agg [nA a,nA b,nA c]] (.v .nilIface):=by
 obtain⟨tw,etw⟩:=db h hc;have hneg:=xb tw hn oz;rw[<- etw]at hneg;refine ai func272 ?_;refine gc (Fb h hc ha hb oz) ?_;refine gC (fun t13=>?_) (fun t13=>?_) (st1:=(3,0));cases t13;refine gc hneg ?_;refine af ?_;rfl
theorem BI(h:TR rs r)(hc:ba rs=0)(cs:List Ci)(hz:∀c∈cs,CiZ rs c)(hl:cs.length<=100):FP 274 [de rs,.lst 3 (cs.map Bb)] (.v .nilIface):=by
 obtain⟨tw,etw⟩:=db h hc;have hlm:=iJ (llq rs).length;refine ai func274 ?_;refine gl ?_;refine aN [2,9,10] [2] (fun(i:Nat)=>[(11,some (i64 i))]) (fun _=>[]) (fun i=>i<=cs.length) (fun i=>cs.length-i) 0 (zero_le _) ?_;rintro i hi K1 J1;refine gC (fun t12=>?_) (fun t12=>?_)
 ·have hin:=aS t12;obtain⟨z,hzi⟩:=ax hin;have hz9:=hz z (mem_of_getElem? hzi);have hs:=Al tw hz9.r oz;rw[<- etw]at hs;refine gi (aA hzi) ?_;refine gc hs ?_;refine gC (fun t23=>?_) (fun t23=>?_) (st1:=(6,0));cases t23;refine gC (fun t26=>?_) (fun t26=>?_) (st1:=(8,0));exact absurd t26 (by have h9:=hz9.sg;unfold ak dE at h9;simp only[aa,decide_eq_true_eq];omega);refine ga aF ?_;exact aH J1 (i+1) hin
 refine af ?_;rfl
theorem JR(h:TR rs r)(hc:ba rs=0)(cs:List Ci)(hz:∀c∈cs,CiZ rs c)(hl:cs.length<=100):FP 167 [de rs,.lst 3 (cs.map Bb)] (.v .nilIface):=by
 have hlm:=iJ (llq rs).length;have hck:=mN rs r h;rw[hc]at hck;refine ai func167 ?_;refine gc hck ?_;refine gC (fun t12=>?_) (fun t12=>?_) (st1:=(3,0));cases t12;refine gl ?_;refine aN [1,2,14,15] [2] (fun(i:Nat)=>[(16,some (i64 i))]) (fun _=>[]) (fun i=>i<=cs.length) (fun i=>cs.length-i) 0 (zero_le _) ?_;rintro i hi K1 J1;refine gC (fun t17=>?_) (fun t17=>?_)
 ·have hin:=aS t17;obtain⟨z,hzi⟩:=ax hin;have hz9:=hz z (mem_of_getElem? hzi);refine gi (aA hzi) ?_;refine gc (Bg h hc hz9.x hz9.y hz9.r oz) ?_;refine gC (fun t24=>?_) (fun t24=>?_) (st1:=(9,0));cases t24;refine ga aF ?_;exact aH J1 (i+1) hin
 refine gc (BI h hc cs hz hl) ?_;refine af ?_;rfl
theorem K7(h:TR rs r)(hc:ba rs=0){x y x2 y2:Et (llq rs)}[c0:Ct (llq rs) 310000 65000][i1:Zl (llq rs) 310000 65000 a x 40 40][i2:Zl (llq rs) 310000 65000 b y 40 40][i4:Zl (llq rs) 310000 65000 a2 x2 40 40][i5:Zl (llq rs) 310000 65000 b2 y2 40 40] :
  FP 282 [de rs,aI a b,aI a2 b2] (.tup [nA (sX (aD (x,y) (x2,y2))),.v .nilIface]):=by
 obtain⟨_,etw⟩:=db h hc;obtain⟨R,tw,hk⟩:=c0.ex;have kk:=c0.kk hk;obtain⟨K,hK⟩:∃K,40*310000+40*65000=K:=⟨_,rfl⟩
 have hlm:=iJ (llq rs).length;have n1:=i1.nm;have n2:=i2.nm;have n4:=i4.nm;have n5:=i5.nm
 have hca:=mO tw [(a,b),(a2,b2)] (e:=40*310000+40*65000) (fun p hp=>by
  simp only[mem_cons,not_mem_nil,or_false]at hp;rcases hp with rfl |rfl
  ·exact⟨n1,n2⟩
  ·exact⟨n4,n5⟩) oz (by show 2<=500;omega)
 rw[<- etw]at hca;have hle:=uH tw n4 n5 n1 n2 oz;have m1:=n4.sub n1;have m2:=n5.sub n2;have hdo:=Cp tw m1 m2 m1 m2 oz;rw[i1.eq,i2.eq,i4.eq,i5.eq]at hle;rw[i1.eq,i2.eq,i4.eq,i5.eq,a7,a7]at hdo;have hd2:=Iy (x,y) (x2,y2);refine ai func282 ?_;refine gc hca ?_;refine gC (fun t17=>?_) (fun t17=>?_) (st1:=(3,0)) (st2:=(5,0));cases t17;refine gW (Wk.of (sl:=[(4,some (.ptr 4 0)),(5,some (.ptr 5 0)),(9,some (.ptr 21 0))]) (hp:=[(4,some (.box [nA a,nA b])),(5,some (.box [nA a2,nA b2])),(21,some (.box [.lst 1 ((llq rs).map nA),.v .nilIface]))]) aW (.k (.k (.cons rfl (BlkSub.bL (.cons (.of (me etw)) (.cons (.refl _) .nil)) rfl) .nil)))) ?_;refine gt (az (Con.rB 21 rfl rfl rfl rfl hle) (aE rfl rfl rfl) aB rfl rfl) ?_;refine gt (az (Con.rB 21 rfl rfl rfl rfl hdo) (aE rfl rfl rfl) aB rfl rfl) ?_;refine gt (az (Con.rB 21 rfl rfl rfl rfl (yK _ _)) (bm rfl rfl) aB rfl rfl) ?_;refine bh ?_;rw[<- hd2];rfl
theorem sU(rs:List (List Rt))(a:List Rat):Con prog 275 [.ptr 1000 0,nA a,.v .nilIface] [(1000,some (dh rs))] (nA a) [(1000,some (dh rs))]:=by
 refine gF func275 (fun k z h=>bj h) ?_;refine gC (fun t11=>?_) (fun t11=>?_) (st2:=(77777,0))
 ·refine gR ?_;exact aq.keep (a6 rfl)
 cases t11
end
section
variable{rs:List (List Rt)}{r u k:Nat}{a b:List Rat}{x y:Et (llq rs)}{w v w' v':Nat}
theorem Q6 (h : TR rs r) (hc : ba rs = 0) [c0 : Ct (llq rs) u k] [ha : Zl (llq rs) u k a x w v] [hb : Zl (llq rs) u k b y w' v'] (hs : w + v + (w' + v') <= 10000 := by decide) :
  Con prog 270 [.ptr 1000 0,nA a,nA b] [(1000,some (dh rs))] (nA (sX (x+y))) [(1000,some (dh rs))]:=by
 have hx:=Uj (ha:=ha) (hb:=hb) hs;rw[oS h hc]at hx;refine gF func270 (fun k z h=>bj h) ?_;refine gc hx ?_;refine gt (az (sU _ _) (aE rfl rfl rfl) aB rfl rfl) ?_;refine gR ?_;exact aq.keep (a6 rfl)
theorem Ej (h : TR rs r) (hc : ba rs = 0) [c0 : Ct (llq rs) u k] [ha : Zl (llq rs) u k a x w v] [hb : Zl (llq rs) u k b y w' v'] (hs : w + v + (w' + v') <= 10000 := by decide) :
  Con prog 266 [.ptr 1000 0,nA a,nA b] [(1000,some (dh rs))] (nA (sX (x-y))) [(1000,some (dh rs))]:=by
 have hx:=CW (ha:=ha) (hb:=hb) hs;rw[oS h hc]at hx;refine gF func266 (fun k z h=>bj h) ?_;refine gc hx ?_;refine gt (az (sU _ _) (aE rfl rfl rfl) aB rfl rfl) ?_;refine gR ?_;exact aq.keep (a6 rfl)
theorem AG (h : TR rs r) (hc : ba rs = 0) [c0 : Ct (llq rs) u k] [ha : Zl (llq rs) u k a x w v] [hb : Zl (llq rs) u k b y w' v'] (hs : w + v + (w' + v') <= 10000 := by decide) :
  Con prog 276 [.ptr 1000 0,nA a,nA b] [(1000,some (dh rs))] (nA (sX (x*y))) [(1000,some (dh rs))]:=by
 have hx:=H5 (ha:=ha) (hb:=hb) hs;rw[oS h hc]at hx;refine gF func276 (fun k z h=>bj h) ?_;refine gc hx ?_;refine gt (az (sU _ _) (aE rfl rfl rfl) aB rfl rfl) ?_;refine gR ?_;exact aq.keep (a6 rfl)
theorem Ue (h : TR rs r) (hc : ba rs = 0) [c0 : Ct (llq rs) u k] (n : Int) (hn : -9223372036854775808 <= n /\ n <= 9223372036854775807) [hq : Qz u (n : Rat) w'] [ha : Zl (llq rs) u k a x w v] (hs : w' + 0 + (w + v) <= 10000 := by decide) :
  Con prog 267 [.ptr 1000 0,i64 n,nA a] [(1000,some (dh rs))] (nA (sX (qE (n:Rat)*x))) [(1000,some (dh rs))]:=by
 have hm:=AG (a:=sh 0 ((n:Rat):Rat)) (b:=a) h hc hs;refine gF func267 (fun k z h=>bj h) ?_;refine gc (km n hn) ?_;refine gc (kK (oA hn)) ?_;refine gt (az hm (aE rfl rfl rfl) aB rfl rfl) ?_;refine gR ?_;exact aq.keep (a6 rfl)
end
section
variable{rs:List (List Rt)}{r:Nat}{a b c a2 b2 c2:List Rat}{x y z x2 y2 z2:Et (llq rs)}
theorem I3(h:TR rs r)(hc:ba rs=0)[c0:Ct (llq rs) 310000 65000][i1:Zl (llq rs) 310000 65000 a x 40 40][i2:Zl (llq rs) 310000 65000 b y 40 40][i3:Zl (llq rs) 310000 65000 c z 3 0][i4:Zl (llq rs) 310000 65000 a2 x2 40 40][i5:Zl (llq rs) 310000 65000 b2 y2 40 40][i6:Zl (llq rs) 310000 65000 c2 z2 3 0] :
  Con prog 168 [.ptr 1000 0,.agg [nA a,nA b,nA c],.agg [nA a2,nA b2,nA c2]] [(1000,some (dh rs))] (.tup [nA (sX (bu (x,y) z (x2,y2) z2)),nA (sX (aD (x,y) (x2,y2)))]) [(1000,some (dh rs))]:=by
 have hd:=K7 (a:=a) (b:=b) (a2:=a2) (b2:=b2) h hc;haveI:=i3.zu;haveI:=i6.zu;haveI zd:=Ez c0 i1.zu i2.zu i4.zu i5.zu;haveI q4:Qz 310000 ((4:Int):Rat) 1:=Qz.int (c:=Ct.cx (c:=c0)) (by decide);have m1:=Q6 (a:=c) (b:=sX (aD (x,y) (x2,y2))) h hc (by decide);have m2:=Ej (a:=sX (z+aD (x,y) (x2,y2))) (b:=c2) h hc (by decide);have m3:=AG (a:=c) (b:=sX (aD (x,y) (x2,y2))) h hc (by decide);have m4:=Ue (a:=sX (z*aD (x,y) (x2,y2))) h hc 4 oz (by decide);have m5:=AG (a:=sX (z+aD (x,y) (x2,y2)-z2)) (b:=sX (z+aD (x,y) (x2,y2)-z2)) h hc (by decide);have m6:=Ej (a:=sX (qE ((4:Int):Rat)*(z*aD (x,y) (x2,y2)))) (b:=sX ((z+aD (x,y) (x2,y2)-z2)*(z+aD (x,y) (x2,y2)-z2))) h hc (by decide);refine gF func168 (fun k z h=>bj h) ?_;refine gc hd ?_;refine gt (aQ (sU _ _) (aE rfl rfl rfl) rfl rfl rfl) ?_;refine gD ?_;refine gt (aQ m1 (aE rfl rfl rfl) rfl rfl rfl) ?_;refine gt (aQ m2 (aE rfl rfl rfl) rfl rfl rfl) ?_;refine gD ?_;refine gt (aQ m3 (aE rfl rfl rfl) rfl rfl rfl) ?_;refine gt (aQ m4 (.cons (.tmp rfl) (.cons (.const _) (cq rfl))) rfl rfl rfl) ?_;refine gt (aQ m5 (aE rfl rfl rfl) rfl rfl rfl) ?_;refine gt (aQ m6 (aE rfl rfl rfl) rfl rfl rfl) ?_;refine gR ?_;exact aq.keep (a6 rfl)
end
class Cy(ts:LL)(u k:outParam Nat):Prop where
  ex:∃R,Tw ts R/\eB R ts.length<=k
  k1:1<=k
  u3:3<=u
  two:ts.length<=2
instance Cy.cx{ts:LL}{u k:Nat}[c:Cy ts u k]:Cx (au ts) ts.length u k:=by
  obtain⟨R,tw,h⟩:=c.ex;exact⟨⟨R,E1 tw▸tw,h⟩,c.k1,c.u3⟩
theorem Cy.zq{ts:LL}{u k:Nat}[c:Cy ts u k]{q:Rat}{w:Nat}[h:Qz u q w]:Zl ts u k (sh 0 (q:Rat)) (qE q:Et ts) w 0:=⟨fR _ q,by
 obtain⟨R,tw,_⟩:=c.ex;exact(Nm.ofQ tw.five h.cb).eq oz⟩
theorem Cy.lm{ts:LL}{u k:Nat}(c:Cy ts u k):lm ts.length=200000000000:=by unfold Go.Lw.lm;rw[if_pos c.two]
def iE{ts:LL}(y:Et ts):Et ts:=T.inv (au ts) ts.length y
abbrev aY(ts:LL):Blk:=.box [.lst 1 (ts.map nA),.v .nilIface]
theorem xh(ts:LL):dh (ts.map (List.map rt))=aY ts:=by
 have h:=jp ts;unfold de aO at h;have h1:=AV.agg.inj h
 injection h1 with h2
 show Blk.box [.lst 1 ((ts.map (List.map rt)).map nR),.v .nilIface]=_;rw[h2]
section
variable{ts:LL}{u k:Nat}{a b:List Rat}{x y:Et ts}{w v w' v':Nat}
theorem QY[c:Cy ts u k][ha:Zl ts u k a x w v][hb:Zl ts u k b y w' v'](hs:w*u+v*k+(w'*u+v'*k)<200000000000):FP 356 [aO ts,nA a,nA b] (.tup [nA (sX (x+y)),.v .nilIface]):=by
 obtain⟨R,tw,hk⟩:=c.ex;have h1:=w9 tw ha.nm hb.nm (by rw[c.lm];omega);rw[ha.eq,hb.eq]at h1;exact h1
theorem Ts[c:Cy ts u k][ha:Zl ts u k a x w v][hb:Zl ts u k b y w' v'](hs:w*u+v*k+(w'*u+v'*k)<200000000000):FP 176 [aO ts,nA a,nA b] (.tup [nA (sX (x-y)),.v .nilIface]):=by
 obtain⟨R,tw,hk⟩:=c.ex;have h1:=nv tw ha.nm hb.nm (by rw[c.lm];omega);rw[ha.eq,hb.eq]at h1;exact h1
theorem Je[c:Cy ts u k][ha:Zl ts u k a x w v][hb:Zl ts u k b y w' v'](hs:w*u+v*k+(w'*u+v'*k)<200000000000):FP 127 [aO ts,nA a,nA b] (.tup [nA (sX (x*y)),.v .nilIface]):=by
 obtain⟨R,tw,hk⟩:=c.ex;have h1:=z6 tw ha.nm hb.nm (by rw[c.lm];omega);rw[ha.eq,hb.eq]at h1;exact h1
theorem F9[c:Cy ts u k][ha:Zl ts u k a x w v](hs:w*u+v*k<200000000000):FP 147 [aO ts,nA a] (.tup [nA (sX (-x)),.v .nilIface]):=by
 obtain⟨R,tw,hk⟩:=c.ex;have h1:=xb tw ha.nm (by rw[c.lm];omega);rw[ha.eq]at h1;exact h1
theorem D7[c:Cy ts u k][ha:Zl ts u k a x w v](hs:w*u+v*k<200000000000):FP 116 [aO ts,nA a] (.tup [i64 (ak x),.v .nilIface]):=by
 obtain⟨R,tw,hk⟩:=c.ex;have h1:=Al tw ha.nm (by rw[c.lm];omega);rw[ha.eq]at h1;exact h1
theorem Ig{j m:Nat}[c:Cy ts u k][ha:Zl ts u k a x w v][hb:Zl ts u k b y w' v'](nb:Nl j b)(hj:j<=ts.length)(h0:ak y≠0)(hm:∀R,eB R ts.length<=k->iB R j (w'*u+v'*k)<=m)(hf:w'*u+v'*k<200000000000)(hs:w*u+v*k+m+k<=200000000000) :
  FP 281 [aO ts,nA a,nA b] (.tup [nA (sX (x*iE y)),.v .nilIface])/\Nm ts.length (w*u+v*k+m+k) (sX (x*iE y)):=by
 obtain⟨R,tw,hk⟩:=c.ex;have hi:=hm R hk;have he:=hb.eq;have h1:T.sgn (au ts) ts.length (ae ts.length b)≠0:=by rw[he];exact h0
 have hd:=xS tw ha.nm hb.nm hj nb h1 (by rw[c.lm];omega) oz;have hn:=yf tw ha.nm hb.nm hj nb h1 (by rw[c.lm];omega) oz;rw[ha.eq,he]at hd hn;exact⟨hd,hn.mono oz⟩
theorem o8{j:Nat}[c:Cy ts u k][ha:Zl ts u k a x w v][hb:Zl ts u k b y w' v'](nb:Nl j b)(hj:j<=ts.length)(hj1:j<=1)(h0:ak y≠0)(hs:(w+5*w')*u+(v+5*v'+3)*k<=200000000000) :
  FP 281 [aO ts,nA a,nA b] (.tup [nA (sX (x*iE y)),.v .nilIface])/\Zu u k (x*iE y) (w+5*w') (v+5*v'+3):=by
 have e:(w+5*w')*u+(v+5*v'+3)*k=w*u+v*k+(5*(w'*u+v'*k)+2*k)+k:=by
  simp only[Nat.add_mul,Nat.mul_add,Nat.mul_assoc];omega
 rw[e]at hs
 have h:=Ig (a:=a) (b:=b) (m:=5*(w'*u+v'*k)+2*k) nb hj h0 (fun R hR=>by
  have h2:=RL R (w'*u+v'*k) hj1;have h3:=gT R hj;omega) oz hs
 exact⟨h.1,⟨h.2.eq e.symm⟩⟩
theorem nJ(ts:LL)(a:List Rat):Con prog 275 [.ptr 1000 0,nA a,.v .nilIface] [(1000,some (aY ts))] (nA a) [(1000,some (aY ts))]:=by
 have h:=sU (ts.map (List.map rt)) a;rw[xh]at h;exact h
theorem p4(ts:LL)(a:List Rat):Con prog 71 [.ptr 1000 0,nA a,.v .nilIface] [(1000,some (aY ts))] (nA a) [(1000,some (aY ts))]:=by
 have h:=tN (ts.map (List.map rt)) a;rw[xh]at h;exact h
theorem jy[c:Cy ts u k][ha:Zl ts u k a x w v][hb:Zl ts u k b y w' v'](hs:w*u+v*k+(w'*u+v'*k)<200000000000) :
  Con prog 270 [.ptr 1000 0,nA a,nA b] [(1000,some (aY ts))] (nA (sX (x+y))) [(1000,some (aY ts))]:=by
 refine gF func270 (fun k z h=>bj h) ?_;refine gc (QY hs) ?_;refine gt (az (nJ _ _) (aE rfl rfl rfl) aB rfl rfl) ?_;refine gR ?_;exact aq.keep (a6 rfl)
theorem ka[c:Cy ts u k][ha:Zl ts u k a x w v][hb:Zl ts u k b y w' v'](hs:w*u+v*k+(w'*u+v'*k)<200000000000) :
  Con prog 266 [.ptr 1000 0,nA a,nA b] [(1000,some (aY ts))] (nA (sX (x-y))) [(1000,some (aY ts))]:=by
 refine gF func266 (fun k z h=>bj h) ?_;refine gc (Ts hs) ?_;refine gt (az (nJ _ _) (aE rfl rfl rfl) aB rfl rfl) ?_;refine gR ?_;exact aq.keep (a6 rfl)
theorem iR[c:Cy ts u k][ha:Zl ts u k a x w v][hb:Zl ts u k b y w' v'](hs:w*u+v*k+(w'*u+v'*k)<200000000000) :
  Con prog 276 [.ptr 1000 0,nA a,nA b] [(1000,some (aY ts))] (nA (sX (x*y))) [(1000,some (aY ts))]:=by
 refine gF func276 (fun k z h=>bj h) ?_;refine gc (Je hs) ?_;refine gt (az (nJ _ _) (aE rfl rfl rfl) aB rfl rfl) ?_;refine gR ?_;exact aq.keep (a6 rfl)
theorem sT{q:List Rat}(hd:FP 281 [aO ts,nA a,nA b] (.tup [nA q,.v .nilIface])) :
  Con prog 269 [.ptr 1000 0,nA a,nA b] [(1000,some (aY ts))] (nA q) [(1000,some (aY ts))]:=by
 refine gF func269 (fun k z h=>bj h) ?_;refine gc hd ?_;refine gt (az (nJ _ _) (aE rfl rfl rfl) aB rfl rfl) ?_;refine gR ?_;exact aq.keep (a6 rfl)
theorem oX[c:Cy ts u k][ha:Zl ts u k a x w v](hs:w*u+v*k<200000000000) :
  Con prog 263 [.ptr 1000 0,nA a] [(1000,some (aY ts))] (i64 (ak x)) [(1000,some (aY ts))]:=by
 refine gF func263 (fun k z h=>bj h) ?_;refine gC (fun t11=>?_) (fun t11=>?_) (st1:=(2,0));cases t11;refine gc (D7 hs) ?_;refine gR ?_;exact aq.keep (a6 rfl)
theorem wF{q:List Rat}(hd:FP 281 [aO ts,nA a,nA b] (.tup [nA q,.v .nilIface])) :
  Con prog 163 [.ptr 1000 0,nA a,nA b] [(1000,some (aY ts))] (nA q) [(1000,some (aY ts))]:=by
 refine gF func163 (fun k z h=>bj h) ?_;refine gc hd ?_;refine gt (az (p4 _ _) (aE rfl rfl rfl) aB rfl rfl) ?_;refine gR ?_;exact aq.keep (a6 rfl)
theorem yD[c:Cy ts u k][ha:Zl ts u k a x w v](hs:w*u+v*k<200000000000) :
  Con prog 160 [.ptr 1000 0,nA a] [(1000,some (aY ts))] (i64 (ak x)) [(1000,some (aY ts))]:=by
 refine gF func160 (fun k z h=>bj h) ?_;refine gC (fun t11=>?_) (fun t11=>?_) (st1:=(2,0));cases t11;refine gc (D7 hs) ?_;refine gR ?_;exact aq.keep (a6 rfl)
theorem yx[c:Cy ts u k](n:Int)(hn:-9223372036854775808<=n/\n<=9223372036854775807)[hq:Qz u (n:Rat) w'][ha:Zl ts u k a x w v](hs:w'*u+0*k+(w*u+v*k)<200000000000) :
  Con prog 267 [.ptr 1000 0,i64 n,nA a] [(1000,some (aY ts))] (nA (sX (qE (n:Rat)*x))) [(1000,some (aY ts))]:=by
 haveI:=Cy.zq (ts:=ts) (u:=u) (k:=k) (q:=(n:Rat)) (w:=w');have hm:=iR (ts:=ts) (u:=u) (k:=k) (a:=sh 0 ((n:Rat):Rat)) (b:=a) (x:=qE (n:Rat)) (y:=x) hs;refine gF func267 (fun k z h=>bj h) ?_;refine gc (km n hn) ?_;refine gc (kK (oA hn)) ?_;refine gt (az hm (aE rfl rfl rfl) aB rfl rfl) ?_;refine gR ?_;exact aq.keep (a6 rfl)
theorem qF{p1 p2 v1 v2 c m1 m2 q1 q2:List Rat}(h1:Con prog 276 [.ptr 1000 0,nA c,nA v1] [(1000,some (aY ts))] (nA m1) [(1000,some (aY ts))])
  (h2:Con prog 276 [.ptr 1000 0,nA c,nA v2] [(1000,some (aY ts))] (nA m2) [(1000,some (aY ts))])
  (h3:Con prog 270 [.ptr 1000 0,nA p1,nA m1] [(1000,some (aY ts))] (nA q1) [(1000,some (aY ts))])
  (h4:Con prog 270 [.ptr 1000 0,nA p2,nA m2] [(1000,some (aY ts))] (nA q2) [(1000,some (aY ts))]) :
  Con prog 268 [.ptr 1000 0,aI p1 p2,nA c,aI v1 v2] [(1000,some (aY ts))] (aI q1 q2) [(1000,some (aY ts))]:=by
 refine gF func268 (fun k z h=>bj h) ?_;refine gt (az h1 (aE rfl rfl rfl) aB rfl rfl) ?_;refine gt (az h3 (aE rfl rfl rfl) aB rfl rfl) ?_;refine gt (az h2 (aE rfl rfl rfl) aB rfl rfl) ?_;refine gt (az h4 (aE rfl rfl rfl) aB rfl rfl) ?_;refine gD ?_;refine gR ?_;exact aq.keep (a6 rfl)
theorem GE{r e:Nat}(tw:Tw ts r)(ha:Nm ts.length e a)(he:e<=lm ts.length)(hs:0<=T.sgn (au ts) ts.length (ae ts.length a)) :
  Con prog 271 [.ptr 1000 0,nA a] [(1000,some (aY ts))] (nA (bY ts.length)) [(1000,some (aY (aG ts a)))]:=by
 refine gF func271 (fun k z h=>bj h) ?_;refine gC (fun t12=>?_) (fun t12=>?_) (st1:=(2,0));cases t12;refine gc (GY tw ha he hs) ?_;refine gC (fun t24=>?_) (fun t24=>?_) (st1:=(5,0));cases t24;refine gR ?_;exact aq.keep (a6 rfl)
abbrev Aa(ts:LL)(ps:List AV):AV:=.agg [.lst 1 (ts.map nA),.lst 2 ps]
theorem Lq{r:Nat}(tw:Tw ts r):Con prog 355 [.ptr 1000 0] [(1000,some (aY ts))] (aO ts) [(1000,some (aY ts))]:=by
 have h3:=tw.three;have hqs:=tw.rb.qs tw.le;refine gF func355 (fun k z h=>bj h) ?_;refine gl ?_;refine gW (Wk.virt 900 1 rfl) ?_;refine aN [2,3,13,14] [1000,2] (fun(i:Nat)=>[(15,some (i64 i))]) (fun i=>[(3,some (.box [.ms 900 1 0 i])),(900,some (.row 1 ((ts.take i).map nA)))]) (fun i=>i<=ts.length) (fun i=>ts.length-i) 0 (zero_le _) ?_ (h2:=(.cons rfl (BlkSub.bL (.cons (.nM _ _ _) .nil) rfl) (.k .nil)));rintro i hi K1 J1;refine gC (fun t16=>?_) (fun t16=>?_) (st2:=(13,0))
 ·have hin:=aS t16;obtain⟨d,hd⟩:=ax hin
  have hdl:d.length<=32:=by
   have h9:=tw.len i hin;rw[aC hd]at h9;have:2^i<=32:=b7 (b:=5) oz;omega
  have hdq:=hqs d (mem_of_getElem? hd);refine gi (aA hd) ?_;refine gl ?_;refine gW (Wk.virt 901 3 rfl) ?_;refine aN [2,3,13,14,15,19,20] [1000,2,3,900] (fun(j:Nat)=>[(6,some (.ms 901 3 0 j)),(21,some (i64 j))]) (fun j=>[(901,some (.row 3 ((d.take j).map qA)))]) (fun j=>j<=d.length) (fun j=>d.length-j) 0 (zero_le _) ?_;rintro j hj K2 J2;refine gC (fun t22=>?_) (fun t22=>?_) (st2:=(11,0))
  ·have hjn:=aS t22;obtain ⟨q,hq⟩:=ax hjn;have hadd:=mQ (rt q) (rt 0) (hdq q (mem_of_getElem? hq)).ok Qs.zero.ok;rw [sP,bZ] at hadd;refine gi (aA hq) ?_;refine gc (Con.sA (.cons (.refl _) (.cons ja .nil)) hadd) ?_;refine gs (ci (.tmp rfl) rfl (by rw [length_map,length_take]; omega) (.tmp rfl) T67 rfl T45 rfl rfl (by simp only [length_cons,length_nil]; omega) rfl rfl) ?_ (10,0);refine gW (Wk.of (sl:=[(2,some (.ptr 2 0)),(3,some (.ptr 3 0)),(13,some (.lst 1 (ts.map nA))),(14,some (i64 ts.length)),(15,some (i64 i)),(6,some (.ms 30 3 0 (j + 1))),(19,some (nA d)),(20,some (i64 d.length)),(21,some (i64 j))]) (hp:=[(1000,some (aY ts)),(2,some (.box [nS])),(3,some (.box [.ms 900 1 0 i])),(900,some (.row 1 ((ts.take i).map nA))),(30,some (.row 3 ((d.take (j + 1)).map qA)))]) aW (.k (.k (.k (.k (.cons rfl (BlkSub.of (by rw [dG hq,map_append]; rfl)) .nil)))))) ?_ (10,0)
   refine gW (Wk.rk (k:=30) (d:=901) rfl rfl) ?_;refine ga aF ?_;exact aH J2 (j+1) hjn
  have hjn:=aZ hj t22;subst hjn;refine gW ((Wk.freeze (k:=901) rfl).trans<|Wk.of (sl:=[(2,some (.ptr 2 0)),(3,some (.ptr 3 0)),(13,some (.lst 1 (ts.map nA))),(14,some (i64 ts.length)),(15,some (i64 i)),(6,some (nA d))]) (hp:=[(1000,some (aY ts)),(2,some (.box [nS])),(3,some (.box [.ms 900 1 0 i])),(900,some (.row 1 ((ts.take i).map nA)))]) (.k (.k (.k (.k (.k (.cons rfl (Sub.of (by rw[bJ (by simp)];simp[nA])) .nil)))))) (.k (.k (.k (.k .nil))))) ?_
  refine gs (ci (.tmp rfl) rfl (by rw[length_map,length_take];omega) (.tmp rfl) T35 rfl T67 rfl rfl (by simp only[length_cons,length_nil];omega) rfl rfl) ?_ (12,0);refine gW (Wk.of (sl:=[(2,some (.ptr 2 0)),(3,some (.ptr 3 0)),(13,some (.lst 1 (ts.map nA))),(14,some (i64 ts.length)),(15,some (i64 i))]) (hp:=[(1000,some (aY ts)),(2,some (.box [nS])),(3,some (.box [.ms 36 1 0 (i+1)])),(36,some (.row 1 ((ts.take (i+1)).map nA)))]) aW (.k (.k (.k (.cons rfl (BlkSub.of (by rw[dG hd,map_append];rfl)) .nil))))) ?_ (12,0);refine gW (Wk.rk (k:=36) (d:=900) rfl rfl) ?_;refine ga aF ?_;exact aH J1 (i+1) hin
 have hin:=aZ hi t16;subst hin;refine gW ((Wk.freeze (k:=900) rfl).trans<|Wk.of (sl:=[(2,some (.ptr 2 0)),(3,some (.ptr 3 0))]) (hp:=[(1000,some (aY ts)),(2,some (.box [nS])),(3,some (.box [.lst 1 (ts.map nA)]))]) aW (.k (.k (.cons rfl (BlkSub.bL (.cons (Sub.of (by rw[bJ (by simp)];simp)) .nil) rfl) .nil)))) ?_;refine gR ?_;exact aq.keep (a6 rfl)
theorem lY{r:Nat}(tw:Tw ts r)(ps:List AV):Con prog 265 [.ptr 1000 0,.lst 2 ps] [(1000,some (aY ts))] (.tup [Aa ts ps,.v .nilIface]) [(1000,some (aY ts))]:=by
 refine gF func265 (fun k z h=>bj h) ?_;refine gC (fun t10=>?_) (fun t10=>?_) (st1:=(2,0));cases t10;refine gt (az (Lq tw) (cq rfl) aB rfl rfl) ?_;refine gR ?_;exact aq.keep (a6 rfl)
end
theorem dm(ts:LL)(a:List Rat):(aG ts a).length=ts.length+1:=by simp[aG]
theorem Dk{ts:LL}{a:List Rat}{j:Nat}(h:j<ts.length):(aG ts a).getD j []=ts.getD j []:=by
 unfold aG;rw[getD_eq_getElem?_getD,getD_eq_getElem?_getD,getElem?_append_left h]
theorem tG(ts:LL)(a:List Rat):(aG ts a).getD ts.length []=bF a (2^ts.length):=by
 unfold aG;rw[getD_eq_getElem?_getD,getElem?_append_right (le_refl _),Nat.sub_self];rfl
theorem v9{ts:LL}{a:List Rat}{j:Nat}(h:j<ts.length):au (aG ts a) j=au ts j:=by
 unfold au;rw[Dk h]
theorem yS{ts:LL}{a:List Rat}{j:Nat}(h:j<=ts.length)(x:T j):T.sgn (au (aG ts a)) j x=T.sgn (au ts) j x :=
 T.sgn_congr j (fun i hi=>v9 oz) x
theorem RB.ext{r e:Nat}{ts:LL}{a:List Rat}(h:RB r ts)(ha:Cb e a):RB (r+e) (aG ts a):=by
 obtain⟨D,N,h0,h1,h2,h3⟩:=h;obtain⟨D',N',k1,k2,k3⟩:=ha.wide (n:=2^ts.length);have hN:N<=2^r:=h3;refine⟨D*D',max (N*D') (N'*D),Nat.mul_pos h0 k1.1,?_,?_,?_⟩
 ·intro d hd;rcases List.mem_append.1 hd with h9 |h9
  ·exact((h1 d h9).scale k1.1).mono (Nat.le_max_left _ _)
  ·rw[List.mem_singleton.1 h9,Nat.mul_comm D];exact(k1.scale h0).mono (Nat.le_max_right _ _)
 ·rw[pow_add];exact Nat.mul_le_mul h2 k2
 ·rw[pow_add];refine Nat.max_le.2 ⟨Nat.mul_le_mul h3 k2,?_⟩;rw[Nat.mul_comm (2^r)];exact Nat.mul_le_mul k3 h2
theorem Ax{r e:Nat}{ts:LL}{a:List Rat}(tw:Tw ts r)(h2:ts.length<=2)(ha:Nm ts.length e a)(he:r+e<=5000000000)(hs:0<=T.sgn (au ts) ts.length (ae ts.length a)):Tw (aG ts a) (r+e):=by
 refine⟨by rw[dm];omega,?_,?_,tw.rb.ext ha.cb,he⟩
 ·intro j hj;rw[dm]at hj;rcases lt_or_ge j ts.length with h |h
  ·rw[Dk h];exact tw.len j h
  ·have : j = ts.length := by omega
   subst this;rw[tG];exact fB ha.nl.le
 ·intro j hj;rw[dm]at hj;rw[yS oz];rcases lt_or_ge j ts.length with h |h
  ·rw[v9 h];exact tw.pos j h
  ·have : j = ts.length := by omega
   subst this
   have e1:au (aG ts a) ts.length=ae ts.length a:=by
    show ae ts.length ((aG ts a).getD ts.length [])=_;rw[tG,rH]
   rw[e1];exact hs
theorem lF{ts:LL}{a l:List Rat}{e:Nat}(h:Nm ts.length e l)(h4:ts.length<=4):Nm (aG ts a).length e l:=by
 rw[dm];exact⟨by omega,h.nl.mono oz,h.cb⟩
theorem TP{ts:LL}{a l:List Rat}(h:Nl ts.length l):ak (dE (aG ts a) l)=ak (dE ts l):=by
 unfold ak dE;rw[dm];show T.sgn (au (aG ts a)) (ts.length+1) (ae (ts.length+1) l)=_;rw[vi (au (aG ts a)) h.le (Nat.le_succ _),yS (le_refl _)]
theorem qW{ts:LL}{a:List Rat}(h4:ts.length<=4):Nm (aG ts a).length 1 (bY ts.length):=by
 rw[dm];refine⟨by omega,.inr ⟨_,le_refl _,zT _⟩,1,1,⟨by omega,?_⟩,by omega,by omega⟩;intro q hq;unfold bY at hq;rcases List.mem_or_eq_of_mem_set hq with h |h
 ·rw[(List.mem_replicate.1 h).2];exact⟨0,by rw[Rat.zero_mul];rfl,by simp⟩
 ·rw[h];exact⟨1,by rw[Rat.one_mul];rfl,by simp⟩
theorem J8{r e k:Nat}{ts:LL}{a:List Rat}(tw:Tw ts r)(h1:ts.length<=1)(ha:Nm ts.length e a)(he:r+e<=5000000000)(hs:0<=T.sgn (au ts) ts.length (ae ts.length a)){u:Nat}(hu:3<=u)(hk:3*(r+e)+6<=k):Cy (aG ts a) u k :=
 ⟨⟨r+e,Ax tw oz ha he hs,by
  rw[dm];have h:=gT (r+e) (show ts.length+1<=2 by omega);have h2:eB (r+e) 2=3*(r+e)+6:=by simp only[eB];omega
  omega⟩,by omega,hu,by rw[dm];omega⟩
structure Mt where
  ts:LL
  ps:List (List Rat×List Rat)
abbrev cS(p:List Rat×List Rat):AV:=aI p.1 p.2
abbrev Mt.av(m:Mt):AV:=Aa m.ts (m.ps.map cS)
abbrev P2(ts:LL):Type:=Et ts×Et ts
abbrev P2.l{ts:LL}(p:P2 ts):List Rat×List Rat:=(sX p.1,sX p.2)
abbrev aK{ts:LL}(X:Et ts)(x:Et ts):Et (aG ts (sX X)):=dE (aG ts (sX X)) (sX x)
section
variable{ts:LL}
def dP(d:Et ts):Et ts:=qE ((2:Int):Rat)*d
def fw(p q:P2 ts):P2 ts:=(q.1-p.1,q.2-p.2)
def dF(p:P2 ts)(k:Et ts)(v:P2 ts):P2 ts:=(p.1+k*v.1,p.2+k*v.2)
def eF(p q:P2 ts)(z z2:Et ts):P2 ts:=dF p ((z+aD p q-z2)*iE (dP (aD p q))) (fw p q)
def dN(X d:Et ts):Et (aG ts (sX X)):=dE _ (bY ts.length)*iE (aK X (dP d))
def gL(X:Et ts)(f v:P2 ts)(c:Et (aG ts (sX X))):P2 (aG ts (sX X)):=dF (aK X f.1,aK X f.2) c (qE ((-1:Int):Rat)*aK X v.2,aK X v.1)
def lB(p:P2 ts)(z z2:Et ts):Mt:=if ak (z-z2)≠0 then⟨ts,[]⟩else if 0<ak z then⟨[],[]⟩else⟨ts,[(dF p 0 p).l]⟩
def eJ(p q:P2 ts)(z z2:Et ts):Mt :=
  if ak (aD p q)=0 then lB p z z2
  else if ak (bu p z q z2)<0 then⟨ts,[]⟩
  else if ak (bu p z q z2)=0 then⟨ts,[(eF p q z z2).l]⟩
  else⟨aG ts (sX (bu p z q z2)),[(gL (bu p z q z2) (eF p q z z2) (fw p q) (dN (bu p z q z2) (aD p q))).l,
    (gL (bu p z q z2) (eF p q z z2) (fw p q) (qE ((-1:Int):Rat)*dN (bu p z q z2) (aD p q))).l]⟩
def lg(z z2:Et ts):Nat:=if ak (z-z2)=0/\0<ak z then 15 else 0
def fu(p q:P2 ts)(z z2:Et ts):Nat:=if ak (aD p q)=0 then lg z z2 else 0
theorem C7:Sub (.agg [nS,nS]) (Aa [] []):=Sub.agg (.cons (.nil _ _ _) (.cons (.nil _ _ _) .nil)) rfl
end
theorem Qx {ts : LL} {u k : Nat} [c : Cy ts u k] : Zl ts u k [] (0 : Et ts) 0 0 := ⟨by rw [je]; exact E.zero_def.symm, by
 obtain⟨R,tw,_⟩:=c.ex;exact⟨tw.five,.inl rfl,Cb.nil.mono (zero_le _)⟩⟩
section
variable{ts:LL}{a b c a2 b2 c2:List Rat}{x y z x2 y2 z2:Et ts}
theorem Sj{r:Nat}(tw:Tw ts r)[c0:Cy ts 310000 65000][i1:Zl ts 310000 65000 a x 40 40][i2:Zl ts 310000 65000 b y 40 40][i3:Zl ts 310000 65000 c z 3 0][i6:Zl ts 310000 65000 c2 z2 3 0] :
  Con prog 264 [.ptr 1000 0,.agg [nA a,nA b,nA c],.agg [nA a2,nA b2,nA c2]] [(1000,some (aY ts))]
   (.tup [(lB (x,y) z z2).av,bg (lg z z2)]) [(1000,some (aY ts))]:=by
 haveI:=i1.zu;haveI:=i2.zu;haveI:=i3.zu;haveI:=i6.zu;have hm0:=Con.sA (.cons (.refl _) (.cons (Sub.nil 2 none 0) .nil)) (lY tw []);have m1:=ka (ts:=ts) (u:=310000) (k:=65000) (a:=c) (b:=c2) (by decide);have m2:=oX (ts:=ts) (u:=310000) (k:=65000) (a:=sX (z-z2)) (by decide);have m3:=oX (ts:=ts) (u:=310000) (k:=65000) (a:=c) (by decide);haveI zn:Zl ts 310000 65000 [] (0:Et ts) 0 0:=Qx;have n1:=iR (ts:=ts) (u:=310000) (k:=65000) (a:=[]) (b:=a) (by decide);have n2:=iR (ts:=ts) (u:=310000) (k:=65000) (a:=[]) (b:=b) (by decide);have n3:=jy (ts:=ts) (u:=310000) (k:=65000) (a:=a) (b:=sX (0*x)) (by decide);have n4:=jy (ts:=ts) (u:=310000) (k:=65000) (a:=b) (b:=sX (0*y)) (by decide);have hal:=Con.sA (.cons (.refl _) (.cons (.refl _) (.cons (Sub.nil 3 none 0) (.cons (.refl _) .nil)))) (qF n1 n2 n3 n4);refine gF func264 (fun k z h=>bj h) ?_;refine gt (aQ m1 (aE rfl rfl rfl) rfl rfl rfl) ?_;refine gt (aQ m2 (bm rfl rfl) rfl rfl rfl) ?_;refine gC (fun t8=>?_) (fun t8=>?_)
 ·have h1:ak (z-z2)≠0:=lN t8;refine gt (aQ hm0 (.cons (.tmp rfl) (.cons (.const _) .nil)) rfl rfl rfl) ?_;refine gR ?_;exact(aq.keep (a6 rfl)).sub (Sub.of (by unfold lB lg;rw[if_pos h1,if_neg (fun h=>h1 h.1)];rfl))
 have h1:ak (z-z2)=0:=oI t8;refine gt (aQ m3 (bm rfl rfl) rfl rfl rfl) ?_;refine gC (fun t22=>?_) (fun t22=>?_)
 ·have h2:0<ak z:=of_decide_eq_true t22;refine gR ?_;exact(aq.keep (a6 rfl)).sub (by unfold lB lg;rw[if_neg oz,if_pos h2,if_pos ⟨h1,h2⟩];exact Sub.tup (.cons C7 (.cons (.refl _) .nil)))
 have h2:¬0<ak z:=of_decide_eq_false t22;refine gt (aQ hal (.cons (.tmp rfl) (.cons (.tmp rfl) (.cons (.const _) (cq rfl)))) rfl rfl rfl) ?_;refine gt (aQ (lY tw [aI (sX (x+0*x)) (sX (y+0*y))]) (bm rfl rfl) rfl rfl rfl) ?_;refine gR ?_;exact(aq.keep (a6 rfl)).sub (Sub.of (by unfold lB lg;rw[if_neg oz,if_neg h2,if_neg (fun h=>h2 h.2)];rfl))
end
section
variable{rs:List (List Rt)}{r:Nat}{a b c a2 b2 c2:List Rat}{x y z x2 y2 z2:Et (llq rs)}
structure CirP(ts:LL)(p q:P2 ts)(z z2:Et ts):Prop where
  zd:Zu 310000 65000 (aD p q) 320 327
  zX:Zu 310000 65000 (bu p z q z2) 976 989
  zt:Zu 310000 65000 (dP (aD p q)) 321 328
  z1:Zu 310000 65000 (fw p q).1 80 81
  z2:Zu 310000 65000 (fw p q).2 80 81
theorem BT{ts:LL}{x y z x2 y2 z2:Et ts}(c:Ct ts 310000 65000)(h1:Zu 310000 65000 x 40 40)(h2:Zu 310000 65000 y 40 40)(h3:Zu 310000 65000 z 3 0)(h4:Zu 310000 65000 x2 40 40)(h5:Zu 310000 65000 y2 40 40)(h6:Zu 310000 65000 z2 3 0) :
  CirP ts (x,y) (x2,y2) z z2:=by
 haveI:=c;haveI:=h1;haveI:=h2;haveI:=h3;haveI:=h4;haveI:=h5;haveI:=h6
 haveI zd:=Ez c h1 h2 h4 h5;haveI q4:Qz 310000 ((4:Int):Rat) 1:=Qz.int (c:=Ct.cx (c:=c)) (by decide);haveI q2:Qz 310000 ((2:Int):Rat) 1:=Qz.int (c:=Ct.cx (c:=c)) (by decide)
 exact⟨zd,(inferInstance:Zu 310000 65000 (qE ((4:Int):Rat)*(z*aD (x,y) (x2,y2))-(z+aD (x,y) (x2,y2)-z2)*(z+aD (x,y) (x2,y2)-z2)) _ _),
  (inferInstance:Zu 310000 65000 (qE ((2:Int):Rat)*aD (x,y) (x2,y2)) _ _),(inferInstance:Zu 310000 65000 (x2-x) _ _),(inferInstance:Zu 310000 65000 (y2-y) _ _)⟩
theorem HQ{ts:LL}{x y z x2 y2 z2:Et ts}[c0:Cy ts 310000 65000](hn:ts.length<=1)(h1:Zu 310000 65000 x 40 40)(h2:Zu 310000 65000 y 40 40)(h3:Zu 310000 65000 z 3 0)(h6:Zu 310000 65000 z2 3 0)(P:CirP ts (x,y) (x2,y2) z z2)
  (h0:ak (dP (aD (x,y) (x2,y2)))≠0) :
  FP 281 [aO ts,nA (sX (z+aD (x,y) (x2,y2)-z2)),nA (sX (dP (aD (x,y) (x2,y2))))] (.tup [nA (sX ((z+aD (x,y) (x2,y2)-z2)*iE (dP (aD (x,y) (x2,y2))))),.v .nilIface]) /\
  Zu 310000 65000 ((z+aD (x,y) (x2,y2)-z2)*iE (dP (aD (x,y) (x2,y2)))) 1931 1972/\Zu 310000 65000 (eF (x,y) (x2,y2) z z2).1 2051 2095/\Zu 310000 65000 (eF (x,y) (x2,y2) z z2).2 2051 2095:=by
 haveI:=h1;haveI:=h2;haveI:=h3;haveI:=h6;haveI:=P.zd;haveI:=P.zt
 have hd:=o8 (ts:=ts) (u:=310000) (k:=65000) (a:=sX (z+aD (x,y) (x2,y2)-z2)) (b:=sX (dP (aD (x,y) (x2,y2)))) (j:=ts.length) P.zt.nm.nl (le_refl _) hn h0 (by decide);haveI zk:=hd.2;haveI:=P.z1;haveI:=P.z2
 exact⟨hd.1,zk,(inferInstance:Zu 310000 65000 (x+((z+aD (x,y) (x2,y2)-z2)*iE (dP (aD (x,y) (x2,y2))))*(fw (x,y) (x2,y2)).1) _ _),
  (inferInstance:Zu 310000 65000 (y+((z+aD (x,y) (x2,y2)-z2)*iE (dP (aD (x,y) (x2,y2))))*(fw (x,y) (x2,y2)).2) _ _)⟩
structure ExtP{ts:LL}(X:Et ts):Prop where
  tw:Tw (aG ts (sX X)) 366909990
  cy:Cy (aG ts (sX X)) 773000000 1101400000
theorem s6{ts:LL}{X:Et ts}(tw:Tw ts 64990)(hn:ts.length<=1)(hx:Zu 310000 65000 X 976 989)(hs:0<=ak X):ExtP X:=by
 have h9:0<=T.sgn (au ts) ts.length (ae ts.length (sX X)):=by rw[show ae ts.length (sX X)=X from a7 _ _];exact hs
 have hm:=hx.nm;exact⟨Ax tw oz hm (by decide) h9,J8 tw hn hm (by decide) h9 oz (by decide)⟩
theorem jg{ts:LL}{X x:Et ts}{w v:Nat}(hn:ts.length<=1)(h:Zu 310000 65000 x w v)(hs:w*310000+v*65000<=773000000):Zl (aG ts (sX X)) 773000000 1101400000 (sX x) (aK X x) 1 0:=Zl.at (lF h.nm oz) hs
theorem no{ts:LL}{X x:Et ts}:ak (aK X x)=ak x:=by
 show ak (dE (aG ts (sX X)) (sX x))=_;rw[TP (l:=sX x) (dZ _ _)];show ak (dE ts (sX x))=_;rw[show dE ts (sX x)=x from a7 _ _]
theorem uB{ts:LL}{r:Nat}(tw:Tw ts r)(d:Et ts):ak (dP d)=ak d:=by
 have h:=gk (au ts) ts.length tw.pos
 have h2:sg (au ts) ts.length (qE ((2:Int):Rat):Et ts)=1:=by
  show T.sgn (au ts) ts.length (T.ofQ ts.length ((2:Int):Rat))=1;rw[T.sgn_ofQ];rfl
 have h3:=h.mul (qE ((2:Int):Rat)) d;rw[h2,Int.one_mul]at h3;exact h3
structure SideP{ts:LL}(X d:Et ts)(f v:P2 ts):Prop where
  hd:FP 281 [aO (aG ts (sX X)),nA (bY ts.length),nA (sX (dP d))] (.tup [nA (sX (dN X d)),.v .nilIface])
  ht:Con prog 267 [.ptr 1000 0,i64 (-1),nA (sX v.2)] [(1000,some (aY (aG ts (sX X))))] (nA (sX (qE ((-1:Int):Rat)*aK X v.2))) [(1000,some (aY (aG ts (sX X))))]
  hu:Con prog 267 [.ptr 1000 0,i64 (-1),nA (sX (dN X d))] [(1000,some (aY (aG ts (sX X))))] (nA (sX (qE ((-1:Int):Rat)*dN X d))) [(1000,some (aY (aG ts (sX X))))]
  a1:Con prog 268 [.ptr 1000 0,aI (sX f.1) (sX f.2),nA (sX (dN X d)),aI (sX (qE ((-1:Int):Rat)*aK X v.2)) (sX v.1)] [(1000,some (aY (aG ts (sX X))))] (cS (gL X f v (dN X d)).l) [(1000,some (aY (aG ts (sX X))))]
  a2:Con prog 268 [.ptr 1000 0,aI (sX f.1) (sX f.2),nA (sX (qE ((-1:Int):Rat)*dN X d)),aI (sX (qE ((-1:Int):Rat)*aK X v.2)) (sX v.1)] [(1000,some (aY (aG ts (sX X))))] (cS (gL X f v (qE ((-1:Int):Rat)*dN X d)).l) [(1000,some (aY (aG ts (sX X))))]
  n1:Zu 773000000 1101400000 (gL X f v (dN X d)).1 9 6/\Zu 773000000 1101400000 (gL X f v (dN X d)).2 9 6
  n2:Zu 773000000 1101400000 (gL X f v (qE ((-1:Int):Rat)*dN X d)).1 10 7/\Zu 773000000 1101400000 (gL X f v (qE ((-1:Int):Rat)*dN X d)).2 10 7
theorem GD{ts:LL}{X d:Et ts}{f v:P2 ts}(hn:ts.length<=1)(E:ExtP X)(hd:Zu 310000 65000 (dP d) 321 328)(h0:ak (dP d)≠0)(f1:Zu 310000 65000 f.1 2051 2095)(f2:Zu 310000 65000 f.2 2051 2095)
  (v1:Zu 310000 65000 v.1 80 81) (v2:Zu 310000 65000 v.2 80 81):SideP X d f v:=by
 haveI cy:=E.cy;haveI zr:Zl (aG ts (sX X)) 773000000 1101400000 (bY ts.length) (dE _ (bY ts.length)) 1 0:=Zl.at (qW oz) (by decide);haveI zd:=jg (X:=X) hn hd (by decide);haveI zf1:=jg (X:=X) hn f1 (by decide);haveI zf2:=jg (X:=X) hn f2 (by decide);haveI zv1:=jg (X:=X) hn v1 (by decide);haveI zv2:=jg (X:=X) hn v2 (by decide);haveI:=zf1.zu;haveI:=zf2.zu;haveI:=zv1.zu;haveI:=zv2.zu
 have hdiv:=o8 (ts:=aG ts (sX X)) (u:=773000000) (k:=1101400000) (a:=bY ts.length) (b:=sX (dP d)) (j:=ts.length) hd.nm.nl (by rw[dm];omega) hn (by rw[no];exact h0) (by decide);haveI zs:Zu 773000000 1101400000 (dN X d) 6 3:=hdiv.2;haveI qm:Qz 773000000 ((-1:Int):Rat) 1:=Qz.int (c:=Cy.cx (c:=cy)) (by decide);haveI zm:Zu 773000000 1101400000 (qE ((-1:Int):Rat)*aK X v.2) 2 1:=inferInstance;haveI zu:Zu 773000000 1101400000 (qE ((-1:Int):Rat)*dN X d) 7 4:=inferInstance;have ht:=yx (ts:=aG ts (sX X)) (u:=773000000) (k:=1101400000) (a:=sX v.2) (-1) oz (by decide);have hu:=yx (ts:=aG ts (sX X)) (u:=773000000) (k:=1101400000) (a:=sX (dN X d)) (-1) oz (by decide)
 have al:∀{c:Et (aG ts (sX X))}{w k:Nat}(zc:Zu 773000000 1101400000 c w k),w<=7->k<=4 ->
   Con prog 268 [.ptr 1000 0,aI (sX f.1) (sX f.2),nA (sX c),aI (sX (qE ((-1:Int):Rat)*aK X v.2)) (sX v.1)] [(1000,some (aY (aG ts (sX X))))] (cS (gL X f v c).l) [(1000,some (aY (aG ts (sX X))))]:=by
  intro c w k zc hw hk;haveI:=zc;have m1:=iR (ts:=aG ts (sX X)) (u:=773000000) (k:=1101400000) (a:=sX c) (b:=sX (qE ((-1:Int):Rat)*aK X v.2)) oz;have m2:=iR (ts:=aG ts (sX X)) (u:=773000000) (k:=1101400000) (a:=sX c) (b:=sX v.1) oz;have m3:=jy (ts:=aG ts (sX X)) (u:=773000000) (k:=1101400000) (a:=sX f.1) (b:=sX (c*(qE ((-1:Int):Rat)*aK X v.2))) oz;have m4:=jy (ts:=aG ts (sX X)) (u:=773000000) (k:=1101400000) (a:=sX f.2) (b:=sX (c*aK X v.1)) oz;exact qF m1 m2 m3 m4
 exact⟨hdiv.1,ht,hu,al zs oz oz,al zu oz oz,
  ⟨(inferInstance:Zu 773000000 1101400000 (aK X f.1+dN X d*(qE ((-1:Int):Rat)*aK X v.2)) 9 6),⟨(inferInstance:Zu 773000000 1101400000 (aK X f.2+dN X d*aK X v.1) _ _).nm.mono (by decide)⟩⟩,
  ⟨(inferInstance:Zu 773000000 1101400000 (aK X f.1+qE ((-1:Int):Rat)*dN X d*(qE ((-1:Int):Rat)*aK X v.2)) 10 7),⟨(inferInstance:Zu 773000000 1101400000 (aK X f.2+qE ((-1:Int):Rat)*dN X d*aK X v.1) _ _).nm.mono (by decide)⟩⟩⟩
theorem QF(h:TR rs 64990)(hc:ba rs=0)(hn:(llq rs).length<=1)[c0:Ct (llq rs) 310000 65000][i1:Zl (llq rs) 310000 65000 a x 40 40][i2:Zl (llq rs) 310000 65000 b y 40 40][i3:Zl (llq rs) 310000 65000 c z 3 0][i4:Zl (llq rs) 310000 65000 a2 x2 40 40][i5:Zl (llq rs) 310000 65000 b2 y2 40 40][i6:Zl (llq rs) 310000 65000 c2 z2 3 0]
  (ha:a=sX x) (hb:b=sX y) (s1:0<=ak z) (s2:0<=ak z2):FP 157 [de rs,.agg [nA a,nA b,nA c],.agg [nA a2,nA b2,nA c2]] (.tup [(eJ (x,y) (x2,y2) z z2).av,bg (fu (x,y) (x2,y2) z z2)]):=by
 have hz:∀q∈[(a,b,c),(a2,b2,c2)],CiZ rs q:=fun q hq=>by
  simp only[mem_cons,not_mem_nil,or_false]at hq;rcases hq with rfl |rfl
  ·exact⟨i1.nm.mono oz,i2.nm.mono oz,i3.nm.mono oz,by show 0<=ak (dE (llq rs) c);rw[show dE (llq rs) c=z from i3.eq];exact s1⟩
  ·exact⟨i4.nm.mono oz,i5.nm.mono oz,i6.nm.mono oz,by show 0<=ak (dE (llq rs) c2);rw[show dE (llq rs) c2=z2 from i6.eq];exact s2⟩
 have hck:=JR h hc [(a,b,c),(a2,b2,c2)] hz (by show 2<=100;omega);obtain⟨tw,etw⟩:=db h hc;haveI cy:Cy (llq rs) 310000 65000:=⟨c0.ex,by omega,by omega,by omega⟩
 have P:=BT c0 i1.zu i2.zu i3.zu i4.zu i5.zu i6.zu;haveI:=P.zd;haveI:=P.zX;haveI:=i3.zu;haveI:=i6.zu;have m1:=oX (ts:=llq rs) (u:=310000) (k:=65000) (a:=sX (aD (x,y) (x2,y2))) (by decide);have m2:=oX (ts:=llq rs) (u:=310000) (k:=65000) (a:=sX (bu (x,y) z (x2,y2) z2)) (by decide);have m0:=Con.sA (.cons (.refl _) (.cons (Sub.nil 2 none 0) .nil)) (lY tw []);have w1:=ka (ts:=llq rs) (u:=310000) (k:=65000) (a:=a2) (b:=a) (by decide);have w2:=ka (ts:=llq rs) (u:=310000) (k:=65000) (a:=b2) (b:=b) (by decide);haveI q2:Qz 310000 ((2:Int):Rat) 1:=Qz.int (c:=Cy.cx (c:=cy)) (by decide);have t2:=yx (ts:=llq rs) (u:=310000) (k:=65000) (a:=sX (aD (x,y) (x2,y2))) 2 oz (by decide);have k1:=jy (ts:=llq rs) (u:=310000) (k:=65000) (a:=c) (b:=sX (aD (x,y) (x2,y2))) (by decide);have k2:=ka (ts:=llq rs) (u:=310000) (k:=65000) (a:=sX (z+aD (x,y) (x2,y2))) (b:=c2) (by decide);subst ha;subst hb;refine ai func157 ?_;refine gc hck ?_;refine gC (fun t24=>?_) (fun t24=>?_) (st1:=(3,0)) (st2:=(5,0));cases t24;refine gW (Wk.o (sl:=[(4,some (.ptr 4 0)),(5,some (.ptr 5 0)),(6,some (.ptr 6 0)),(9,some (.ptr 29 0))]) (hp:=[(4,some (.box [nA (sX x),nA (sX y),nA c])),(5,some (.box [nA a2,nA b2,nA c2])),(6,some (.box [nS,nS])),(29,some (dh rs))])) ?_;refine gt (az (Con.rB 29 rfl rfl rfl rfl (I3 h hc)) (aE rfl rfl rfl) aB rfl rfl) ?_ (6,0);refine gW (Wk.of (sl:=[(4,some (.ptr 4 0)),(5,some (.ptr 5 0)),(6,some (.ptr 6 0)),(9,some (.ptr 29 0)),(10,some (nA (sX (bu (x,y) z (x2,y2) z2)))),(11,some (nA (sX (aD (x,y) (x2,y2)))))]) (hp:=[(4,some (.box [nA (sX x),nA (sX y),nA c])),(5,some (.box [nA a2,nA b2,nA c2])),(6,some (.box [nS,nS])),(29,some (aY (llq rs)))]) aW (.k (.k (.k (.cons rfl (BlkSub.bL (.cons (.of (me etw)) (.cons (.refl _) .nil)) rfl) .nil))))) ?_
 refine gt (aQ (Con.rB 29 rfl rfl rfl rfl m1) (bm rfl rfl) rfl rfl rfl) ?_;refine gC (fun t40=>?_) (fun t40=>?_)
 ·have hd0:ak (aD (x,y) (x2,y2))=0:=cM t40;refine gt (aQ (Con.rB 29 rfl rfl rfl rfl (Sj (a:=sX x) (b:=sX y) (c:=c) (a2:=a2) (b2:=b2) (c2:=c2) tw)) (aE rfl rfl rfl) rfl rfl rfl) ?_;refine bh ?_;unfold eJ fu;rw[if_pos hd0,if_pos hd0]
 have hd0:¬ak (aD (x,y) (x2,y2))=0:=dJ t40;refine gt (aQ (Con.rB 29 rfl rfl rfl rfl m2) (bm rfl rfl) rfl rfl rfl) ?_;refine gC (fun t51=>?_) (fun t51=>?_)
 ·have hx0:ak (bu (x,y) z (x2,y2) z2)<0:=of_decide_eq_true t51;refine gt (aQ (Con.rB 29 rfl rfl rfl rfl m0) (.cons (.tmp rfl) (.cons (.const _) .nil)) rfl rfl rfl) ?_;refine bh ?_;unfold eJ fu;rw[if_neg hd0,if_neg hd0,if_pos hx0];rfl
 have hx0:¬ak (bu (x,y) z (x2,y2) z2)<0:=of_decide_eq_false t51;have ht0:ak (dP (aD (x,y) (x2,y2)))≠0:=by rw[uB tw];exact hd0
 obtain⟨fd,fk,f1,f2⟩:=HQ hn i1.zu i2.zu i3.zu i6.zu P ht0;haveI:=fk;haveI:=P.z1;haveI:=P.z2;have g1:=iR (ts:=llq rs) (u:=310000) (k:=65000) (a:=sX ((z+aD (x,y) (x2,y2)-z2)*iE (dP (aD (x,y) (x2,y2))))) (b:=sX (fw (x,y) (x2,y2)).1) (by decide);have g2:=iR (ts:=llq rs) (u:=310000) (k:=65000) (a:=sX ((z+aD (x,y) (x2,y2)-z2)*iE (dP (aD (x,y) (x2,y2))))) (b:=sX (fw (x,y) (x2,y2)).2) (by decide);have g3:=jy (ts:=llq rs) (u:=310000) (k:=65000) (a:=sX x) (b:=sX ((z+aD (x,y) (x2,y2)-z2)*iE (dP (aD (x,y) (x2,y2)))*(fw (x,y) (x2,y2)).1)) (by decide);have g4:=jy (ts:=llq rs) (u:=310000) (k:=65000) (a:=sX y) (b:=sX ((z+aD (x,y) (x2,y2)-z2)*iE (dP (aD (x,y) (x2,y2)))*(fw (x,y) (x2,y2)).2)) (by decide);have gal:=qF g1 g2 g3 g4;refine gt (aQ (Con.rB 29 rfl rfl rfl rfl w1) (aE rfl rfl rfl) rfl rfl rfl) ?_;refine gt (aQ (Con.rB 29 rfl rfl rfl rfl w2) (aE rfl rfl rfl) rfl rfl rfl) ?_;refine gD ?_;refine gt (aQ (Con.rB 29 rfl rfl rfl rfl t2) (.cons (.tmp rfl) (.cons (.const _) (cq rfl))) rfl rfl rfl) ?_;refine gt (aQ (Con.rB 29 rfl rfl rfl rfl k1) (aE rfl rfl rfl) rfl rfl rfl) ?_;refine gt (aQ (Con.rB 29 rfl rfl rfl rfl k2) (aE rfl rfl rfl) rfl rfl rfl) ?_;refine gt (aQ (Con.rB 29 rfl rfl rfl rfl (sT fd)) (aE rfl rfl rfl) rfl rfl rfl) ?_;refine gt (aQ (Con.rB 29 rfl rfl rfl rfl gal) (.cons (.tmp rfl) (.cons (.tmp rfl) (.cons (.tmp rfl) (.cons (.tmp rfl) .nil)))) rfl rfl rfl) ?_;refine gD ?_;refine gC (fun t94=>?_) (fun t94=>?_)
 ·have hx1:ak (bu (x,y) z (x2,y2) z2)=0:=cM t94;refine gt (aQ (Con.rB 29 rfl rfl rfl rfl (lY tw [cS (eF (x,y) (x2,y2) z z2).l])) (bm rfl rfl) rfl rfl rfl) ?_;refine bh ?_;unfold eJ fu;rw[if_neg hd0,if_neg hd0,if_neg hx0,if_pos hx1];rfl
 have hx1:¬ak (bu (x,y) z (x2,y2) z2)=0:=dJ t94;have E:ExtP (bu (x,y) z (x2,y2) z2):=s6 tw hn P.zX oz;have S:=GD (X:=bu (x,y) z (x2,y2) z2) (d:=aD (x,y) (x2,y2)) (f:=eF (x,y) (x2,y2) z z2) (v:=fw (x,y) (x2,y2)) hn E P.zt ht0 f1 f2 P.z1 P.z2;have hex:=GE (a:=sX (bu (x,y) z (x2,y2) z2)) tw P.zX.nm (by rw[cy.lm];decide) (by rw[show ae (llq rs).length (sX (bu (x,y) z (x2,y2) z2))=bu (x,y) z (x2,y2) z2 from a7 _ _];show 0<=ak (bu (x,y) z (x2,y2) z2);omega);refine gt (az (Con.rB 29 rfl rfl rfl rfl hex) (bm rfl rfl) aB rfl rfl) ?_;refine gt (aQ (Con.rB 29 rfl rfl rfl rfl (sT S.hd)) (aE rfl rfl rfl) rfl rfl rfl) ?_;refine gt (aQ (Con.rB 29 rfl rfl rfl rfl S.ht) (.cons (.tmp rfl) (.cons (.const _) (cq rfl))) rfl rfl rfl) ?_;refine gD ?_;refine gt (aQ (Con.rB 29 rfl rfl rfl rfl S.a1) (.cons (.tmp rfl) (.cons (.tmp rfl) (.cons (.tmp rfl) (.cons (.tmp rfl) .nil)))) rfl rfl rfl) ?_;refine gt (aQ (Con.rB 29 rfl rfl rfl rfl S.hu) (.cons (.tmp rfl) (.cons (.const _) (cq rfl))) rfl rfl rfl) ?_;refine gt (aQ (Con.rB 29 rfl rfl rfl rfl S.a2) (.cons (.tmp rfl) (.cons (.tmp rfl) (.cons (.tmp rfl) (.cons (.tmp rfl) .nil)))) rfl rfl rfl) ?_;refine gt (aQ (Con.rB 29 rfl rfl rfl rfl (lY E.tw [cS (gL (bu (x,y) z (x2,y2) z2) (eF (x,y) (x2,y2) z z2) (fw (x,y) (x2,y2)) (dN (bu (x,y) z (x2,y2) z2) (aD (x,y) (x2,y2)))).l,cS (gL (bu (x,y) z (x2,y2) z2) (eF (x,y) (x2,y2) z z2) (fw (x,y) (x2,y2)) (qE ((-1:Int):Rat)*dN (bu (x,y) z (x2,y2) z2) (aD (x,y) (x2,y2)))).l])) (bm rfl rfl) rfl rfl rfl) ?_;refine gD ?_;refine bh ?_;unfold eJ fu;rw[if_neg hd0,if_neg hd0,if_neg hx0,if_neg hx1];rfl
end
section
variable{ts:LL}
abbrev bp(p q:P2 ts):Et ts:=pj (br q p) (br q p)
abbrev bN(p q c:P2 ts):Et ts:=pj (br q p) (br c p)
abbrev gY(p q c:P2 ts):Et ts:=tU (br q p) (br c p)
abbrev aT(p q c:P2 ts)(z:Et ts):Et ts:=bp p q*z-gY p q c*gY p q c
def fa(X:Et ts)(S:Et ts)(k:Et (aG ts (sX X))):Et (aG ts (sX X)):=k*iE (aK X S)
def jU(X:Et ts)(p v:P2 ts)(k:Et (aG ts (sX X))):P2 (aG ts (sX X)):=dF (aK X p.1,aK X p.2) k (aK X v.1,aK X v.2)
abbrev bn(X:Et ts):Et (aG ts (sX X)):=dE _ (bY ts.length)
def eG(p q c:P2 ts)(z:Et ts):Mt :=
  if ak (bp p q)=0 then⟨[],[]⟩else if ak (aT p q c z)=-1 then⟨ts,[]⟩else if ak (aT p q c z)=0 then⟨ts,[(dF p (bN p q c*iE (bp p q)) (br q p)).l]⟩
  else⟨aG ts (sX (aT p q c z)),[(jU (aT p q c z) p (br q p) (fa (aT p q c z) (bp p q) (aK (aT p q c z) (bN p q c)+bn (aT p q c z)))).l,
    (jU (aT p q c z) p (br q p) (fa (aT p q c z) (bp p q) (aK (aT p q c z) (bN p q c)-bn (aT p q c z)))).l]⟩
def fF(p q:P2 ts):Nat:=if ak (bp p q)=0 then 8 else 0
structure LinP(p q c:P2 ts)(z:Et ts):Prop where
  v1:Zu 310000 65000 (br q p).1 80 81
  v2:Zu 310000 65000 (br q p).2 80 81
  w1:Zu 310000 65000 (br c p).1 80 81
  w2:Zu 310000 65000 (br c p).2 80 81
  zs:Zu 310000 65000 (bp p q) 320 327
  ze:Zu 310000 65000 (bN p q c) 320 327
  zc:Zu 310000 65000 (gY p q c) 320 327
  zX:Zu 310000 65000 (aT p q c z) 963 984
theorem Ch{p q c:P2 ts}{z:Et ts}(c0:Cy ts 310000 65000)(h1:Zu 310000 65000 p.1 40 40)(h2:Zu 310000 65000 p.2 40 40)(h3:Zu 310000 65000 q.1 40 40)(h4:Zu 310000 65000 q.2 40 40)(h5:Zu 310000 65000 c.1 40 40)(h6:Zu 310000 65000 c.2 40 40)(h7:Zu 310000 65000 z 3 0):LinP p q c z:=by
 haveI:=c0;haveI:=h1;haveI:=h2;haveI:=h3;haveI:=h4;haveI:=h5;haveI:=h6;haveI:=h7
 haveI v1:=(inferInstance:Zu 310000 65000 (q.1-p.1) 80 81)
 haveI v2:=(inferInstance:Zu 310000 65000 (q.2-p.2) 80 81)
 haveI w1:=(inferInstance:Zu 310000 65000 (c.1-p.1) 80 81)
 haveI w2:=(inferInstance:Zu 310000 65000 (c.2-p.2) 80 81)
 haveI zs:Zu 310000 65000 (bp p q) 320 327:=(inferInstance:Zu 310000 65000 ((q.1-p.1)*(q.1-p.1)+(q.2-p.2)*(q.2-p.2)) _ _)
 haveI ze:Zu 310000 65000 (bN p q c) 320 327:=(inferInstance:Zu 310000 65000 ((q.1-p.1)*(c.1-p.1)+(q.2-p.2)*(c.2-p.2)) _ _)
 haveI zc:Zu 310000 65000 (gY p q c) 320 327:=(inferInstance:Zu 310000 65000 ((q.1-p.1)*(c.2-p.2)-(q.2-p.2)*(c.1-p.1)) _ _)
 exact⟨v1,v2,w1,w2,zs,ze,zc,inferInstance⟩
structure LinQ(p q c:P2 ts):Prop where
  hd:FP 281 [aO ts,nA (sX (bN p q c)),nA (sX (bp p q))] (.tup [nA (sX (bN p q c*iE (bp p q))),.v .nilIface])
  al:Con prog 268 [.ptr 1000 0,aI (sX p.1) (sX p.2),nA (sX (bN p q c*iE (bp p q))),aI (sX (br q p).1) (sX (br q p).2)] [(1000,some (aY ts))] (cS (dF p (bN p q c*iE (bp p q)) (br q p)).l) [(1000,some (aY ts))]
  n1:Zu 310000 65000 (dF p (bN p q c*iE (bp p q)) (br q p)).1 2040 2088
  n2:Zu 310000 65000 (dF p (bN p q c*iE (bp p q)) (br q p)).2 2040 2088
theorem Dp{p q c:P2 ts}{z:Et ts}(c0:Cy ts 310000 65000)(hn:ts.length<=1)(h1:Zu 310000 65000 p.1 40 40)(h2:Zu 310000 65000 p.2 40 40)(P:LinP p q c z)(h0:ak (bp p q)≠0):LinQ p q c:=by
 haveI:=c0;haveI:=h1;haveI:=h2;haveI:=P.v1;haveI:=P.v2;haveI:=P.zs;haveI:=P.ze
 have hd:=o8 (ts:=ts) (u:=310000) (k:=65000) (a:=sX (bN p q c)) (b:=sX (bp p q)) (j:=ts.length) P.zs.nm.nl (le_refl _) hn h0 (by decide);haveI:=hd.2;have m1:=iR (ts:=ts) (u:=310000) (k:=65000) (a:=sX (bN p q c*iE (bp p q))) (b:=sX (br q p).1) (by decide);have m2:=iR (ts:=ts) (u:=310000) (k:=65000) (a:=sX (bN p q c*iE (bp p q))) (b:=sX (br q p).2) (by decide);have m3:=jy (ts:=ts) (u:=310000) (k:=65000) (a:=sX p.1) (b:=sX (bN p q c*iE (bp p q)*(br q p).1)) (by decide);have m4:=jy (ts:=ts) (u:=310000) (k:=65000) (a:=sX p.2) (b:=sX (bN p q c*iE (bp p q)*(br q p).2)) (by decide);exact⟨hd.1,qF m1 m2 m3 m4,(inferInstance:Zu 310000 65000 (p.1+bN p q c*iE (bp p q)*(br q p).1) _ _),(inferInstance:Zu 310000 65000 (p.2+bN p q c*iE (bp p q)*(br q p).2) _ _)⟩
structure LinS(X:Et ts)(S:Et ts)(p v:P2 ts)(k:Et (aG ts (sX X))):Prop where
  hd:FP 281 [aO (aG ts (sX X)),nA (sX k),nA (sX S)] (.tup [nA (sX (fa X S k)),.v .nilIface])
  al:Con prog 268 [.ptr 1000 0,aI (sX p.1) (sX p.2),nA (sX (fa X S k)),aI (sX v.1) (sX v.2)] [(1000,some (aY (aG ts (sX X))))] (cS (jU X p v (fa X S k)).l) [(1000,some (aY (aG ts (sX X))))]
  n1:Zu 773000000 1101400000 (jU X p v (fa X S k)).1 9 6
  n2:Zu 773000000 1101400000 (jU X p v (fa X S k)).2 9 6
theorem wd{X S:Et ts}{p v:P2 ts}{k:Et (aG ts (sX X))}(hn:ts.length<=1)(E:ExtP X)(hs:Zu 310000 65000 S 320 327)(h0:ak S≠0)(p1:Zu 310000 65000 p.1 40 40)(p2:Zu 310000 65000 p.2 40 40)(v1:Zu 310000 65000 v.1 80 81)(v2:Zu 310000 65000 v.2 80 81)
  (hk:Zu 773000000 1101400000 k 2 1):LinS X S p v k:=by
 haveI cy:=E.cy;haveI:=hk;haveI zs:=jg (X:=X) hn hs (by decide);haveI zp1:=jg (X:=X) hn p1 (by decide);haveI zp2:=jg (X:=X) hn p2 (by decide);haveI zv1:=jg (X:=X) hn v1 (by decide);haveI zv2:=jg (X:=X) hn v2 (by decide);haveI:=zp1.zu;haveI:=zp2.zu;haveI:=zv1.zu;haveI:=zv2.zu
 have hdiv:=o8 (ts:=aG ts (sX X)) (u:=773000000) (k:=1101400000) (a:=sX k) (b:=sX S) (j:=ts.length) hs.nm.nl (by rw[dm];omega) hn (by rw[no];exact h0) (by decide);haveI zk:Zu 773000000 1101400000 (fa X S k) 7 4:=hdiv.2;have m1:=iR (ts:=aG ts (sX X)) (u:=773000000) (k:=1101400000) (a:=sX (fa X S k)) (b:=sX v.1) (by decide);have m2:=iR (ts:=aG ts (sX X)) (u:=773000000) (k:=1101400000) (a:=sX (fa X S k)) (b:=sX v.2) (by decide);have m3:=jy (ts:=aG ts (sX X)) (u:=773000000) (k:=1101400000) (a:=sX p.1) (b:=sX (fa X S k*aK X v.1)) (by decide);have m4:=jy (ts:=aG ts (sX X)) (u:=773000000) (k:=1101400000) (a:=sX p.2) (b:=sX (fa X S k*aK X v.2)) (by decide);exact⟨hdiv.1,qF m1 m2 m3 m4,(inferInstance:Zu 773000000 1101400000 (aK X p.1+fa X S k*aK X v.1) 9 6),(inferInstance:Zu 773000000 1101400000 (aK X p.2+fa X S k*aK X v.2) 9 6)⟩
theorem AX{X:Et ts}{w v w' v' u k:Nat}(h:Zu u k X w v)(hw:w<=w')(hv:v<=v'):Zu u k X w' v':=⟨h.nm.mono (A8 hw hv)⟩
theorem SJ{x:Int}(h:cond (cond (cZ Value.nilIface) (aa .eql x 0) false) (cZ Value.nilIface) false=true):x=0:=by
 cases h9:aa .eql x 0
 ·rw[h9]at h;cases h
 ·exact cM h9
theorem QL{x:Int}(h:cond (cond (cZ Value.nilIface) (aa .eql x 0) false) (cZ Value.nilIface) false=false):x≠0:=by
 cases h9:aa .eql x 0
 ·exact dJ h9
 ·rw[h9]at h;cases h
theorem Ol{x y:AV}{i:Nat}{Q:AV->Prop}(hi:i<2)(hx:Q x)(hy:Q y):∃z,[x,y][i]?=some z/\Q z:=by
 have h:i=0\/i=1:=by omega
 rcases h with rfl |rfl
 ·exact⟨x,rfl,hx⟩
 ·exact⟨y,rfl,hy⟩
theorem Dh{r e:Nat}{a b c d:Et ts}(tw:Tw ts r)(hl:lm ts.length=200000000000)(h1:Nm ts.length e (sX a))(h2:Nm ts.length e (sX b))(h3:Nm ts.length e (sX c))(h4:Nm ts.length e (sX d))(he:e+e+kB r ts.length<=100000000000) :
  FP 80 [aO ts,aI (sX a) (sX b),aI (sX c) (sX d)] (.tup [nA (sX (a*c+b*d)),.v .nilIface]):=by
 have h:=v5 tw h1 h2 h3 h4 (by rw[hl];omega);rw[show ae ts.length (sX a)=a from a7 _ _,show ae ts.length (sX b)=b from a7 _ _,show ae ts.length (sX c)=c from a7 _ _,show ae ts.length (sX d)=d from a7 _ _]at h;exact h
theorem M1{r e:Nat}{a b c d:Et ts}(tw:Tw ts r)(hl:lm ts.length=200000000000)(h1:Nm ts.length e (sX a))(h2:Nm ts.length e (sX b))(h3:Nm ts.length e (sX c))(h4:Nm ts.length e (sX d))(he:e+e+kB r ts.length<=100000000000) :
  FP 77 [aO ts,aI (sX a) (sX b),aI (sX c) (sX d)] (.tup [nA (sX (a*d-b*c)),.v .nilIface]):=by
 have h:=DD tw h1 h2 h3 h4 (by rw[hl];omega);rw[show ae ts.length (sX a)=a from a7 _ _,show ae ts.length (sX b)=b from a7 _ _,show ae ts.length (sX c)=c from a7 _ _,show ae ts.length (sX d)=d from a7 _ _]at h;exact h
end
section
variable{rs:List (List Rt)}{c:List Rat}{o p q:P2 (llq rs)}{z:Et (llq rs)}
theorem SY(h:TR rs 64990)(hc:ba rs=0)(hn:(llq rs).length<=1)(c0:Ct (llq rs) 310000 65000)(ho1:Zu 310000 65000 o.1 40 40)(ho2:Zu 310000 65000 o.2 40 40)(p1:Zu 310000 65000 p.1 40 40)(p2:Zu 310000 65000 p.2 40 40)(q1:Zu 310000 65000 q.1 40 40)(q2:Zu 310000 65000 q.2 40 40)
  [i3:Zl (llq rs) 310000 65000 c z 3 0] (s1:0<=ak z):FP 159 [de rs,.agg [nA (sX o.1),nA (sX o.2),nA c],cS p.l,cS q.l] (.tup [(eG p q o z).av,bg (fF p q)]):=by
 obtain⟨tw,etw⟩:=db h hc;haveI cy:Cy (llq rs) 310000 65000:=⟨c0.ex,by obtain⟨_,h9,_⟩:=c0;exact h9,by obtain⟨_,_,h9,_⟩:=c0;exact h9,by omega⟩
 have hlm:=cy.lm;have hck:=mN rs 64990 h;rw[hc]at hck;have P:=Ch cy p1 p2 q1 q2 ho1 ho2 i3.zu;haveI:=ho1;haveI:=ho2;haveI:=p1;haveI:=p2;haveI:=q1;haveI:=q2;haveI:=P.v1;haveI:=P.v2;haveI:=P.w1;haveI:=P.w2;haveI:=P.zs;haveI:=P.ze;haveI:=P.zc;haveI:=P.zX
 have hci:=Bg (e:=40*310000+40*65000) h hc ho1.nm ho2.nm (i3.nm.mono (by decide)) (by rw[hlm];decide)
 have hra:=BI h hc [(sX o.1,sX o.2,c)] (fun y hy=>by
  rw[List.mem_singleton.1 hy];exact⟨ho1.nm.mono (by decide),ho2.nm.mono (by decide),i3.nm.mono (by decide),by show 0<=ak (dE (llq rs) c);rw[show dE (llq rs) c=z from i3.eq];exact s1⟩) (by show 1<=100;omega)
 have a1:=ka (ts:=llq rs) (u:=310000) (k:=65000) (a:=sX q.1) (b:=sX p.1) (by decide);have a2:=ka (ts:=llq rs) (u:=310000) (k:=65000) (a:=sX q.2) (b:=sX p.2) (by decide);have a3:=ka (ts:=llq rs) (u:=310000) (k:=65000) (a:=sX o.1) (b:=sX p.1) (by decide);have a4:=ka (ts:=llq rs) (u:=310000) (k:=65000) (a:=sX o.2) (b:=sX p.2) (by decide);have hkb:80*310000+81*65000+(80*310000+81*65000)+kB 64990 (llq rs).length<=100000000000:=by have:=xc hn;omega
 have b1:=Dh tw hlm P.v1.nm P.v2.nm P.v1.nm P.v2.nm hkb;have b2:=Dh tw hlm P.v1.nm P.v2.nm P.w1.nm P.w2.nm hkb;have b3:=M1 tw hlm P.v1.nm P.v2.nm P.w1.nm P.w2.nm hkb;rw[<- etw]at b1 b2 b3;have m1:=oX (ts:=llq rs) (u:=310000) (k:=65000) (a:=sX (bp p q)) (by decide);have m2:=iR (ts:=llq rs) (u:=310000) (k:=65000) (a:=sX (bp p q)) (b:=c) (by decide);have m3:=iR (ts:=llq rs) (u:=310000) (k:=65000) (a:=sX (gY p q o)) (b:=sX (gY p q o)) (by decide);haveI zz:=i3.zu;have m4:=ka (ts:=llq rs) (u:=310000) (k:=65000) (a:=sX (bp p q*z)) (b:=sX (gY p q o*gY p q o)) (by decide);have m5:=oX (ts:=llq rs) (u:=310000) (k:=65000) (a:=sX (aT p q o z)) (by decide);have m0:=Con.sA (.cons (.refl _) (.cons (Sub.nil 2 none 0) .nil)) (lY tw []);refine ai func159 ?_;refine gc hck ?_;refine gC (fun t27=>?_) (fun t27=>?_) (st1:=(3,0));cases t27;refine gc hci ?_;refine gC (fun t34=>?_) (fun t34=>?_) (st1:=(6,0));cases t34;refine ge rfl ?_;refine aN [4,5,6,7,8,39,40] [4,5,6,7,8] (fun(i:Nat)=>[(41,some (i64 i))]) (fun _=>[]) (fun i=>i<=2) (fun i=>2-i) 0 (zero_le _) ?_;rintro i hi K1 J1;refine gC (fun t42=>?_) (fun t42=>?_)
 ·have hin:i<2:=aS (b:=2) t42;obtain⟨zz2,hz2,u,v,hu,hv,rfl⟩:=Ol (x:=cS p.l) (y:=cS q.l) (Q:=fun w=>∃u v,Nm (llq rs).length (40*310000+40*65000) u/\Nm (llq rs).length (40*310000+40*65000) v/\w=aI u v) hin ⟨_,_,p1.nm,p2.nm,rfl⟩ ⟨_,_,q1.nm,q2.nm,rfl⟩;refine gi hz2 ?_;refine gc (Fb h hc hu hv (by rw[hlm];decide)) ?_;refine gC (fun t49=>?_) (fun t49=>?_) (st1:=(12,0));cases t49;refine ga aF ?_;exact aH J1 (i+1) hin
 refine gc hra ?_;refine gC (fun t58=>?_) (fun t58=>?_) (st1:=(16,0)) (st2:=(18,0));cases t58;refine gW (Wk.of (sl:=[(4,some (.ptr 4 0)),(5,some (.ptr 5 0)),(6,some (.ptr 6 0)),(7,some (.ptr 7 0)),(8,some (.ptr 8 0)),(16,some (.ptr 63 0))]) (hp:=[(4,some (.box [.lst 1 (rs.map nR)])),(5,some (.box [nA (sX o.1),nA (sX o.2),nA c])),(6,some (.box [nA (sX p.1),nA (sX p.2)])),(7,some (.box [nA (sX q.1),nA (sX q.2)])),(8,some (.box [nS,nS])),(63,some (aY (llq rs)))]) aW (.k (.k (.k (.k (.k (.cons rfl (BlkSub.bL (.cons (.of (me etw)) (.cons (.refl _) .nil)) rfl) .nil))))))) ?_
 refine gt (aQ (Con.rB 63 rfl rfl rfl rfl a1) (aE rfl rfl rfl) rfl rfl rfl) ?_;refine gt (aQ (Con.rB 63 rfl rfl rfl rfl a2) (aE rfl rfl rfl) rfl rfl rfl) ?_;refine gD ?_;refine gt (aQ (Con.rB 63 rfl rfl rfl rfl a3) (aE rfl rfl rfl) rfl rfl rfl) ?_;refine gt (aQ (Con.rB 63 rfl rfl rfl rfl a4) (aE rfl rfl rfl) rfl rfl rfl) ?_;refine gD ?_;refine gc b1 ?_;refine gt (aQ (Con.rB 63 rfl rfl rfl rfl (nJ _ _)) (aE rfl rfl rfl) rfl rfl rfl) ?_;refine gu (d5 rfl rfl rfl (fun h=>aQ (Con.rB 63 rfl rfl rfl rfl m1) (.cons (.opt rfl (o1 h)) (.cons (.opt rfl (o1 h)) .nil)) rfl rfl rfl)) ?_;refine gC (fun t117=>?_) (fun t117=>?_)
 ·have h0:ak (bp p q)=0:=SJ t117;refine gR ?_;exact dV (by unfold eG fF;rw[if_pos h0,if_pos h0];exact Sub.tup (.cons C7 (.cons (.refl _) .nil)))
 have h0:ak (bp p q)≠0:=QL t117;have Q:=Dp cy hn p1 p2 P h0;refine gc b2 ?_;refine gt (aQ (Con.rB 63 rfl rfl rfl rfl (nJ _ _)) (aE rfl rfl rfl) rfl rfl rfl) ?_;refine gc b3 ?_;refine gt (aQ (Con.rB 63 rfl rfl rfl rfl (nJ _ _)) (aE rfl rfl rfl) rfl rfl rfl) ?_;refine gt (aQ (Con.rB 63 rfl rfl rfl rfl m2) (aE rfl rfl rfl) rfl rfl rfl) ?_;refine gt (aQ (Con.rB 63 rfl rfl rfl rfl m3) (aE rfl rfl rfl) rfl rfl rfl) ?_;refine gt (aQ (Con.rB 63 rfl rfl rfl rfl m4) (aE rfl rfl rfl) rfl rfl rfl) ?_;refine gt (aQ (Con.rB 63 rfl rfl rfl rfl m5) (bm rfl rfl) rfl rfl rfl) ?_;refine gC (fun t150=>?_) (fun t150=>?_)
 ·have h1:ak (aT p q o z)=-1:=cM t150;refine gt (aQ (Con.rB 63 rfl rfl rfl rfl m0) (.cons (.tmp rfl) (.cons (.const _) .nil)) rfl rfl rfl) ?_;refine bh ?_;unfold eG fF;rw[if_neg h0,if_neg h0,if_pos h1];rfl
 have h1:¬ak (aT p q o z)=-1:=dJ t150;refine gC (fun t156=>?_) (fun t156=>?_)
 ·have h2:ak (aT p q o z)=0:=cM t156;refine gt (aQ (Con.rB 63 rfl rfl rfl rfl (sT Q.hd)) (aE rfl rfl rfl) rfl rfl rfl) ?_;refine gt (aQ (Con.rB 63 rfl rfl rfl rfl Q.al) (.cons (.tmp rfl) (.cons (.tmp rfl) (.cons (.tmp rfl) (.cons (.tmp rfl) .nil)))) rfl rfl rfl) ?_;refine gt (aQ (Con.rB 63 rfl rfl rfl rfl (lY tw [cS (dF p (bN p q o*iE (bp p q)) (br q p)).l])) (bm rfl rfl) rfl rfl rfl) ?_;refine gD ?_;refine bh ?_;unfold eG fF;rw[if_neg h0,if_neg h0,if_neg h1,if_pos h2];rfl
 have h2:¬ak (aT p q o z)=0:=dJ t156
 have hpos:0<=ak (aT p q o z):=by
  have:=T.sgn_cases (au (llq rs)) (llq rs).length (aT p q o z);have e:ak (aT p q o z)=T.sgn (au (llq rs)) (llq rs).length (aT p q o z):=rfl;omega
 have E:ExtP (aT p q o z):=s6 tw hn (AX P.zX oz oz) hpos;haveI ce:=E.cy;haveI zr:Zl (aG (llq rs) (sX (aT p q o z))) 773000000 1101400000 (bY (llq rs).length) (dE _ (bY (llq rs).length)) 1 0:=Zl.at (qW oz) (by decide);haveI ze':=jg (X:=aT p q o z) hn P.ze (by decide);haveI:=zr.zu;haveI:=ze'.zu
 have e1:=jy (ts:=aG (llq rs) (sX (aT p q o z))) (u:=773000000) (k:=1101400000) (a:=sX (bN p q o)) (b:=bY (llq rs).length) (by decide);have e2:=ka (ts:=aG (llq rs) (sX (aT p q o z))) (u:=773000000) (k:=1101400000) (a:=sX (bN p q o)) (b:=bY (llq rs).length) (by decide);have S1:=wd (p:=p) (v:=br q p) hn E P.zs h0 p1 p2 P.v1 P.v2 (k:=aK (aT p q o z) (bN p q o)+bn (aT p q o z)) inferInstance;have S2:=wd (p:=p) (v:=br q p) hn E P.zs h0 p1 p2 P.v1 P.v2 (k:=aK (aT p q o z) (bN p q o)-bn (aT p q o z)) inferInstance;have hex:=GE (a:=sX (aT p q o z)) tw P.zX.nm (by rw[hlm];decide) (by rw[show ae (llq rs).length (sX (aT p q o z))=aT p q o z from a7 _ _];exact hpos);refine gt (az (Con.rB 63 rfl rfl rfl rfl hex) (bm rfl rfl) aB rfl rfl) ?_;refine gt (aQ (Con.rB 63 rfl rfl rfl rfl e1) (aE rfl rfl rfl) rfl rfl rfl) ?_;refine gt (aQ (Con.rB 63 rfl rfl rfl rfl (sT S1.hd)) (aE rfl rfl rfl) rfl rfl rfl) ?_;refine gt (aQ (Con.rB 63 rfl rfl rfl rfl S1.al) (.cons (.tmp rfl) (.cons (.tmp rfl) (.cons (.tmp rfl) (.cons (.tmp rfl) .nil)))) rfl rfl rfl) ?_;refine gt (aQ (Con.rB 63 rfl rfl rfl rfl e2) (aE rfl rfl rfl) rfl rfl rfl) ?_;refine gt (aQ (Con.rB 63 rfl rfl rfl rfl (sT S2.hd)) (aE rfl rfl rfl) rfl rfl rfl) ?_;refine gt (aQ (Con.rB 63 rfl rfl rfl rfl S2.al) (.cons (.tmp rfl) (.cons (.tmp rfl) (.cons (.tmp rfl) (.cons (.tmp rfl) .nil)))) rfl rfl rfl) ?_;refine gt (aQ (Con.rB 63 rfl rfl rfl rfl (lY E.tw [cS (jU (aT p q o z) p (br q p) (fa (aT p q o z) (bp p q) (aK (aT p q o z) (bN p q o)+bn (aT p q o z)))).l,cS (jU (aT p q o z) p (br q p) (fa (aT p q o z) (bp p q) (aK (aT p q o z) (bN p q o)-bn (aT p q o z)))).l])) (bm rfl rfl) rfl rfl rfl) ?_;refine gD ?_;refine bh ?_;unfold eG fF;rw[if_neg h0,if_neg h0,if_neg h1,if_neg h2];rfl
end
theorem Nc(o:Option Nat):aa .geq (iX o) 0=o.isSome:=by
 cases o with
 |none=>rfl
 |some i=>exact decide_eq_true (by show(i:Int)>=0;omega)
theorem Ke(bs:List (Rat×Rat))(hl:bs.length<=281474976710656)(f:FuncId)(pre caps:List AV)(ok:Nat->Bool)
  (hf:∀(i:Nat)(b:Rat×Rat),bs[i]?=some b->(∀j,j<i->ok j=true)->FP f (pre++[qP b]++caps) (bl (!ok i))) :
  FP 354 [.lst 6 (bs.map qP),.cl f pre caps] (i64 (iX (bU bs.length ok))):=by
 refine ai func354 ?_;refine gl ?_;refine aN [0,1,7] [] (fun(i:Nat)=>[(8,some (i64 i))]) (fun _=>[]) (fun i=>i<=bs.length/\∀j,j<i->ok j=true) (fun i=>bs.length-i) 0 ⟨zero_le _,fun j h=>by omega⟩ ?_;rintro i ⟨hi,hj⟩ K1 J1;refine gC (fun t9=>?_) (fun t9=>?_)
 ·have hin:=aS t9;obtain⟨b,hb⟩:=ax hin;refine gi (aA hb) ?_;refine gc (hf i b hb hj) ?_;refine gC (fun t16=>?_) (fun t16=>?_)
  ·have h2:=cI t16;refine af ?_;rw[fL hin hj h2];rfl
  have h2:=cH t16;refine ga aF ?_;exact aH J1 (i+1) ⟨hin,fun j h9=>by rcases lt_or_ge j i with g |g;exact hj j g;(have:j=i:=by omega);subst this;exact h2⟩
 have hin:=aZ hi t9;subst hin;refine af ?_;rw[eP hj];rfl
theorem P7(bs:List (Rat×Rat))(hl:bs.length<=281474976710656)(f:FuncId)(pre caps:List AV)(ok:Nat->Bool)
  (hf:∀(i:Nat)(b:Rat×Rat),bs[i]?=some b->(∀j,j<i->ok j=true)->FP f (pre++[qP b]++caps) (bl (!ok i))) :
  FP 259 [.lst 6 (bs.map qP),.cl f pre caps] (bl (bU bs.length ok).isSome):=by
 refine ai func259 ?_;refine gc (Ke bs hl f pre caps ok hf) ?_;refine af ?_;rw[<- Nc];rfl
theorem UE{v:Rat×Rat}(hv:Sm 3000 v):FP 260 [qP v] (bl (decide (bQ v v=0))):=by
 refine ai func260 ?_;refine gc (Ff hv hv oz oz) ?_;refine gc (Ml ((hv.dot hv).qs oz)) ?_;refine af ?_;rw[<- Jo];rfl
def fP(vs:List (Rat×Rat)):Bool:=(bU vs.length fun i=>!decide (bQ (vs.getD i (0,0)) (vs.getD i (0,0))=0)).isSome
theorem Hu(vs:List (Rat×Rat))(hl:vs.length<=281474976710656)(hv:∀v∈vs,Sm 3000 v):FP 155 [.lst 6 (vs.map qP)] (bl (fP vs)):=by
 refine ai func155 ?_;refine gc (Con.sA (.cons (.refl _) (.cons ((Sub.fn0 _).trans (vn rfl)) .nil)) (P7 vs hl 260 [] [] (fun i=>!decide (bQ (vs.getD i (0,0)) (vs.getD i (0,0))=0)) (fun i b hb _=>by rw[Bool.not_not,aC hb];exact UE (hv b (mem_of_getElem? hb))))) ?_;refine af ?_;rfl
theorem wa{v:Rat×Rat}(h:fP [v]=false):bQ v v≠0:=by
 intro h0;have h1:bU 1 (fun i=>!decide (bQ ([v].getD i (0,0)) ([v].getD i (0,0))=0))=some 0:=fL oz (fun j hj=>by omega) (by show(!decide (bQ v v=0))=false;rw[h0];rfl);unfold fP at h;rw[show[v].length=1 from rfl,h1]at h;cases h
theorem tY{v w:Rat×Rat}(h:fP [v,w]=false):bQ v v≠0/\bQ w w≠0:=by
 unfold fP at h;rw[Option.isSome_eq_false_iff,Option.isNone_iff_eq_none]at h;have h2:=PA h;have h3:=h2 0 (by show 0<2;omega);have h4:=h2 1 (by show 1<2;omega);have h5:(!decide (bQ v v=0))=true:=h3;have h6:(!decide (bQ w w=0))=true:=h4;simp only[Bool.not_eq_true',decide_eq_false_iff_not]at h5 h6;exact⟨h5,h6⟩
theorem EQ(i n:Nat)(hi:i<=100):FP 164 [i64 i,i64 n] (i64 (if n=1 then 0 else 1-2*(i:Int))):=by
 refine ai func164 ?_;refine gC (fun t6=>?_) (fun t6=>?_)
 ·have h1 : n = 1 := by have := cM t6; omega
  refine af ?_;rw[if_pos h1];rfl
 have h1:¬n=1:=by have:=dJ t6;omega
 refine ga (show _=2*(i:Int) by exact xw oz) ?_;refine ga (show _=1-2*(i:Int) by exact dI oz) ?_;refine af ?_;rw[if_neg h1];rfl
section
variable{ts:LL}
abbrev jC(u:Rat×Rat):Et ts:=qE (bQ u u)
def dg(u:Rat×Rat)(w:P2 ts):Et ts:=(qE u.1*w.1+qE u.2*w.2)*iE (jC u)
def da(u:Rat×Rat)(w:P2 ts):Et ts:=(qE u.1*w.2-qE u.2*w.1)*iE (jC u)
def pg(u:Rat×Rat)(w:P2 ts)(p:Rat×Rat)(o:P2 ts):Et ts:=o.1-(dg u w*qE p.1-da u w*qE p.2)
def qk(u:Rat×Rat)(w:P2 ts)(p:Rat×Rat)(o:P2 ts):Et ts:=o.2-(da u w*qE p.1+dg u w*qE p.2)
def gB(u:Rat×Rat)(w:P2 ts)(p:Rat×Rat)(o:P2 ts):Pq:=⟨sX (dg u w),sX (da u w),sX (pg u w p o),sX (qk u w p o)⟩
theorem uf(ts:LL)(a b:List Rat):Con prog 75 [.ptr 1000 0,aI a b,.v .nilIface] [(1000,some (aY ts))] (aI a b) [(1000,some (aY ts))]:=by
 have h:=CB (ts.map (List.map rt)) a b;rw[xh]at h;exact h
theorem pu(q:Rat):ae ts.length (sh 0 (q:Rat))=(qE q:Et ts):=fR _ q
theorem ni{e:Nat}{q:Rat}(h5:ts.length<=5)(h:Qb e q):Nm ts.length e (sh 0 (q:Rat)):=Nm.ofQ h5 (Cb.one h)
structure BdP(ts:LL)(u:Rat×Rat)(w:P2 ts)(p:Rat×Rat)(o:P2 ts):Prop where
  dot:FP 80 [aO ts,aI (sh 0 (u.1:Rat)) (sh 0 (u.2:Rat)),aI (sX w.1) (sX w.2)] (.tup [nA (sX (qE u.1*w.1+qE u.2*w.2)),.v .nilIface])
  crs:FP 77 [aO ts,aI (sh 0 (u.1:Rat)) (sh 0 (u.2:Rat)),aI (sX w.1) (sX w.2)] (.tup [nA (sX (qE u.1*w.2-qE u.2*w.1)),.v .nilIface])
  d1:FP 281 [aO ts,nA (sX (qE u.1*w.1+qE u.2*w.2)),nA (sh 0 (bQ u u:Rat))] (.tup [nA (sX (dg u w)),.v .nilIface])
  d2:FP 281 [aO ts,nA (sX (qE u.1*w.2-qE u.2*w.1)),nA (sh 0 (bQ u u:Rat))] (.tup [nA (sX (da u w)),.v .nilIface])
  tn:FP 191 [aO ts,nA (sX (dg u w)),nA (sX (da u w)),aI (sh 0 (p.1:Rat)) (sh 0 (p.2:Rat))] (.tup [aI (sX (dg u w*qE p.1-da u w*qE p.2)) (sX (da u w*qE p.1+dg u w*qE p.2)),.v .nilIface])
  s1:FP 176 [aO ts,nA (sX o.1),nA (sX (dg u w*qE p.1-da u w*qE p.2))] (.tup [nA (sX (pg u w p o)),.v .nilIface])
  s2:FP 176 [aO ts,nA (sX o.2),nA (sX (da u w*qE p.1+dg u w*qE p.2))] (.tup [nA (sX (qk u w p o)),.v .nilIface])
  ok:Pq.ok ts.length 80000000000 (gB u w p o)
theorem EX{r W A K F:Nat}{u p:Rat×Rat}{w o:P2 ts}(tw:Tw ts r)(h2:ts.length<=2)(hk:kB r ts.length<=K)(hu:Sm 3000 u)(hp:Sm 3000 p)(h0:bQ u u≠0)
  (w1:Nm ts.length W (sX w.1)) (w2:Nm ts.length W (sX w.2)) (a1:Nm ts.length A (sX o.1)) (a2:Nm ts.length A (sX o.2)) (hW:3000<=W) (hF:4*W+10*K+A+100000<=F) (hF2:F<=80000000000):BdP ts u w p o:=by
 have hl:lm ts.length=200000000000:=by unfold lm;rw[if_pos h2]
 have h5:=tw.five;have hu1:=ni (ts:=ts) h5 hu.x;have hu2:=ni (ts:=ts) h5 hu.y;have hp1:=ni (ts:=ts) h5 hp.x;have hp2:=ni (ts:=ts) h5 hp.y;have hnn:=ni (ts:=ts) h5 (hu.dot hu);have hkE:eB r ts.length<=K:=hk;have ew:∀x:Et ts,ae ts.length (sX x)=x:=fun x=>a7 _ _
 have c1:=v5 tw (hu1.mono (f:=W) oz) (hu2.mono oz) w1 w2 (by rw[hl];omega);have c2:=DD tw (hu1.mono (f:=W) oz) (hu2.mono oz) w1 w2 (by rw[hl];omega);have n1:=xu tw hu1 hu2 w1 w2;have n2:=zI tw hu1 hu2 w1 w2;rw[pu,pu,ew,ew]at c1 c2 n1 n2
 have hs:T.sgn (au ts) ts.length (ae ts.length (sh 0 (bQ u u:Rat)))≠0:=by
  rw[fR,T.sgn_ofQ];intro h9;exact h0 (nN h9)
 have nb:Nl 0 (sh 0 (bQ u u:Rat)):=dZ 0 _;have d1:=xS tw n1 hnn (zero_le _) nb hs (by rw[hl];omega) (by simp only[iB];omega);have d2:=xS tw n2 hnn (zero_le _) nb hs (by rw[hl];omega) (by simp only[iB];omega);have m1:=yf tw n1 hnn (zero_le _) nb hs (by rw[hl];omega) (by simp only[iB];omega);have m2:=yf tw n2 hnn (zero_le _) nb hs (by rw[hl];omega) (by simp only[iB];omega);have e1:∀x:Et ts,ae ts.length (sh ts.length x)=x:=fun x=>a7 _ _
 have f1:ae ts.length (sh ts.length (oe ts (qE u.1:Et ts) (qE u.2:Et ts) w.1 w.2))=(qE u.1*w.1+qE u.2*w.2:Et ts):=a7 _ _;have f2:ae ts.length (sh ts.length (l7 ts (qE u.1:Et ts) (qE u.2:Et ts) w.1 w.2))=(qE u.1*w.2-qE u.2*w.1:Et ts):=a7 _ _;rw[f1,pu]at d1 m1;rw[f2,pu]at d2 m2;have k1:Nm ts.length (2*W+3*K+30000) (sX (dg u w)):=Nm.mono m1 (by simp only[iB];omega);have k2:Nm ts.length (2*W+3*K+30000) (sX (da u w)):=Nm.mono m2 (by simp only[iB];omega);have c3:=BH tw k1 k2 (hp1.mono (f:=(2*W+3*K+30000)) oz) (hp2.mono oz) (by rw[hl];omega);have n3:=wA tw k1 k2 hp1 hp2;have n4:=ul tw k1 k2 hp1 hp2;rw[pu,pu,ew,ew]at c3 n3 n4;have s1:=nv tw a1 n3 (by rw[hl];omega);have s2:=nv tw a2 n4 (by rw[hl];omega);have m3:=a1.sub n3;have m4:=a2.sub n4;have f3:ae ts.length (sh ts.length (qR ts (dg u w) (da u w) (qE p.1:Et ts) (qE p.2:Et ts)))=(dg u w*qE p.1-da u w*qE p.2:Et ts):=a7 _ _;have f4:ae ts.length (sh ts.length (qw ts (dg u w) (da u w) (qE p.1:Et ts) (qE p.2:Et ts)))=(da u w*qE p.1+dg u w*qE p.2:Et ts):=a7 _ _;rw[ew,f3]at s1 m3;rw[ew,f4]at s2 m4;exact⟨c1,c2,d1,d2,c3,s1,s2,k1.mono oz,k2.mono oz,Nm.mono m3 oz,Nm.mono m4 oz⟩
theorem FD{r:Nat}{u p:Rat×Rat}{w o:P2 ts}(tw:Tw ts r)(h2:ts.length<=2)(hk:kB r ts.length<=1101400000)(hu:Sm 3000 u)(hp:Sm 3000 p)(h0:bQ u u≠0)
  (w1:Nm ts.length 17000000000 (sX w.1)) (w2:Nm ts.length 17000000000 (sX w.2)) (a1:Nm ts.length 773000000 (sX o.1)) (a2:Nm ts.length 773000000 (sX o.2)):BdP ts u w p o :=
 EX (F:=80000000000) tw h2 hk hu hp h0 w1 w2 a1 a2 oz oz oz
theorem uy{a b c:List Rat}(h:FP 176 [aO ts,nA a,nA b] (.tup [nA c,.v .nilIface])):Con prog 78 [.ptr 1000 0,nA a,nA b] [(1000,some (aY ts))] (nA c) [(1000,some (aY ts))]:=by
 refine gF func78 (fun k z h=>bj h) ?_;refine gc h ?_;refine gt (az (p4 _ _) (aE rfl rfl rfl) aB rfl rfl) ?_;refine gR ?_;exact aq.keep (a6 rfl)
theorem Ab{u p:Rat×Rat}{w o:P2 ts}(hu:Sm 3000 u)(hp:Sm 3000 p)(B:BdP ts u w p o) :
  Con prog 152 [.ptr 1000 0,qP u,cS w.l,qP p,cS o.l] [(1000,some (aY ts))] (gB u w p o).av [(1000,some (aY ts))]:=by
 refine gF func152 (fun k z h=>bj h) ?_;refine gc (uQ (hu.x.qs oz) (hu.y.qs oz)) ?_;refine gc (Ay hu oz) ?_;refine gD ?_;refine gc B.dot ?_;refine gt (aQ (p4 _ _) (aE rfl rfl rfl) rfl rfl rfl) ?_;refine gt (aQ (wF B.d1) (aE rfl rfl rfl) rfl rfl rfl) ?_;refine gc B.crs ?_;refine gt (aQ (p4 _ _) (aE rfl rfl rfl) rfl rfl rfl) ?_;refine gt (aQ (wF B.d2) (aE rfl rfl rfl) rfl rfl rfl) ?_;refine gD ?_;refine gc (uQ (hp.x.qs oz) (hp.y.qs oz)) ?_;refine gc B.tn ?_;refine gt (aQ (uf _ _ _) (aE rfl rfl rfl) rfl rfl rfl) ?_;refine gD ?_;refine gt (aQ (uy B.s1) (aE rfl rfl rfl) rfl rfl rfl) ?_;refine gt (aQ (uy B.s2) (aE rfl rfl rfl) rfl rfl rfl) ?_;refine gD ?_;refine gR ?_;exact aq.keep (a6 rfl)
end
structure Sv where
  ts:LL
  ps:List Pq
  mode:Int
abbrev Sv.av(s:Sv):AV:=.agg [.lst 1 (s.ts.map nA),.lst 4 (s.ps.map Pq.av),i64 s.mode]
structure Hd where
  p:Rat×Rat
  a:List Rat×List Rat
  c:Rat×Rat
abbrev Hd.av(h:Hd):AV:=.agg [bl (rt h.p.1).neg,ws (rt h.p.1).num,ws (rt h.p.1).den,bl (rt h.p.2).neg,ws (rt h.p.2).num,ws (rt h.p.2).den,nA h.a.1,nA h.a.2,bl (rt h.c.1).neg,ws (rt h.c.1).num,ws (rt h.c.1).den,bl (rt h.c.2).neg,ws (rt h.c.2).num,ws (rt h.c.2).den]
def j6(ts:LL)(h:Hd)(x:List Rat×List Rat):P2 ts:=(dE ts x.1-dE ts h.a.1,dE ts x.2-dE ts h.a.2)
def lT(ts:LL)(h:Hd):P2 ts:=(dE ts h.a.1,dE ts h.a.2)
def mG(ts:LL)(x:List Rat×List Rat)(h:Hd):Pq:=gB (bW h.c h.p) (j6 ts h x) h.p (lT ts h)
structure HdP(ts:LL)(x:List Rat×List Rat)(h:Hd):Prop where
  hp:Sm 1000 h.p
  hc:Sm 1000 h.c
  s1:FP 176 [aO ts,nA x.1,nA h.a.1] (.tup [nA (sX (j6 ts h x).1),.v .nilIface])
  s2:FP 176 [aO ts,nA x.2,nA h.a.2] (.tup [nA (sX (j6 ts h x).2),.v .nilIface])
  e1:sX (dE ts h.a.1)=h.a.1
  e2:sX (dE ts h.a.2)=h.a.2
  b:BdP ts (bW h.c h.p) (j6 ts h x) h.p (lT ts h)
theorem HdP.body{ts:LL}{x:List Rat×List Rat}{h:Hd}(H:HdP ts x h) :
  Con prog 152 [.ptr 1000 0,qP (bW h.c h.p),cS (j6 ts h x).l,qP h.p,aI h.a.1 h.a.2] [(1000,some (aY ts))] (mG ts x h).av [(1000,some (aY ts))]:=by
 have hb:=Ab (Sm.mono (H.hc.sub H.hp) oz) (Sm.mono H.hp oz) H.b
 have e:cS (lT ts h).l=aI h.a.1 h.a.2:=by
  show aI (sX (dE ts h.a.1)) (sX (dE ts h.a.2))=_;rw[H.e1,H.e2]
 rw[e]at hb;exact hb
def jX(m:Mt)(hs:List Hd)(i:Nat):Sv:=⟨m.ts,hs.map (mG m.ts (m.ps.getD i ([],[]))),if m.ps.length=1 then 0 else 1-2*(i:Int)⟩
def hO(m:Mt)(hs:List Hd)(n:Nat):List AV:=(List.range n).map fun i=>(jX m hs i).av
theorem xj(m:Mt)(hs:List Hd)(n:Nat):(hO m hs n).length=n:=by simp[hO]
theorem Py(m:Mt)(hs:List Hd)(n:Nat):hO m hs (n+1)=hO m hs n++[(jX m hs n).av]:=by unfold hO;rw[List.range_succ];simp
theorem DT{m:Mt}{r:Nat}(tw:Tw m.ts r)(hs:List Hd)(hl:hs.length<=2)(ml:m.ps.length<=2)(H:∀x∈m.ps,∀h∈hs,HdP m.ts x h) :
  FP 158 [m.av,.lst 14 (hs.map Hd.av)] (.tup [.lst 3 (hO m hs m.ps.length),.v .nilIface]):=by
 refine ai func158 ?_;refine gl ?_;refine gW (Wk.virt 900 3 rfl) ?_;refine aN [1,2,15,16] [2] (fun(i:Nat)=>[(6,some (.ms 900 3 0 i)),(17,some (i64 i))]) (fun i=>[(900,some (.row 3 (hO m hs i)))]) (fun i=>i<=m.ps.length) (fun i=>m.ps.length-i) 0 (zero_le _) ?_;rintro i hi K1 J1;refine gC (fun t18=>?_) (fun t18=>?_) (st2:=(17,0))
 ·have hin:=aS t18;obtain⟨x,hx⟩:=ax hin;have hx9:m.ps.getD i ([],[])=x:=aC hx;have hxm:=mem_of_getElem? hx;refine gi (aA hx) ?_;refine gc (yh tw) ?_;refine gl ?_;refine gc (EQ i m.ps.length oz) ?_;refine gD ?_ (7,0);refine gW (Wk.o (sl:=[(1,some (.lst 14 (hs.map Hd.av))),(2,some (.ptr 2 0)),(6,some (.ms 900 3 0 i)),(8,some (.ptr 8 0)),(9,some (.ptr 25 0)),(10,some (.ptr 10 0)),(15,some (.lst 2 (m.ps.map cS))),(16,some (i64 m.ps.length)),(17,some (i64 i))]) (hp:=[(2,some (.box [.lst 1 (m.ts.map nA),.lst 2 (m.ps.map cS)])),(8,some (.box [nA x.1,nA x.2])),(10,some (.box [.lst 1 (m.ts.map nA),nS,i64 (if m.ps.length=1 then 0 else 1-2*(i:Int))])),(25,some (aY m.ts)),(900,some (.row 3 (hO m hs i)))])) ?_
  refine gl ?_;refine gW (Wk.virt 901 4 rfl) ?_;refine aN [1,2,8,9,10,15,16,17,35,36] [2,8,25,900] (fun(k:Nat)=>[(6,some (.ms 900 3 0 i)),(37,some (i64 k))]) (fun k=>[(10,some (.box [.lst 1 (m.ts.map nA),.ms 901 4 0 k,i64 (if m.ps.length=1 then 0 else 1-2*(i:Int))])),(901,some (.row 4 (((hs.take k).map (mG m.ts x)).map Pq.av)))]) (fun k=>k<=hs.length) (fun k=>hs.length-k) 0 (zero_le _) ?_ (h2:=(.cons rfl (BlkSub.bL (.cons (.refl _) (.cons (.nM _ _ _) (.cons (.refl _) .nil))) rfl) (.k .nil)))
  rintro k hk K2 J2;refine gC (fun t38=>?_) (fun t38=>?_) (st2:=(13,0))
  ·have hkn:=aS t38;obtain ⟨h,hh⟩:=ax hkn;have Hh:=H x hxm h (mem_of_getElem? hh);refine gi (aA hh) ?_;refine gt (aQ (Con.rB 25 rfl rfl rfl rfl (uy Hh.s1)) (aE rfl rfl rfl) rfl rfl rfl) ?_;refine gt (aQ (Con.rB 25 rfl rfl rfl rfl (uy Hh.s2)) (aE rfl rfl rfl) rfl rfl rfl) ?_;refine gD ?_;refine gc (nI Hh.hc Hh.hp oz oz) ?_;refine gt (aQ (Con.rB 25 rfl rfl rfl rfl Hh.body) (.cons (.tmp rfl) (.cons (.tmp rfl) (.cons (.tmp rfl) (.cons (.tmp rfl) (.cons (.tmp rfl) .nil))))) rfl rfl rfl) ?_;refine gs (ci (.tmp rfl) rfl (by rw [length_map,length_map,length_take]; omega) (.tmp rfl) T38 rfl T69 rfl rfl (by dsimp only; simp only [length_cons,length_nil]; omega) rfl rfl) ?_;refine gD ?_ (12,0);refine gW (Wk.of (sl:=[(1,some (.lst 14 (hs.map Hd.av))),(2,some (.ptr 2 0)),(6,some (.ms 900 3 0 i)),(8,some (.ptr 8 0)),(9,some (.ptr 25 0)),(10,some (.ptr 10 0)),(15,some (.lst 2 (m.ps.map cS))),(16,some (i64 m.ps.length)),(17,some (i64 i)),(35,some (.lst 14 (hs.map Hd.av))),(36,some (i64 hs.length)),(37,some (i64 k))]) (hp:=[(2,some (.box [.lst 1 (m.ts.map nA),.lst 2 (m.ps.map cS)])),(8,some (.box [nA x.1,nA x.2])),(25,some (aY m.ts)),(10,some (.box [.lst 1 (m.ts.map nA),.ms 71 4 0 (k + 1),i64 (if m.ps.length = 1 then 0 else 1 - 2 * (i:Int))])),(900,some (.row 3 (hO m hs i))),(71,some (.row 4 (((hs.take (k + 1)).map (mG m.ts x)).map Pq.av)))]) aW (.k (.k (.k (.k (.k (.cons rfl (BlkSub.of (by rw [dG hh,map_append,map_append]; rfl)) .nil))))))) ?_ (12,0)
   refine gW (Wk.rk (k:=71) (d:=901) rfl rfl) ?_;refine ga aF ?_;exact aH J2 (k+1) hkn
  have hkn:=aZ hk t38;subst hkn;refine gW ((Wk.freeze (k:=901) rfl).trans<|Wk.of (sl:=[(1,some (.lst 14 (hs.map Hd.av))),(2,some (.ptr 2 0)),(6,some (.ms 900 3 0 i)),(9,some (.ptr 25 0)),(10,some (.ptr 10 0)),(15,some (.lst 2 (m.ps.map cS))),(16,some (i64 m.ps.length)),(17,some (i64 i))]) (hp:=[(2,some (.box [.lst 1 (m.ts.map nA),.lst 2 (m.ps.map cS)])),(25,some (aY m.ts)),(10,some (.box [.lst 1 (m.ts.map nA),.lst 4 ((hs.map (mG m.ts x)).map Pq.av),i64 (if m.ps.length=1 then 0 else 1-2*(i:Int))])),(900,some (.row 3 (hO m hs i)))]) aW (.k (.k (.cons rfl (BlkSub.bL (.cons (.refl _) (.cons (Sub.of (by rw[bJ (by rw[length_map,length_map,length_take];omega),take_length])) (.cons (.refl _) .nil))) rfl) (.k .nil))))) ?_
  refine gC (fun t78=>?_) (fun t78=>?_) (st1:=(14,0));cases t78;refine gs (ci (.tmp rfl) rfl (xj _ _ _).symm (.tmp rfl) T54 rfl T62 rfl rfl (by dsimp only;simp only[length_cons,length_nil];omega) rfl rfl) ?_ (16,0);refine gW (Wk.of (sl:=[(1,some (.lst 14 (hs.map Hd.av))),(2,some (.ptr 2 0)),(6,some (.ms 86 3 0 (i+1))),(15,some (.lst 2 (m.ps.map cS))),(16,some (i64 m.ps.length)),(17,some (i64 i))]) (hp:=[(2,some (.box [.lst 1 (m.ts.map nA),.lst 2 (m.ps.map cS)])),(86,some (.row 3 (hO m hs (i+1))))]) aW (.k (.cons rfl (BlkSub.of (by rw[Py];unfold jX;rw[hx9])) .nil))) ?_ (16,0);refine gW (Wk.rk (k:=86) (d:=900) rfl rfl) ?_;refine ga aF ?_;exact aH J1 (i+1) hin
 have hin:=aZ hi t18;subst hin;refine gW ((Wk.freeze (k:=900) rfl).trans<|Wk.of (sl:=[(6,some (.lst 3 (hO m hs m.ps.length)))]) (hp:=[]) (.cons rfl (Sub.of (by rw[bJ (xj _ _ _).symm])) .nil) .nil) ?_;refine bh ?_;rfl
variable{P:Program}{N:Nat}{R:Array Oper}{s:AS}{pos:String}{after:Array Edge}
def vT(P:Program)(t:TypeId):Bool:=match P.underlying t with |some (.slice _)=>true |_=>false
theorem EE{t:TypeId}(h:vT P t=true):∃e,P.underlying t=some (.slice e):=by
 unfold vT at h;split at h
 ·exact⟨_,by assumption⟩
 ·cases h
theorem G2(w:World)(t e:TypeId)(a:Option Addr)(l c:Nat)(h:P.underlying t=some (.slice e)):(binOp .eql t (.slice a l c) (.slice none 0 0)).run P w=.ok (.bool a.isNone) w:=by
 simp only[binOp];simp[run_equal_slice_nil w t e a l c h]
theorem HD{d:Nat}{x:Operand}{sz:Nat}{e:AV}{es:List AV}{S T t:TypeId}(hx:Ev s x (.lst sz (e::es)))(hS:vT P S=true)(hN:Nat.blt d N=true) :
  Step P N R s ⟨some d,.binOp .eql S x (.const (.slice none 0 0)) T,t,pos,after,none⟩ ⟨some (.v (.bool false)),[],am x,[]⟩ :=
 cR rfl rfl hN fun s' hag C m ac w hr=>⟨.bool false,by
  have h:=(hx.agree hag (fun _ h=>h)).rep hr;obtain⟨el,hel⟩:=EE hS;generalize hu:ac.eval x=y at h
  have hy:∃b l cap,y=.slice (some b) l cap:=by
   cases h with
   |lst u hb hc hl hs h1 hu hrr=>exact⟨_,_,_,rfl⟩
  obtain⟨b,l,cap,rfl⟩:=hy;have e1:ac.eval (.const (.slice none 0 0))=.slice none 0 0:=rfl;simp[execOp,hu,e1,eqGuard,G2 w S el (some b) l cap hel],.v _⟩
theorem Hn{d:Nat}{x:Operand}{a:Option Addr}{l cap:Nat}{S T t:TypeId}(hx:Ev s x (.v (.slice a l cap)))(hS:vT P S=true)(hN:Nat.blt d N=true) :
  Step P N R s ⟨some d,.binOp .eql S x (.const (.slice none 0 0)) T,t,pos,after,none⟩ ⟨some (.v (.bool a.isNone)),[],am x,[]⟩ :=
 cR rfl rfl hN fun s' hag C m ac w hr=>⟨.bool a.isNone,by
  have h:=(hx.agree hag (fun _ h=>h)).rep hr;obtain⟨el,hel⟩:=EE hS;generalize hu:ac.eval x=y at h;cases h;have e1:ac.eval (.const (.slice none 0 0))=.slice none 0 0:=rfl;simp[execOp,hu,e1,eqGuard,G2 w S el a l cap hel],.v _⟩
end Go.Lw
namespace Go.Lw
theorem Con.rekeyB1{P:Program}{f:FuncId}{k off:Nat}{x x':Blk}{y0:AV}{xs:List AV}{r:AV}(d:Nat)(hx:x.nm=[])(hx':x'.nm=[])(hy0:y0.nm=[])(hxs:(xs.all fun x=>x.nm.isEmpty)=true)(hr:r.nm=[])
  (h:Con P f (y0 :: .ptr k off::xs) [(k,some x)] r [(k,some x')]):Con P f (y0 :: .ptr d off::xs) [(d,some x)] r [(d,some x')]:=by
 refine⟨h.ok,?_⟩;intro ext m w vs hext hheap hvs hrep
 have h1 := h.ret ext (fun _ => m d) w vs hext (uq (k := d) hx rfl hheap) (by simpa using hvs) (by
  intro j v y hv hy;rw[jH (d:=k) (k:=d) (y:=x) (x:=x) (m2:=fun _=>m d) (m:=m) rfl]
  match j,hy with
  |0,hy =>
   cases hy;exact gX hy0 (hrep 0 v _ hv rfl)
  |1,hy =>
   cases hy;have h2:=hrep 1 v _ hv rfl;cases h2 with
   |ptr hm=>exact .ptr hm
  |j+2,hy =>
   have h2:=hrep (j+2) v y hv hy;refine gX ?_ h2;have:=List.all_eq_true.1 hxs y (mem_of_getElem? hy);simpa using this)
 refine Calls.mono h1 ?_;rintro e w' ⟨v,m',rfl,hf,hh,hn,hk,hrr⟩
 have ho:aU [(k,some x)] (fun _=>m d)=aU [(d,some x)] m:=by
  funext b;apply propext;rw[jG,jG]
 refine⟨v,fun _=>m' k,rfl,ho▸hf,uq (k:=k) hx' rfl hh,?_,?_,?_⟩
 ·intro k' x b hx hb;rw[<- ho];exact hn k _ b (by rw[aJ,if_pos rfl]) hb
 ·intro k' x y hx hy;obtain⟨rfl,_⟩:=fc hx;exact hk k _ _ (by rw[aJ,if_pos rfl]) (by rw[aJ,if_pos rfl])
 ·rw[jH (d:=d) (k:=k) (y:=x') (x:=x') (m2:=fun _=>m' k) (m:=m') rfl];exact gX hr hrr
open Go.Proofs
theorem o7{p q:Rat×Rat}(hp:Sm 1000 p)(hq:Sm 1000 q):Qz 310000 (bO p q) 3:=rD (Js hp hq) oz
structure MtOk(ts:LL)(m:Mt):Prop where
  tw:∃r,Tw m.ts r/\kB r m.ts.length<=1101400000
  two:m.ts.length<=2
  ln:m.ps.length<=2
  ps:∀x∈m.ps,Nm m.ts.length 15500000000 x.1/\Nm m.ts.length 15500000000 x.2
  up:∀(e:Nat)(y:Et ts),Nm ts.length e (sX y)->Nm m.ts.length e (sX y)/\sX (dE m.ts (sX y))=sX y
theorem wJ{ts:LL}(e:Nat)(y:Et ts)(h:Nm ts.length e (sX y)):Nm ts.length e (sX y)/\sX (dE ts (sX y))=sX y:=⟨h,congrArg (sh ts.length) (a7 _ _)⟩
theorem vK{ts:LL}{X:Et ts}(hn:ts.length<=1)(e:Nat)(y:Et ts)(h:Nm ts.length e (sX y)):Nm (aG ts (sX X)).length e (sX y)/\sX (dE (aG ts (sX X)) (sX y))=sX y:=by
 refine⟨lF h oz,?_⟩;show sh (aG ts (sX X)).length (ae (aG ts (sX X)).length (sX y))=sX y;rw[dm,gN h.nl.le];show(if T.isZ ts.length (T.zero ts.length)=true then sh ts.length (ae ts.length (sX y))else _)=_;rw[if_pos ((T.isZ_iff _ _).2 rfl)];exact congrArg (sh ts.length) (a7 _ _)
theorem om{ts:LL}{ps:List (List Rat×List Rat)}(tw:Tw ts 64990)(hn:ts.length<=1)(hl:ps.length<=2)(hp:∀x∈ps,Nm ts.length 15500000000 x.1/\Nm ts.length 15500000000 x.2):MtOk ts ⟨ts,ps⟩ :=
 ⟨⟨64990,tw,by have:=xc hn;show kB 64990 ts.length<=_;omega⟩,by show ts.length<=2;omega,hl,hp,wJ⟩
theorem F6{ts:LL}{X:Et ts}{ps:List (List Rat×List Rat)}(E:ExtP X)(hn:ts.length<=1)(hl:ps.length<=2)(hp:∀x∈ps,Nm (aG ts (sX X)).length 15500000000 x.1/\Nm (aG ts (sX X)).length 15500000000 x.2):MtOk ts ⟨aG ts (sX X),ps⟩ :=
 ⟨⟨366909990,E.tw,by
  have h:=gT 366909990 (show ts.length+1<=2 by omega);have h2:eB 366909990 2=1100729976:=by decide
  show eB 366909990 (aG ts (sX X)).length<=_;rw[dm];omega⟩,by show(aG ts (sX X)).length<=2;rw[dm];omega,hl,hp,vK hn⟩
theorem pq{ts:LL}{m:Mt}(ok:MtOk ts m){x:List Rat×List Rat}(hx:x∈m.ps){p c:Rat×Rat}{o:P2 ts}(a1:Nm ts.length 773000000 (sX o.1))(a2:Nm ts.length 773000000 (sX o.2))(hp:Sm 1000 p)(hc:Sm 1000 c)
  (h0:bQ (bW c p) (bW c p)≠0):HdP m.ts x ⟨p,o.l,c⟩:=by
 obtain⟨r,tw,hk⟩:=ok.tw;obtain⟨n1,n2⟩:=ok.ps x hx;obtain⟨b1,e1⟩:=ok.up _ _ a1;obtain⟨b2,e2⟩:=ok.up _ _ a2;have hl:lm m.ts.length=200000000000:=by unfold lm;rw[if_pos ok.two]
 refine⟨hp,hc,nv tw n1 b1 (by rw[hl];omega),nv tw n2 b2 (by rw[hl];omega),e1,e2,FD tw ok.two hk ((hc.sub hp).mono oz) (hp.mono oz) h0 ((n1.sub b1).mono oz) ((n2.sub b2).mono oz) ?_ ?_⟩
 ·show Nm m.ts.length 773000000 (sX (dE m.ts (sX o.1)));rw[e1];exact b1
 ·show Nm m.ts.length 773000000 (sX (dE m.ts (sX o.2)));rw[e2];exact b2
theorem ke{α:Type}{P:α->Prop}{x y:α}(hx:P x)(hy:P y):∀z∈[x,y],P z:=by
 intro z hz;rcases List.mem_cons.1 hz with rfl |hz
 ·exact hx
 ·rw[List.mem_singleton.1 hz];exact hy
theorem gU{α:Type}{P:α->Prop}{x:α}(hx:P x):∀z∈[x],P z:=by
 intro z hz;rw[List.mem_singleton.1 hz];exact hx
theorem Eh{ts:LL}{x y z x2 y2 z2:Et ts}(tw:Tw ts 64990)(hn:ts.length<=1)(c:Ct ts 310000 65000)(h1:Zu 310000 65000 x 40 40)(h2:Zu 310000 65000 y 40 40)(h3:Zu 310000 65000 z 3 0)(h4:Zu 310000 65000 x2 40 40)(h5:Zu 310000 65000 y2 40 40)(h6:Zu 310000 65000 z2 3 0)
  (h0:fu (x,y) (x2,y2) z z2=0):MtOk ts (eJ (x,y) (x2,y2) z z2):=by
 have P:=BT c h1 h2 h3 h4 h5 h6;have ce:=c.ex;have ck:=c.k1;have cu:=c.u3;haveI cy:Cy ts 310000 65000:=⟨ce,ck,cu,by omega⟩
 unfold fu at h0;unfold eJ
 by_cases hd:ak (aD (x,y) (x2,y2))=0
 ·rw[if_pos hd]at h0 ⊢;unfold lg at h0;unfold lB
  by_cases hz:ak (z-z2)≠0
  ·rw[if_pos hz];exact om tw hn (by simp) (by simp)
  ·rw[if_neg hz]
   by_cases hp:0<ak z
   ·rw[if_pos ⟨Decidable.not_not.1 hz,hp⟩]at h0;cases h0
   ·rw[if_neg hp];haveI:=h1;haveI:=h2
    refine om tw hn (by simp) (gU ⟨?_,?_⟩)
    ·exact(inferInstance:Zu 310000 65000 (x+0*x) _ _).nm.mono (by decide)
    ·exact(inferInstance:Zu 310000 65000 (y+0*y) _ _).nm.mono (by decide)
 ·rw [if_neg hd];have ht0:ak (dP (aD (x,y) (x2,y2))) ≠ 0:=by rw [uB tw]; exact hd
  by_cases hx0:ak (bu (x,y) z (x2,y2) z2)<0
  ·rw[if_pos hx0];exact om tw hn (by simp) (by simp)
  ·rw[if_neg hx0];obtain⟨_,_,f1,f2⟩:=HQ hn h1 h2 h3 h6 P ht0
   by_cases hx1:ak (bu (x,y) z (x2,y2) z2)=0
   ·rw[if_pos hx1];exact om tw hn (by simp) (gU ⟨f1.nm.mono (by decide),f2.nm.mono (by decide)⟩)
   ·rw[if_neg hx1];have E:ExtP (bu (x,y) z (x2,y2) z2):=s6 tw hn P.zX oz;have S:=GD (X:=bu (x,y) z (x2,y2) z2) (d:=aD (x,y) (x2,y2)) (f:=eF (x,y) (x2,y2) z z2) (v:=fw (x,y) (x2,y2)) hn E P.zt ht0 f1 f2 P.z1 P.z2;exact F6 E hn (by simp) (ke ⟨S.n1.1.nm.mono (by decide),S.n1.2.nm.mono (by decide)⟩ ⟨S.n2.1.nm.mono (by decide),S.n2.2.nm.mono (by decide)⟩)
theorem GC{ts:LL}{o p q:P2 ts}{z:Et ts}(tw:Tw ts 64990)(hn:ts.length<=1)(c:Ct ts 310000 65000)(o1:Zu 310000 65000 o.1 40 40)(o2:Zu 310000 65000 o.2 40 40)(p1:Zu 310000 65000 p.1 40 40)(p2:Zu 310000 65000 p.2 40 40)(q1:Zu 310000 65000 q.1 40 40)(q2:Zu 310000 65000 q.2 40 40)
  (i3:Zu 310000 65000 z 3 0) (h0:fF p q=0):MtOk ts (eG p q o z):=by
 have ce:=c.ex;have ck:=c.k1;have cu:=c.u3;haveI cy:Cy ts 310000 65000:=⟨ce,ck,cu,by omega⟩
 have P:=Ch cy p1 p2 q1 q2 o1 o2 i3;unfold fF at h0;unfold eG
 by_cases hs:ak (bp p q)=0
 ·rw[if_pos hs]at h0;cases h0
 ·rw[if_neg hs]
  by_cases h1:ak (aT p q o z)=-1
  ·rw[if_pos h1];exact om tw hn (by simp) (by simp)
  ·rw[if_neg h1]
   by_cases h2:ak (aT p q o z)=0
   ·rw[if_pos h2];have Q:=Dp cy hn p1 p2 P hs;exact om tw hn (by simp) (gU ⟨Q.n1.nm.mono (by decide),Q.n2.nm.mono (by decide)⟩)
   ·rw[if_neg h2]
    have hpos:0<=ak (aT p q o z):=by
     have:=T.sgn_cases (au ts) ts.length (aT p q o z);have e:ak (aT p q o z)=T.sgn (au ts) ts.length (aT p q o z):=rfl;omega
    have E:ExtP (aT p q o z):=s6 tw hn (AX P.zX oz oz) hpos;haveI ce:=E.cy;haveI zr:Zl (aG ts (sX (aT p q o z))) 773000000 1101400000 (bY ts.length) (dE _ (bY ts.length)) 1 0:=Zl.at (qW oz) (by decide);haveI ze':=jg (X:=aT p q o z) hn P.ze (by decide);haveI:=zr.zu;haveI:=ze'.zu
    have S1:=wd (p:=p) (v:=br q p) hn E P.zs hs p1 p2 P.v1 P.v2 (k:=aK (aT p q o z) (bN p q o)+bn (aT p q o z)) inferInstance;have S2:=wd (p:=p) (v:=br q p) hn E P.zs hs p1 p2 P.v1 P.v2 (k:=aK (aT p q o z) (bN p q o)-bn (aT p q o z)) inferInstance;exact F6 E hn (by simp) (ke ⟨S1.n1.nm.mono (by decide),S1.n2.nm.mono (by decide)⟩ ⟨S2.n1.nm.mono (by decide),S2.n2.nm.mono (by decide)⟩)
abbrev oG(r:List AV×Nat):AV:=.tup [.lst 3 r.1,bg r.2]
def ma(l:Li)(a:As)(i k:Int)(j0 j1 j2:Jt):List AV×Nat :=
  if fP [bW (aj l j2 i) (aj l j0 i),bW (aj l j2 k) (aj l j1 k)]=true then([],15)
  else if fu (aM l a j0 i) (aM l a j1 k) (qE (bO (aj l j2 i) (aj l j0 i))) (qE (bO (aj l j2 k) (aj l j1 k)))≠0 then([],fu (aM l a j0 i) (aM l a j1 k) (qE (bO (aj l j2 i) (aj l j0 i))) (qE (bO (aj l j2 k) (aj l j1 k))))
  else(hO (eJ (aM l a j0 i) (aM l a j1 k) (qE (bO (aj l j2 i) (aj l j0 i))) (qE (bO (aj l j2 k) (aj l j1 k)))) [⟨aj l j0 i,P2.l (aM l a j0 i),aj l j2 i⟩,⟨aj l j1 k,P2.l (aM l a j1 k),aj l j2 k⟩]
    (eJ (aM l a j0 i) (aM l a j1 k) (qE (bO (aj l j2 i) (aj l j0 i))) (qE (bO (aj l j2 k) (aj l j1 k)))).ps.length,0)
theorem S4{l:Li}{a:As}(D:DyR l a)(hn:(llq a.rs).length<=1){i k z0 z1 z2:Int}{j0 j1 j2:Jt}(hg:GrOk l ⟨1,[i,k],[z0,z1,z2],0⟩)(P:RrrP 3900000 l a ⟨1,[i,k],[z0,z1,z2],0⟩ i k z0 z1 z2 j0 j1 j2) :
  Con prog 65 [.ptr 1000 0] [(1000,some (b8 l ⟨1,[i,k],[z0,z1,z2],0⟩ a))] (oG (ma l a i k j0 j1 j2)) [(1000,some (b8 l ⟨1,[i,k],[z0,z1,z2],0⟩ a))]:=by
 haveI c:=D.s.ct D.hc;obtain⟨tw,etw⟩:=db D.s.tr D.hc;have hq0:=gG D.hl D.li P.h0 P.p0.or;have hq1:=gG D.hl D.li P.h1 P.p1.or;have hq2:=gG D.hl D.li P.h2 P.t1;have hq3:=gG D.hl D.li P.h2 P.t2;obtain⟨y1,y2⟩:=lM D.hl D.li D.al D.s D.hc P.h0 P.p0;obtain⟨y3,y4⟩:=lM D.hl D.li D.al D.s D.hc P.h1 P.p1;haveI:=y1;haveI:=y2;haveI:=y3;haveI:=y4
 haveI q1:=o7 hq2 hq0;haveI q2:=o7 hq3 hq1;haveI z1:Zu 310000 65000 (qE (bO (aj l j2 i) (aj l j0 i)):Et (llq a.rs)) 3 0:=inferInstance;haveI z2:Zu 310000 65000 (qE (bO (aj l j2 k) (aj l j1 k)):Et (llq a.rs)) 3 0:=inferInstance;have hr:=QF (a:=sX (aM l a j0 i).1) (b:=sX (aM l a j0 i).2) (c:=sh 0 (bO (aj l j2 i) (aj l j0 i):Rat)) (a2:=sX (aM l a j1 k).1) (b2:=sX (aM l a j1 k).2) (c2:=sh 0 (bO (aj l j2 k) (aj l j1 k):Rat)) D.s.tr D.hc hn rfl rfl (xB _ _) (xB _ _);have hzz:=Hu [bW (aj l j2 i) (aj l j0 i),bW (aj l j2 k) (aj l j1 k)] (by show 2<=_;omega) (ke ((hq2.sub hq0).mono oz) ((hq3.sub hq1).mono oz));refine gF func65 (fun k z h=>bj h) ?_;refine gt (aQ (ML D.hl D.li D.al D.hc D.two hg P.h0 P.h1 P.h2 P.p0 P.p1 P.t1 P.t2) (cq rfl) rfl rfl rfl) ?_;refine gC (fun t13=>?_) (fun t13=>?_) (st1:=(3,0));cases t13;refine gc (nI hq2 hq0 oz oz) ?_;refine gc (nI hq3 hq1 oz oz) ?_;refine gc hzz ?_;refine gD ?_;refine gC (fun t23=>?_) (fun t23=>?_)
 ·have h1:fP [bW (aj l j2 i) (aj l j0 i),bW (aj l j2 k) (aj l j1 k)]=true:=t23;refine gR ?_;exact(aq.keep (a6 rfl)).sub (by unfold ma;rw[if_pos h1];exact Sub.tup (.cons (.nil _ _ _) (.cons (.refl _) .nil)))
 have h1:fP [bW (aj l j2 i) (aj l j0 i),bW (aj l j2 k) (aj l j1 k)]=false:=t23;obtain⟨w1,w2⟩:=tY h1;refine gc (zD hq0 hq2 _) ?_;refine gc (zD hq1 hq3 _) ?_;refine gc hr ?_;refine gD ?_;refine gC (fun t51=>?_) (fun t51=>?_)
 ·have h2:=cE t51;refine gR ?_;exact(aq.keep (a6 rfl)).sub (by unfold ma;rw[if_neg (by rw[h1];decide),if_pos h2];exact Sub.tup (.cons (.nil _ _ _) (.cons (.refl _) .nil)))
 have h2:=cC t51;have ok:=Eh (x:=(aM l a j0 i).1) (y:=(aM l a j0 i).2) (x2:=(aM l a j1 k).1) (y2:=(aM l a j1 k).2) tw hn c y1 y2 z1 y3 y4 z2 h2;obtain⟨r9,tw9,_⟩:=ok.tw
 have hpl:=DT tw9 [⟨aj l j0 i,P2.l (aM l a j0 i),aj l j2 i⟩,⟨aj l j1 k,P2.l (aM l a j1 k),aj l j2 k⟩] (le_refl 2) ok.ln
  (fun x hx=>ke (pq ok hx (y1.nm.mono (by decide)) (y2.nm.mono (by decide)) hq0 hq2 w1) (pq ok hx (y3.nm.mono (by decide)) (y4.nm.mono (by decide)) hq1 hq3 w2))
 refine gc hpl ?_;refine gR ?_;exact(aq.keep (a6 rfl)).sub (Sub.of (by unfold ma;rw[if_neg (by rw[h1];decide),if_neg (fun h=>h h2)];rfl))
def mw(l:Li)(a:As)(i:Int)(j0 j:Jt):List AV×Nat :=
  if fP [bW (aX l i j.point) (aj l j0 i)]=true then([],15)
  else if fF (bC l a j.b j.on) (bC l a j.b j.to)≠0 then([],fF (bC l a j.b j.on) (bC l a j.b j.to))
  else(hO (eG (bC l a j.b j.on) (bC l a j.b j.to) (aM l a j0 i) (qE (bO (aX l i j.point) (aj l j0 i)))) [⟨aj l j0 i,P2.l (aM l a j0 i),aX l i j.point⟩]
    (eG (bC l a j.b j.on) (bC l a j.b j.to) (aM l a j0 i) (qE (bO (aX l i j.point) (aj l j0 i)))).ps.length,0)
theorem Q0{l:Li}{a:As}(D:DyR l a)(hn:(llq a.rs).length<=1){i z0 z1:Int}{j0 j:Jt}(hg:GrOk l ⟨2,[i],[z0,z1],0⟩)(P:SlP 3900000 l a ⟨2,[i],[z0,z1],0⟩ 2 i z0 z1 j0 j)(ha:j.a=i)(hb:Pd 3900000 a j.b) :
  Con prog 66 [.ptr 1000 0] [(1000,some (b8 l ⟨2,[i],[z0,z1],0⟩ a))] (oG (mw l a i j0 j)) [(1000,some (b8 l ⟨2,[i],[z0,z1],0⟩ a))]:=by
 haveI c:=D.s.ct D.hc;obtain⟨tw,etw⟩:=db D.s.tr D.hc;obtain⟨i1,i2,i3,i4,i5⟩:=dx D.li P.h1;have hq2:Sm 1000 (aX l i j.point):=by rw[<- ha];exact kR D.hl D.li i1 i3
 have hq0:=gG D.hl D.li P.h0 P.p0.or;obtain⟨y1,y2⟩:=lM D.hl D.li D.al D.s D.hc P.h0 P.p0;obtain⟨y3,y4⟩:=lX D.hl D.li D.al D.s D.hc i2 i4 hb;obtain⟨y5,y6⟩:=lX D.hl D.li D.al D.s D.hc i2 (i5 P.hk) hb;haveI q1:=o7 hq2 hq0;haveI z1:Zu 310000 65000 (qE (bO (aX l i j.point) (aj l j0 i)):Et (llq a.rs)) 3 0:=inferInstance;have hr:=SY (o:=aM l a j0 i) (p:=bC l a j.b j.on) (q:=bC l a j.b j.to) (c:=sh 0 (bO (aX l i j.point) (aj l j0 i):Rat)) D.s.tr D.hc hn c y1 y2 y3 y4 y5 y6 (xB _ _);have hzz:=Hu [bW (aX l i j.point) (aj l j0 i)] (by show 1<=_;omega) (gU ((hq2.sub hq0).mono oz));refine gF func66 (fun k z h=>bj h) ?_;refine gt (aQ (Mj D.hl D.li D.al D.hc D.two hg P.h0 P.h1 P.p0 ha P.hk hb) (cq rfl) rfl rfl rfl) ?_;refine gC (fun t15=>?_) (fun t15=>?_) (st1:=(3,0));cases t15;refine gc (nI hq2 hq0 oz oz) ?_;refine gc hzz ?_;refine gC (fun t25=>?_) (fun t25=>?_)
 ·have h1:fP [bW (aX l i j.point) (aj l j0 i)]=true:=t25;refine gR ?_;exact(aq.keep (a6 rfl)).sub (by unfold mw;rw[if_pos h1];exact Sub.tup (.cons (.nil _ _ _) (.cons (.refl _) .nil)))
 have h1:fP [bW (aX l i j.point) (aj l j0 i)]=false:=t25;have w1:=wa h1;refine gc (zD hq0 hq2 _) ?_;refine gc hr ?_;refine gD ?_;refine gC (fun t48=>?_) (fun t48=>?_)
 ·have h2:=cE t48;refine gR ?_;exact(aq.keep (a6 rfl)).sub (by unfold mw;rw[if_neg (by rw[h1];decide),if_pos h2];exact Sub.tup (.cons (.nil _ _ _) (.cons (.refl _) .nil)))
 have h2:=cC t48;have ok:=GC (o:=aM l a j0 i) (p:=bC l a j.b j.on) (q:=bC l a j.b j.to) (z:=qE (bO (aX l i j.point) (aj l j0 i))) tw hn c y1 y2 y3 y4 y5 y6 z1 h2;obtain⟨r9,tw9,_⟩:=ok.tw;have hpl:=DT tw9 [⟨aj l j0 i,P2.l (aM l a j0 i),aX l i j.point⟩] (show 1<=2 by omega) ok.ln (fun x hx=>gU (pq ok hx (y1.nm.mono (by decide)) (y2.nm.mono (by decide)) hq0 hq2 w1));refine gc hpl ?_;refine gR ?_;exact(aq.keep (a6 rfl)).sub (Sub.of (by unfold mw;rw[if_neg (by rw[h1];decide),if_neg (fun h=>h h2)];rfl))
theorem Em{ts:LL}{r e:Nat}(tw:Tw ts r){a b c:List Rat}(ha:Nm ts.length e a)(hb:Nm ts.length e b)(hc:Nm ts.length e c)(he:2*(e+e+kB r ts.length)<=lm ts.length) :
  FP 162 [aO ts,nA a,aI b c] (.tup [aI (sh ts.length (T.mul (au ts) ts.length (ae ts.length a) (ae ts.length b))) (sh ts.length (T.mul (au ts) ts.length (ae ts.length a) (ae ts.length c))),.v .nilIface]):=by
 refine ai func162 ?_;refine gc (vJ (e:=e) tw [a,b,c] (by simp only[mem_cons,not_mem_nil,or_false];rintro x (rfl |rfl |rfl) <;> assumption) oz (by simp)) ?_;refine gC (fun t19=>?_) (fun t19=>?_) (st1:=(3,0));cases t19;refine gt (az (Con.rB 24 rfl rfl rfl rfl (kJ tw ha hb oz)) (aE rfl rfl rfl) aB rfl rfl) ?_;refine gt (az (Con.rB 24 rfl rfl rfl rfl (kJ tw ha hc oz)) (aE rfl rfl rfl) aB rfl rfl) ?_;refine gt (az (Con.rB 24 rfl rfl rfl rfl (u4 _ _ _)) (bm rfl rfl) aB rfl rfl) ?_;refine gD ?_;refine bh ?_;rfl
section
variable{ts:LL}
def rj(q w1 w2 h:Et ts):Et ts:=q*w1-h*-w2
def sj(q w1 w2 h:Et ts):Et ts:=q*w2-h*w1
def m9(ts:LL)(q h d:List Rat)(w:List Rat×List Rat):P2 ts:=(rj (dE ts q) (dE ts w.1) (dE ts w.2) (dE ts h)*iE (dE ts d),sj (dE ts q) (dE ts w.1) (dE ts w.2) (dE ts h)*iE (dE ts d))
structure Rp where
  v:Rat×Rat
  p:Rat×Rat
  a:List Rat×List Rat
  h:List Rat
  d:List Rat
  w:List Rat×List Rat
def oy(ts:LL)(R:Rp)(q:List Rat):Pq:=gB R.v (m9 ts q R.h R.d R.w) R.p (dE ts R.a.1,dE ts R.a.2)
structure RqP(ts:LL)(R:Rp)(q:List Rat):Prop where
  sm:Sm 3000 R.v
  sp:Sm 3000 R.p
  c1:FP 162 [aO ts,nA q,aI R.w.1 R.w.2] (.tup [aI (sX (dE ts q*dE ts R.w.1)) (sX (dE ts q*dE ts R.w.2)),.v .nilIface])
  ng:FP 147 [aO ts,nA R.w.2] (.tup [nA (sX (-dE ts R.w.2)),.v .nilIface])
  c2:FP 162 [aO ts,nA R.h,aI (sX (-dE ts R.w.2)) R.w.1] (.tup [aI (sX (dE ts R.h*-dE ts R.w.2)) (sX (dE ts R.h*dE ts R.w.1)),.v .nilIface])
  sb:FP 76 [aO ts,aI (sX (dE ts q*dE ts R.w.1)) (sX (dE ts q*dE ts R.w.2)),aI (sX (dE ts R.h*-dE ts R.w.2)) (sX (dE ts R.h*dE ts R.w.1))] (.tup [aI (sX (rj (dE ts q) (dE ts R.w.1) (dE ts R.w.2) (dE ts R.h))) (sX (sj (dE ts q) (dE ts R.w.1) (dE ts R.w.2) (dE ts R.h))),.v .nilIface])
  d1:FP 281 [aO ts,nA (sX (rj (dE ts q) (dE ts R.w.1) (dE ts R.w.2) (dE ts R.h))),nA R.d] (.tup [nA (sX (m9 ts q R.h R.d R.w).1),.v .nilIface])
  d2:FP 281 [aO ts,nA (sX (sj (dE ts q) (dE ts R.w.1) (dE ts R.w.2) (dE ts R.h))),nA R.d] (.tup [nA (sX (m9 ts q R.h R.d R.w).2),.v .nilIface])
  e1:sX (dE ts R.a.1)=R.a.1
  e2:sX (dE ts R.a.2)=R.a.2
  b:BdP ts R.v (m9 ts q R.h R.d R.w) R.p (dE ts R.a.1,dE ts R.a.2)
theorem RqP.body{R:Rp}{q:List Rat}(H:RqP ts R q) :
  Con prog 152 [.ptr 1000 0,qP R.v,cS (m9 ts q R.h R.d R.w).l,qP R.p,aI R.a.1 R.a.2] [(1000,some (aY ts))] (oy ts R q).av [(1000,some (aY ts))]:=by
 have hb:=Ab H.sm H.sp H.b
 have e:cS (P2.l ((dE ts R.a.1,dE ts R.a.2):P2 ts))=aI R.a.1 R.a.2:=by
  show aI (sX (dE ts R.a.1)) (sX (dE ts R.a.2))=_;rw[H.e1,H.e2]
 rw[e]at hb;exact hb
theorem Cc{R:Rp}{q:List Rat}{j:Nat}(cy:Cy ts 773000000 1101400000)(sm:Sm 3000 R.v)(sp:Sm 3000 R.p)(h0:bQ R.v R.v≠0)(nq:Nm ts.length 773000000 q)(nh:Nm ts.length 773000000 R.h)(nd:Nm ts.length 773000000 R.d)
  (n1:Nm ts.length 773000000 R.w.1) (n2:Nm ts.length 773000000 R.w.2) (a1:Nm ts.length 773000000 R.a.1) (a2:Nm ts.length 773000000 R.a.2) (e1:sX (dE ts R.a.1)=R.a.1) (e2:sX (dE ts R.a.2)=R.a.2)
  (nj:Nl j R.d) (hj:j<=ts.length) (hj1:j<=1) (hd:ak (dE ts R.d)≠0):RqP ts R q:=by
 obtain⟨r,tw,hk⟩:=cy.ex;have hl:=cy.lm;haveI:=cy;haveI zq:Zl ts 773000000 1101400000 q (dE ts q) 1 0:=Zl.at nq (le_refl _);haveI zh:Zl ts 773000000 1101400000 R.h (dE ts R.h) 1 0:=Zl.at nh (le_refl _);haveI zd:Zl ts 773000000 1101400000 R.d (dE ts R.d) 1 0:=Zl.at nd (le_refl _);haveI z1:Zl ts 773000000 1101400000 R.w.1 (dE ts R.w.1) 1 0:=Zl.at n1 (le_refl _);haveI z2:Zl ts 773000000 1101400000 R.w.2 (dE ts R.w.2) 1 0:=Zl.at n2 (le_refl _);haveI:=zq.zu;haveI:=zh.zu;haveI:=z1.zu;haveI:=z2.zu
 haveI zn:Zu 773000000 1101400000 (-dE ts R.w.2) 1 0:=inferInstance;haveI y1:Zu 773000000 1101400000 (dE ts q*dE ts R.w.1) 2 1:=inferInstance;haveI y2:Zu 773000000 1101400000 (dE ts q*dE ts R.w.2) 2 1:=inferInstance;haveI y3:Zu 773000000 1101400000 (dE ts R.h*-dE ts R.w.2) 2 1:=inferInstance;haveI y4:Zu 773000000 1101400000 (dE ts R.h*dE ts R.w.1) 2 1:=inferInstance;haveI x1:Zu 773000000 1101400000 (rj (dE ts q) (dE ts R.w.1) (dE ts R.w.2) (dE ts R.h)) 4 3:=(inferInstance:Zu 773000000 1101400000 (dE ts q*dE ts R.w.1-dE ts R.h*-dE ts R.w.2) 4 3)
 haveI x2:Zu 773000000 1101400000 (sj (dE ts q) (dE ts R.w.1) (dE ts R.w.2) (dE ts R.h)) 4 3:=(inferInstance:Zu 773000000 1101400000 (dE ts q*dE ts R.w.2-dE ts R.h*dE ts R.w.1) 4 3)
 have ew:∀x:Et ts,ae ts.length (sX x)=x:=fun x=>a7 _ _
 have hkB:kB r ts.length<=1101400000:=hk;have c1:=Em tw nq n1 n2 (by rw[hl];omega);have ng:=F9 (ts:=ts) (u:=773000000) (k:=1101400000) (a:=R.w.2) (by decide);have nn:Nm ts.length 773000000 (sX (-dE ts R.w.2)):=zn.nm.mono (by decide);have c2:=Em tw nh nn n1 (by rw[hl];omega);rw[ew]at c2;have sb:=HP (a:=sX (dE ts q*dE ts R.w.1)) (b:=sX (dE ts q*dE ts R.w.2)) (c:=sX (dE ts R.h*-dE ts R.w.2)) (d:=sX (dE ts R.h*dE ts R.w.1)) tw y1.nm y2.nm y3.nm y4.nm (by rw[hl];decide);rw[ew,ew,ew,ew]at sb;have d1:=o8 (ts:=ts) (u:=773000000) (k:=1101400000) (a:=sX (rj (dE ts q) (dE ts R.w.1) (dE ts R.w.2) (dE ts R.h))) (b:=R.d) nj hj hj1 hd (by decide);have d2:=o8 (ts:=ts) (u:=773000000) (k:=1101400000) (a:=sX (sj (dE ts q) (dE ts R.w.1) (dE ts R.w.2) (dE ts R.h))) (b:=R.d) nj hj hj1 hd (by decide);exact⟨sm,sp,c1,ng,c2,sb,d1.1,d2.1,e1,e2,FD tw cy.two hkB sm sp h0 (d1.2.nm.mono (by decide)) (d2.2.nm.mono (by decide)) (by show Nm ts.length 773000000 (sX (dE ts R.a.1));rw[e1];exact a1) (by show Nm ts.length 773000000 (sX (dE ts R.a.2));rw[e2];exact a2)⟩
end
def jk(ts:LL)(R:Rp)(qs:LL)(i:Nat):Sv:=⟨ts,[oy ts R (qs.getD i [])],if qs.length=1 then 0 else 1-2*(i:Int)⟩
def jK(ts:LL)(R:Rp)(qs:LL)(n:Nat):List AV:=(List.range n).map fun i=>(jk ts R qs i).av
theorem yw(ts:LL)(R:Rp)(qs:LL)(n:Nat):(jK ts R qs n).length=n:=by simp[jK]
theorem LY(ts:LL)(R:Rp)(qs:LL)(n:Nat):jK ts R qs (n+1)=jK ts R qs n++[(jk ts R qs n).av]:=by unfold jK;rw[List.range_succ];simp
def dS(l:Li)(a:As)(i:Int)(j0 j:Jt):Rp:=⟨cW l i j,aj l j0 i,P2.l (aM l a j0 i),sh 0 (cG l i j0 j:Rat),sX (cA l a i j0 j),P2.l (co l a i j0 j)⟩
def a9(l:Li)(a:As)(i:Int)(j0 j:Jt):Et (llq a.rs):=qE (ji l i j)*cA l a i j0 j-qE (cG l i j0 j)*qE (cG l i j0 j)
def ky(l:Li)(a:As)(i:Int)(j0 j:Jt):List AV×Nat :=
  if ak (cA l a i j0 j)=0/\ak (qE (cG l i j0 j):Et (llq a.rs))=0 then([],15)
  else if ak (a9 l a i j0 j)<0 then([],0)
  else if 0<ak (a9 l a i j0 j)then(jK (aG (llq a.rs) (sX (a9 l a i j0 j))) (dS l a i j0 j) [bY (llq a.rs).length,sX (-bn (a9 l a i j0 j))] 2,0)
  else(jK (llq a.rs) (dS l a i j0 j) [[]] 1,0)
theorem vM{ts:LL}{r:Nat}(tw:Tw ts r){n d h:Et ts}(hs:¬ak (n*d-h*h)<0)(h1:¬(ak d=0/\ak h=0)):ak d≠0:=by
 intro h0;have S:=gk (au ts) ts.length tw.pos
 have e1:sg (au ts) ts.length (n*d)=0:=by
  rw[S.mul];have:sg (au ts) ts.length d=0:=h0;rw[this];exact Int.mul_zero _
 have e2:=S.zadd (y:=-(h*h)) e1;rw[show n*d+-(h*h)=n*d-h*h by grind,S.neg,S.mul]at e2;have e3:ak (n*d-h*h)=sg (au ts) ts.length (n*d-h*h):=rfl;have e4:ak h=sg (au ts) ts.length h:=rfl;have h2:sg (au ts) ts.length h≠0:=fun h9=>h1 ⟨h0,by rw[e4];exact h9⟩
 rw[e3,e2]at hs;rcases S.cs h with g |g |g
 ·rw[g]at hs;exact hs (by decide)
 ·exact h2 g
 ·rw[g]at hs;exact hs (by decide)
theorem R4{p q:Rat}(h:p*p+q*q=0):p=0/\q=0:=by
 have h1:=mb p;have h2:=mb q;have h3:p*p=0:=by grind
 have h4:q*q=0:=by grind
 exact⟨by rcases Rat.mul_eq_zero.1 h3 with g |g <;> exact g,by rcases Rat.mul_eq_zero.1 h4 with g |g <;> exact g⟩
theorem xf{l:Li}(hli:ay l=0){n:Nat}{j:Jt}(hj:l.jo[n]?=some j)(hk:j.kind≠0){i:Int}(hi:j.b=i):bQ (cW l i j) (cW l i j)≠0:=by
 intro h0;obtain⟨h1,h2⟩:=R4 h0;have h3:=Gp hli hj;subst hi;have e1:(aX l j.b j.to).1-(aX l j.b j.on).1=0:=h1;have e2:(aX l j.b j.to).2-(aX l j.b j.on).2=0:=h2;have e3:((cz l j.b).getD j.on.toNat default).x.q=((cz l j.b).getD j.to.toNat default).x.q:=by unfold aX at e1;dsimp only at e1;grind
 have e4:((cz l j.b).getD j.on.toNat default).y.q=((cz l j.b).getD j.to.toNat default).y.q:=by unfold aX at e2;dsimp only at e2;grind
 unfold dO at h3;split at h3
 ·cases h3
 ·split at h3
  ·cases h3
  ·split at h3
   ·cases h3
   ·split at h3
    ·cases h3
    ·split at h3
     ·cases h3
     ·first |(rw[if_pos ⟨e3,e4⟩]at h3;cases h3) |(split at h3 <;> first |(cases h3;done) |(rename_i g;exact absurd ⟨e3,e4⟩ g))
theorem MN:Sub (.lst 1 [nS]) (.lst 1 [nA []]):=by
 refine Sub.lst rfl (fun i x y hx hy=>?_)
 match i,hx,hy with
 |0,hx,hy =>
  cases hx;cases hy
  refine⟨rfl,fun j x y hx hy=>?_⟩
  match j,hx,hy with
  |0,hx,hy=>cases hx;cases hy;exact⟨rfl,.nil _ _ _⟩
theorem Lp{x y:Int}(h:cond (aa .eql x 0) (aa .eql y 0) false=true):x=0/\y=0:=by
 cases h1:aa .eql x 0
 ·rw[h1]at h;cases h
 ·rw[h1]at h;exact⟨cM h1,cM h⟩
theorem P9{x y:Int}(h:cond (aa .eql x 0) (aa .eql y 0) false=false):¬(x=0/\y=0):=by
 rintro⟨rfl,rfl⟩;cases h
structure RpF(l:Li)(a:As)(i:Int)(j0 j:Jt):Prop where
  hv:Sm 3000 (cW l i j)
  hp:Sm 3000 (aj l j0 i)
  vv:bQ (cW l i j) (cW l i j)≠0
  zl:Zl (llq a.rs) 310000 65000 (sh 0 (cG l i j0 j:Rat)) (qE (cG l i j0 j)) 3 0
  z3:Zu 310000 65000 (cA l a i j0 j) 320 327
  zX:Zu 310000 65000 (a9 l a i j0 j) 976 989
  w1:Zu 310000 65000 (co l a i j0 j).1 80 81
  w2:Zu 310000 65000 (co l a i j0 j).2 80 81
  y1:Zu 310000 65000 (aM l a j0 i).1 40 40
  y2:Zu 310000 65000 (aM l a j0 i).2 40 40
theorem B3{l:Li}{a:As}(D:DyR l a)(hn:(llq a.rs).length<=1){g:Gr}{i z0 z1:Int}{j0 j:Jt}(P:SlP 3900000 l a g 3 i z0 z1 j0 j)(hj:j.b=i)(hb:Pd 3900000 a j.a):RpF l a i j0 j:=by
 haveI c:=D.s.ct D.hc;have ck:=c.k1;haveI cy:Cy (llq a.rs) 310000 65000:=⟨c.ex,c.k1,c.u3,by omega⟩
 have hs0:Sm 1000 (aj l j0 i):=gG D.hl D.li P.h0 P.p0.or;obtain⟨i1,i2,i3,i4,i5⟩:=dx D.li P.h1;have hs1:Sm 1000 (aX l i j.on):=by rw[<- hj];exact kR D.hl D.li i2 i4
 have hs2:Sm 1000 (aX l i j.to):=by rw[<- hj];exact kR D.hl D.li i2 (i5 P.hk)
 have hv:Sm _ (cW l i j):=hs2.sub hs1;haveI qn:Qz 310000 (ji l i j) 3:=rD (hv.dot hv) oz;haveI qh:Qz 310000 (cG l i j0 j) 3:=rD (hv.cross (hs1.sub hs0)) oz;obtain⟨w1,w2⟩:=Fp D P.h0 P.p0 P.h1 hb;obtain⟨y1,y2⟩:=lM D.hl D.li D.al D.s D.hc P.h0 P.p0;haveI:=w1;haveI:=w2
 haveI z3:Zu 310000 65000 (cA l a i j0 j) 320 327:=(inferInstance:Zu 310000 65000 (dotE (co l a i j0 j).1 (co l a i j0 j).2 (co l a i j0 j).1 (co l a i j0 j).2) _ _)
 exact⟨hv.mono oz,hs0.mono oz,xf D.li P.h1 P.hk hj,Cy.zq,z3,AX (inferInstance:Zu 310000 65000 (qE (ji l i j)*cA l a i j0 j-qE (cG l i j0 j)*qE (cG l i j0 j)) _ _) (by decide) (by decide),w1,w2,y1,y2⟩
theorem D6{l:Li}{a:As}{i:Int}{j0 j:Jt}(F:RpF l a i j0 j)(tw:Tw (llq a.rs) 64990)(hn:(llq a.rs).length<=1)(hd0:ak (cA l a i j0 j)≠0)(hp:0<=ak (a9 l a i j0 j)) :
  ExtP (a9 l a i j0 j)/\RqP (aG (llq a.rs) (sX (a9 l a i j0 j))) (dS l a i j0 j) (bY (llq a.rs).length)/\RqP (aG (llq a.rs) (sX (a9 l a i j0 j))) (dS l a i j0 j) (sX (-bn (a9 l a i j0 j))) /\
  FP 147 [aO (aG (llq a.rs) (sX (a9 l a i j0 j))),nA (bY (llq a.rs).length)] (.tup [nA (sX (-bn (a9 l a i j0 j))),.v .nilIface]):=by
 have E:ExtP (a9 l a i j0 j):=s6 tw hn F.zX hp;have ce:=E.cy;have zr:Nm (aG (llq a.rs) (sX (a9 l a i j0 j))).length 773000000 (bY (llq a.rs).length):=(qW oz).mono (by decide);haveI zrl:Zl (aG (llq a.rs) (sX (a9 l a i j0 j))) 773000000 1101400000 (bY (llq a.rs).length) (bn (a9 l a i j0 j)) 1 0:=Zl.at zr (by decide);haveI:=zrl.zu;have hng:=F9 (ts:=aG (llq a.rs) (sX (a9 l a i j0 j))) (u:=773000000) (k:=1101400000) (a:=bY (llq a.rs).length) (by decide);have zn:Nm (aG (llq a.rs) (sX (a9 l a i j0 j))).length 773000000 (sX (-bn (a9 l a i j0 j))):=(inferInstance:Zu 773000000 1101400000 (-bn (a9 l a i j0 j)) 1 0).nm.mono (by decide)
 have hR:∀q,Nm (aG (llq a.rs) (sX (a9 l a i j0 j))).length 773000000 q->RqP (aG (llq a.rs) (sX (a9 l a i j0 j))) (dS l a i j0 j) q:=fun q nq =>
  Cc (R := dS l a i j0 j) (j := (llq a.rs).length) ce F.hv F.hp F.vv nq (lF (F.zl.nm.mono (by decide)) oz) (lF (F.z3.nm.mono (by decide)) oz) (lF (F.w1.nm.mono (by decide)) oz) (lF (F.w2.nm.mono (by decide)) oz)
   (lF (F.y1.nm.mono (by decide)) oz) (lF (F.y2.nm.mono (by decide)) oz) (vK hn _ _ F.y1.nm).2 (vK hn _ _ F.y2.nm).2 F.z3.nm.nl (by rw[dm];omega) hn (by rw[show ak (dE (aG (llq a.rs) (sX (a9 l a i j0 j))) (dS l a i j0 j).d)=ak (cA l a i j0 j)from no];exact hd0)
 exact⟨E,hR _ zr,hR _ zn,hng⟩
theorem G4{l:Li}{a:As}{i:Int}{j0 j:Jt}(F:RpF l a i j0 j)(tw:Tw (llq a.rs) 64990)(hn:(llq a.rs).length<=1)(hd0:ak (cA l a i j0 j)≠0):Cy (llq a.rs) 773000000 1101400000/\RqP (llq a.rs) (dS l a i j0 j) []:=by
 have cs:Cy (llq a.rs) 773000000 1101400000:=⟨⟨64990,tw,by show kB 64990 (llq a.rs).length<=_;have:=xc hn;omega⟩,by omega,by omega,by omega⟩
 have nil0:Nm (llq a.rs).length 773000000 []:=⟨tw.five,.inl rfl,Cb.nil.mono oz⟩
 exact ⟨cs, Cc (R := dS l a i j0 j) (j := (llq a.rs).length) cs F.hv F.hp F.vv nil0 (F.zl.nm.mono (by decide)) (F.z3.nm.mono (by decide)) (F.w1.nm.mono (by decide)) (F.w2.nm.mono (by decide))
   (F.y1.nm.mono (by decide)) (F.y2.nm.mono (by decide)) (wJ _ _ F.y1.nm).2 (wJ _ _ F.y2.nm).2 F.z3.nm.nl (le_refl _) hn (by rw[show ak (dE (llq a.rs) (dS l a i j0 j).d)=ak (cA l a i j0 j)from congrArg ak (a7 _ _)];exact hd0)⟩
theorem Um{l:Li}{a:As}(D:DyR l a)(hn:(llq a.rs).length<=1){i z0 z1:Int}{j0 j:Jt}(hg:GrOk l ⟨3,[i],[z0,z1],0⟩)(P:SlP 3900000 l a ⟨3,[i],[z0,z1],0⟩ 3 i z0 z1 j0 j)(hj:j.b=i)(hb:Pd 3900000 a j.a) :
  Con prog 67 [.ptr 1000 0] [(1000,some (b8 l ⟨3,[i],[z0,z1],0⟩ a))] (oG (ky l a i j0 j)) [(1000,some (b8 l ⟨3,[i],[z0,z1],0⟩ a))]:=by
 haveI c:=D.s.ct D.hc;obtain⟨tw,etw⟩:=db D.s.tr D.hc;haveI cy:Cy (llq a.rs) 310000 65000:=⟨c.ex,c.k1,c.u3,by omega⟩
 have hlm:=cy.lm;have F:=B3 D hn P hj hb;obtain⟨i1,i2,i3,i4,i5⟩:=dx D.li P.h1;have hs0:Sm 1000 (aj l j0 i):=gG D.hl D.li P.h0 P.p0.or;have hs1:Sm 1000 (aX l i j.on):=by rw[<- hj];exact kR D.hl D.li i2 i4
 have hs2:Sm 1000 (aX l i j.to):=by rw[<- hj];exact kR D.hl D.li i2 (i5 P.hk)
 have hv:Sm _ (cW l i j):=hs2.sub hs1;haveI qn:Qz 310000 (ji l i j) 3:=rD (hv.dot hv) oz;haveI qh:Qz 310000 (cG l i j0 j) 3:=rD (hv.cross (hs1.sub hs0)) oz;haveI z3:=F.z3;haveI zX:=F.zX;haveI zl:=F.zl;have hrr:=MD D (i:=i) (j0:=j0) (j:=j) (by decide);have m1:=yD (ts:=llq a.rs) (u:=310000) (k:=65000) (a:=sX (a9 l a i j0 j)) (by decide);have m2:=yD (ts:=llq a.rs) (u:=310000) (k:=65000) (a:=sX (cA l a i j0 j)) (by decide);have m3:=yD (ts:=llq a.rs) (u:=310000) (k:=65000) (a:=sh 0 (cG l i j0 j:Rat)) (by decide);refine gF func67 (fun k z h=>bj h) ?_ (2,0);refine gW (Wk.o (sl:=[(0,some (.ptr 1000 0)),(4,some (.ptr 24 0))]) (hp:=[(1000,some (b8 l ⟨3,[i],[z0,z1],0⟩ a)),(24,some (dh a.rs))])) ?_;refine gt (az (Con.rekeyBB 1000 24 (by decide) (by decide) rfl rfl rfl rfl rfl rfl (Pr D hg P.h0 P.h1 P.p0 hj P.hk hb)) (bm rfl rfl) aB rfl rfl) ?_;refine gt (az (Con.rekeyB1 24 rfl rfl rfl rfl rfl hrr) (bm rfl rfl) aB rfl rfl) ?_ (4,0);refine gW (Wk.of (sl:=[(4,some (.ptr 24 0)),(5,some (.ptr 5 0)),(6,some (nA (sX (a9 l a i j0 j))))]) (hp:=[(1000,some (b8 l ⟨3,[i],[z0,z1],0⟩ a)),(5,some (.box (rL l a i j0 j))),(24,some (aY (llq a.rs)))]) aW (.k (.k (.cons rfl (BlkSub.bL (.cons (.of (me etw)) (.cons (.refl _) .nil)) rfl) .nil)))) ?_;refine gt (aQ (Con.rB 24 rfl rfl rfl rfl m1) (bm rfl rfl) rfl rfl rfl) ?_;refine gC (fun t34=>?_) (fun t34=>?_) (st1:=(6,0));cases t34;refine gt (aQ (Con.rB 24 rfl rfl rfl rfl m2) (bm rfl rfl) rfl rfl rfl) ?_;refine gu (d5 rfl rfl rfl (fun h=>aQ (Con.rB 24 rfl rfl rfl rfl m3) (.cons (.opt rfl (o1 h)) (.cons (.opt rfl (o1 h)) .nil)) rfl rfl rfl)) ?_;refine gC (fun t44=>?_) (fun t44=>?_)
 ·have h1:=Lp t44;refine gR ?_;exact(aq.keep (a6 rfl)).sub (by unfold ky;rw[if_pos h1];exact Sub.tup (.cons (.nil _ _ _) (.cons (.refl _) .nil)))
 have h1:=P9 t44;refine gC (fun t58=>?_) (fun t58=>?_)
 ·have h2:ak (a9 l a i j0 j)<0:=of_decide_eq_true t58;refine gR ?_;exact(aq.keep (a6 rfl)).sub (by unfold ky;rw[if_neg h1,if_pos h2];exact Sub.tup (.cons (.nil _ _ _) (.cons (.refl _) .nil)))
 have h2:¬ak (a9 l a i j0 j)<0:=of_decide_eq_false t58;have hd0:ak (cA l a i j0 j)≠0:=vM tw h2 h1;refine xX [4,5] [1000,5] (fun(T:LL)(qs:LL)=>[(8,some (.lst 1 (qs.map nA)))]) (fun T _=>[(24,some (aY T))]) (fun T qs=>Cy T 773000000 1101400000/\qs.length<=2/\(∀q∈qs,RqP T (dS l a i j0 j) q)/\ky l a i j0 j=(jK T (dS l a i j0 j) qs qs.length,0)) ?_ ?_
 ·intro K1 J1;refine gC (fun t63=>?_) (fun t63=>?_)
  ·have h3:0<ak (a9 l a i j0 j):=of_decide_eq_true t63;obtain⟨E,R1,R2,hng⟩:=D6 F tw hn hd0 oz;have ce:=E.cy;have hex:=GY (a:=sX (a9 l a i j0 j)) tw zX.nm (by rw[hlm];decide) (by rw[show ae (llq a.rs).length (sX (a9 l a i j0 j))=a9 l a i j0 j from a7 _ _];show 0<=ak (a9 l a i j0 j);omega);refine gc hex ?_;refine gC (fun t75=>?_) (fun t75=>?_) (st1:=(15,0));cases t75;refine gc hng ?_;refine gt (aQ (Con.rB 24 rfl rfl rfl rfl (p4 _ _)) (aE rfl rfl rfl) rfl rfl rfl) ?_;exact ph J1 (aG (llq a.rs) (sX (a9 l a i j0 j))) ([bY (llq a.rs).length,sX (-bn (a9 l a i j0 j))]) ⟨ce,le_refl 2,ke R1 R2,by unfold ky;rw[if_neg h1,if_neg h2,if_pos h3];rfl⟩
  have h3:¬0<ak (a9 l a i j0 j):=of_decide_eq_false t63;obtain⟨cs,R0⟩:=G4 F tw hn hd0;exact ph J1 (llq a.rs) ([[]]) ⟨cs,by decide,gU R0,by unfold ky;rw[if_neg h1,if_neg h2,if_neg h3];rfl⟩ (hw:=Wk.of (.cons rfl MN (.k (.k .nil))) (.k (.k (.k .nil))))
 rintro T qs ⟨ct,hql,hq,hR⟩;obtain⟨rr,twT,hkT⟩:=ct.ex;refine gl ?_;refine gW (Wk.virt 900 3 rfl) ?_;refine aN [4,5,8,90,91] [1000,5,24] (fun(q:Nat)=>[(12,some (.ms 900 3 0 q)),(92,some (i64 q))]) (fun q=>[(900,some (.row 3 (jK T (dS l a i j0 j) qs q)))]) (fun q=>q<=qs.length) (fun q=>qs.length-q) 0 (zero_le _) ?_;rintro q hqi K2 J2;refine gC (fun t93=>?_) (fun t93=>?_) (st2:=(28,0))
 ·have hin:=aS t93;obtain ⟨x,hx⟩:=ax hin;have hx9:qs.getD q [] = x:=aC hx;have R:=hq x (mem_of_getElem? hx);refine gi (aA hx) ?_;refine gc R.c1 ?_;refine gt (aQ (Con.rB 24 rfl rfl rfl rfl (uf _ _ _)) (aE rfl rfl rfl) rfl rfl rfl) ?_;refine gD ?_;refine gc R.ng ?_;refine gt (aQ (Con.rB 24 rfl rfl rfl rfl (p4 _ _)) (aE rfl rfl rfl) rfl rfl rfl) ?_;refine gc R.c2 ?_;refine gt (aQ (Con.rB 24 rfl rfl rfl rfl (uf _ _ _)) (aE rfl rfl rfl) rfl rfl rfl) ?_;refine gD ?_;refine gc R.sb ?_;refine gt (aQ (Con.rB 24 rfl rfl rfl rfl (uf _ _ _)) (aE rfl rfl rfl) rfl rfl rfl) ?_;refine gD ?_;refine gt (aQ (Con.rB 24 rfl rfl rfl rfl (wF R.d1)) (aE rfl rfl rfl) rfl rfl rfl) ?_;refine gt (aQ (Con.rB 24 rfl rfl rfl rfl (wF R.d2)) (aE rfl rfl rfl) rfl rfl rfl) ?_;refine gD ?_;refine gc (yh twT) ?_;refine gt (aQ (Con.rB 24 rfl rfl rfl rfl R.body) (.cons (.tmp rfl) (.cons (.tmp rfl) (.cons (.tmp rfl) (.cons (.tmp rfl) (.cons (.tmp rfl) .nil))))) rfl rfl rfl) ?_;refine gl ?_;refine gc (EQ q qs.length oz) ?_;refine gs (ci (.tmp rfl) rfl (yw _ _ _ _).symm (.tmp rfl) T54 rfl T62 rfl rfl (by dsimp only; simp only [length_cons,length_nil]; omega) rfl rfl) ?_;refine gD ?_ (27,0);refine gW (Wk.of (sl:=[(4,some (.ptr 24 0)),(5,some (.ptr 5 0)),(8,some (.lst 1 (qs.map nA))),(12,some (.ms 182 3 0 (q + 1))),(90,some (.lst 1 (qs.map nA))),(91,some (i64 qs.length)),(92,some (i64 q))]) (hp:=[(1000,some (b8 l ⟨3,[i],[z0,z1],0⟩ a)),(5,some (.box (rL l a i j0 j))),(24,some (aY T)),(182,some (.row 3 (jK T (dS l a i j0 j) qs (q + 1))))]) aW (.k (.k (.k (.cons rfl (BlkSub.of (by rw [LY]; unfold jk; rw [hx9]; rfl)) .nil))))) ?_ (27,0)
  refine gW (Wk.rk (k:=182) (d:=900) rfl rfl) ?_;refine ga aF ?_;exact aH J2 (q+1) hin
 have hin:=aZ hqi t93;subst hin;refine gW ((Wk.freeze (k:=900) rfl).trans<|Wk.of (sl:=[(4,some (.ptr 24 0)),(12,some (.lst 3 (jK T (dS l a i j0 j) qs qs.length)))]) (hp:=[(1000,some (b8 l ⟨3,[i],[z0,z1],0⟩ a)),(24,some (aY T))]) (.k (.cons rfl (Sub.of (by rw[bJ (yw _ _ _ _).symm])) .nil)) (.k (.k .nil))) ?_;refine gC (fun t188=>?_) (fun t188=>?_) (st1:=(29,0));cases t188;refine gR ?_;exact(aq.keep (a6 rfl)).sub (Sub.of (by rw[hR];rfl))
theorem Kp:Sub (.agg [bl (rt ((1:Int):Rat)).neg,ws (rt ((1:Int):Rat)).num,ws (rt ((1:Int):Rat)).den,.v (.bool false),nS,nS]) (qP (((1:Int):Rat),0)) :=
 Sub.agg (.cons (.refl _) (.cons (.refl _) (.cons (.refl _) (.cons (.refl _) (.cons (Sub.nil _ _ _) (.cons (Sub.nil _ _ _) .nil)))))) rfl
theorem ql{ts:LL}(q:Rat):sX (qE q:Et ts)=sh 0 (q:Rat):=zo _ _
def kl(l:Li)(a:As)(i:Int)(j0:Jt)(x:Tn):Pq:=gB (((1:Int):Rat),0) ((qE (bV x.half x.t.q),qE (cm x.half x.t.q)):P2 (llq a.rs)) (aj l j0 i) (aM l a j0 i)
def nB(l:Li)(a:As)(i:Int)(j0:Jt)(x:Tn):List AV×Nat:=if x.err≠0 then([],x.err)else([(⟨llq a.rs,[kl l a i j0 x],1⟩:Sv).av],0)
theorem Vc{l:Li}{g:Gr}{a:As}{x:Tn}(hx:x.t.ok)(hq:Qb 1000 x.t.q)(he:x.err≠0) :
  Con prog 64 [.ptr 1000 0,x.av] [(1000,some (b8 l g a))] (.tup [.lst 3 [],bg x.err]) [(1000,some (b8 l g a))]:=by
 refine gF func64 (fun k z h=>bj h) ?_;refine gc (ut x hx hq oz) ?_;refine gC (fun t20=>?_) (fun t20=>?_) (st2:=(77777,0))
 ·refine gR ?_;exact(aq.keep (a6 rfl)).sub (Sub.tup (.cons (.nil _ _ _) (.cons (.refl _) .nil)))
 exact absurd (cC t20) he
theorem EP:Sm 3000 (((1:Int):Rat),(0:Rat)):=⟨Qb.one.mono oz,Qb.mono (e:=1) (q:=0) ⟨by decide,by decide⟩ oz⟩
theorem HX{E:Nat}(hE:E<=20000000000){l:Li}{a:As}(D:DyW l a)(h3:(llq a.rs).length<=2){body pt:Int}(h1:bi body l.bo.length=true)(h2:bi pt (cz l body).length=true)(hb:Pd E a body) :
  Nm (llq a.rs).length 62500000000 (sX (bC l a body pt).1)/\Nm (llq a.rs).length 62500000000 (sX (bC l a body pt).2):=by
 obtain⟨n,k,bd,m,b,hp⟩:=uR D.hl D.li D.al D.hc h1 h2 hb;obtain⟨tw,_⟩:=db D.al.tr D.hc;have kb:=Ia h3;have qx:Qb 1000 m.x.q:=by rw[hp.mp.ex,bZ];exact hp.mp.sm.x
 have qy:Qb 1000 m.y.q:=by rw[hp.mp.ey,bZ];exact hp.mp.sm.y
 have h:=yL tw hp.ok qx qy;unfold bC;rw[hp.eq];exact⟨h.1.mono oz,h.2.mono oz⟩
theorem UJ{E:Nat}(hE:E<=20000000000){l:Li}{a:As}(D:DyW l a)(h3:(llq a.rs).length<=2){i:Nat}{j:Jt}(hj:l.jo[i]?=some j){b:Int}(h:PinP E l a j b) :
  Nm (llq a.rs).length 62500000000 (sX (aM l a j b).1)/\Nm (llq a.rs).length 62500000000 (sX (aM l a j b).2):=by
 obtain⟨i1,i2,i3,i4,_⟩:=dx D.li hj;unfold aM;rcases h.tie with⟨e,hb⟩ |⟨e,e2,hb⟩
 ·rw[if_pos e];exact HX hE D h3 i2 i4 hb
 ·rw[if_neg e];exact HX hE D h3 i1 i3 hb
theorem GV{E:Nat}(hE:E<=20000000000){l:Li}{a:As}(D:DyW l a)(h3:(llq a.rs).length<=2){n:Nat}{i:Int}{j0:Jt}(h0:l.jo[n]?=some j0)(p0:PinP E l a j0 i){x:Tn}(hq:Qb 1000 x.t.q) :
  BdP (llq a.rs) (((1:Int):Rat),(0:Rat)) ((qE (bV x.half x.t.q),qE (cm x.half x.t.q)):P2 (llq a.rs)) (aj l j0 i) (aM l a j0 i):=by
 obtain⟨tw,etw⟩:=db D.al.tr D.hc;have qc:=oi (half:=x.half) hq;have qs:=qd (half:=x.half) hq;have hs0:Sm 1000 (aj l j0 i):=gG D.hl D.li h0 p0.or;obtain⟨y1,y2⟩:=UJ hE D h3 h0 p0
 exact EX (F := 80000000000) (W := 10000) (u := (((1 : Int) : Rat), (0 : Rat))) (p := aj l j0 i) (w := ((qE (bV x.half x.t.q), qE (cm x.half x.t.q)) : P2 (llq a.rs))) (o := aM l a j0 i) tw h3 (Ia h3) EP (hs0.mono oz) (by decide +kernel)
  (by show Nm _ _ (sX (qE (bV x.half x.t.q):Et (llq a.rs)));rw[ql];exact(ni tw.five qc).mono oz) (by show Nm _ _ (sX (qE (cm x.half x.t.q):Et (llq a.rs)));rw[ql];exact(ni tw.five qs).mono oz) y1 y2 oz oz oz
theorem I2{E:Nat}(hE:E<=20000000000){l:Li}{a:As}(D:DyW l a)(h3:(llq a.rs).length<=2){i z0 d:Int}{j0:Jt}(hg:GrOk l ⟨0,[i],[z0],d⟩)(h0:l.jo[z0.toNat]?=some j0)(p0:PinP E l a j0 i){x:Tn}(hx:x.t.ok)(hq:Qb 1000 x.t.q)(he:x.err=0) :
  Con prog 64 [.ptr 1000 0,x.av] [(1000,some (b8 l ⟨0,[i],[z0],d⟩ a))] (.tup [.lst 3 [(⟨llq a.rs,[kl l a i j0 x],1⟩:Sv).av],.v .nilIface]) [(1000,some (b8 l ⟨0,[i],[z0],d⟩ a))]:=by
 obtain⟨tw,etw⟩:=db D.al.tr D.hc;have hc:=ut x hx hq oz;rw[if_pos he,he]at hc;have hs:=Ac x hx hq oz;rw[if_pos he,he]at hs;have qc:=oi (half:=x.half) hq;have qs:=qd (half:=x.half) hq;have hs0:Sm 1000 (aj l j0 i):=gG D.hl D.li h0 p0.or;have hb:=Ab EP (hs0.mono oz) (GV hE D h3 h0 p0 hq)
 have ew:cS (P2.l ((qE (bV x.half x.t.q),qE (cm x.half x.t.q)):P2 (llq a.rs)))=aI (sh 0 (bV x.half x.t.q:Rat)) (sh 0 (cm x.half x.t.q:Rat)):=by
  show aI (sX (qE (bV x.half x.t.q):Et (llq a.rs))) (sX (qE (cm x.half x.t.q):Et (llq a.rs)))=_;rw[ql,ql]
 rw[ew]at hb;have hcl:=yh tw;have hcl2:FP 154 [de a.rs] (aO (llq a.rs)):=by rw[etw];exact hcl
 refine gF func64 (fun k z h=>bj h) ?_;refine gc hc ?_;refine gC (fun t20=>?_) (fun t20=>?_) (st1:=(3,0));cases t20;refine gc hs ?_;refine gC (fun t28=>?_) (fun t28=>?_) (st1:=(6,0));cases t28;refine gi rfl ?_;refine gt (aQ (r7 hE D.hl D.li _ hg D.al D.hc (k:=0) rfl h0 h3 p0) (.cons (.tmp rfl) (.cons (.const _) (cq rfl))) rfl rfl rfl) ?_;refine gD ?_ (9,0);refine gW (Wk.of (sl:=[(0,some (.ptr 1000 0)),(6,some (.ptr 6 0)),(8,some (.ptr 8 0)),(9,some (.ptr 9 0)),(10,some (.ptr 10 0)),(11,some (.ptr 52 0))]) (hp:=[(1000,some (b8 l ⟨0,[i],[z0],d⟩ a)),(6,some (.box [bl (rt (bV x.half x.t.q)).neg,ws (rt (bV x.half x.t.q)).num,ws (rt (bV x.half x.t.q)).den])),(8,some (.box [bl (rt (cm x.half x.t.q)).neg,ws (rt (cm x.half x.t.q)).num,ws (rt (cm x.half x.t.q)).den])),(9,some (.box (qC (aj l j0 i)))),(10,some (.box [nA (sX (aM l a j0 i).1),nA (sX (aM l a j0 i).2)])),(52,some (aY (llq a.rs)))]) aW (.k (.k (.k (.k (.k (.cons rfl (BlkSub.bL (.cons (.of (me etw)) (.cons (.refl _) .nil)) rfl) .nil))))))) ?_
 refine gc (km 1 oz) ?_;refine gc (uQ (qc.qs oz) (qs.qs oz)) ?_;refine gt (aQ (Con.rB 52 rfl rfl rfl rfl (Con.sA (.cons (.refl _) (.cons Kp (.cons (.refl _) (.cons (.refl _) (.cons (.refl _) .nil))))) hb)) (.cons (.tmp rfl) (.cons (.tmp rfl) (.cons (.tmp rfl) (.cons (.tmp rfl) (.cons (.tmp rfl) .nil))))) rfl rfl rfl) ?_;refine gD ?_;refine gC (fun t67=>?_) (fun t67=>?_) (st1:=(12,0));cases t67;refine gc hcl2 ?_;refine gD ?_;refine gR ?_;exact aq.keep (a6 rfl)
theorem Ug{E:Nat}(hE:E<=20000000000){l:Li}{a:As}(D:DyW l a)(h3:(llq a.rs).length<=2){i z0 d:Int}{j0:Jt}(hg:GrOk l ⟨0,[i],[z0],d⟩)(h0:l.jo[z0.toNat]?=some j0)(p0:PinP E l a j0 i){x:Tn}(hx:x.t.ok)(hq:Qb 1000 x.t.q) :
  Con prog 64 [.ptr 1000 0,x.av] [(1000,some (b8 l ⟨0,[i],[z0],d⟩ a))] (oG (nB l a i j0 x)) [(1000,some (b8 l ⟨0,[i],[z0],d⟩ a))]:=by
 by_cases he:x.err=0
 ·have h:=I2 hE D h3 hg h0 p0 hx hq he;unfold nB;rw[if_neg oz];exact h
 ·have h:=Vc (l:=l) (g:=⟨0,[i],[z0],d⟩) (a:=a) hx hq he;unfold nB;rw[if_pos he];exact h
def iC(l:Li)(a:As)(g:Gr)(x:Tn):List AV×Nat :=
  if g.kind=0 then nB l a (eK g 0) (di l g 0) x
  else if g.kind=1 then ma l a (eK g 0) (eK g 1) (di l g 0) (di l g 1) (di l g 2)
  else if g.kind=2 then mw l a (eK g 0) (di l g 0) (di l g 1)
  else ky l a (eK g 0) (di l g 0) (di l g 1)
theorem z7{E:Nat}{l:Li}{k:Int}{a:As}{own:Bool}{n:Nat}{g:Gr}(h:DyOk E l k a own n g)(hk:g.kind=0):∃i z0 d j0,g=⟨0,[i],[z0],d⟩/\l.jo[z0.toNat]?=some j0/\PinP E l a j0 i:=by
 have hd:=h.dy;cases hd with
 |rrr _ _ _ _ _ _ _=>exact absurd hk (by simp)
 |pr _ _ _=>exact absurd hk (by simp)
 |rp _ _ _=>exact absurd hk (by simp)
 | @drv b z d j x t d0 hd hb=>exact⟨b,z,d,j,rfl,t.hj,h.pin rfl t (by simp) (by simp)⟩
theorem Pc{l:Li}{k:Int}{x:Tn}{a:As}{E:Nat}(hop:FP 63 [l.av,i64 k,a.av,bl false] (.tup [.v (.pointer none),bg E]))(h0:E≠0) :
  FP 18 [l.av,i64 k,x.av,a.av] (.tup [.lst 3 [],bg E]):=by
 refine ai func18 ?_;refine gc hop ?_;refine gC (fun t20=>?_) (fun t20=>?_) (st2:=(77777,0))
 ·refine gR ?_;exact dV (Sub.tup (.cons (.nil _ _ _) (.cons (.refl _) .nil)))
 exact absurd (cC t20) h0
theorem LC{E:Nat}(hE:E<=20000000000){l:Li}{k:Int}{a:As}{n:Nat}{g:Gr}{x:Tn}(hx:x.t.ok)(hq:Qb 1000 x.t.q)(h3:(llq a.rs).length<=2)(hR:g.kind≠0->E=3900000/\DyS a)(hop:Con prog 63 [l.av,i64 k,a.av,bl false] [] (.tup [.ptr 900 0,.v .nilIface]) [(900,some (b8 l g a))])(D:DyW l a)(ok:DyOk E l k a false n g) :
  FP 18 [l.av,i64 k,x.av,a.av] (oG (iC l a g x)):=by
 have hgo:=ok.ok;refine ai func18 ?_;refine gt (az hop (.cons (.tmp rfl) (.cons (.tmp rfl) (.cons (.tmp rfl) (.cons (.const _) .nil)))) aB rfl rfl) ?_ (2,0);refine gW (Wk.o (sl:=[(6,some (.ptr 6 0)),(10,some (.ptr 900 0)),(11,some (.v .nilIface))]) (hp:=[(6,some (.box x.av.cells)),(900,some (b8 l g a))])) ?_;refine gC (fun t20=>?_) (fun t20=>?_) (st1:=(3,0));cases t20;refine gC (fun t27=>?_) (fun t27=>?_)
 ·have hk:g.kind = 0:=cM t27;obtain ⟨i,z0,d,j0,e,hj0,p0⟩:=z7 ok hk;have eR:iC l a g x = nB l a i j0 x:=by unfold iC; rw [if_pos hk,e]; show nB l a i (l.jo.getD z0.toNat default) x = _; rw [aC hj0]
  subst e;refine gt (aQ (Con.rB 900 rfl rfl rfl rfl (Ug hE D h3 hgo hj0 p0 hx hq)) (bm rfl rfl) rfl rfl rfl) ?_;refine gR ?_;exact dV (Sub.of (by rw[eR];rfl))
 have hk0:g.kind≠0:=dJ t27;obtain⟨hE9,S⟩:=hR hk0;subst hE9;have D:DyR l a:=⟨D,S⟩
 have hn:=S.one D.hc;refine gC (fun t34=>?_) (fun t34=>?_)
 ·have hk:g.kind = 1:=cM t34;obtain ⟨i,k2,z0,z1,z2,j0,j1,j2,P⟩:=ok.rrr hk;obtain ⟨e0,e1,e2,b0,b1,_⟩:=P.at;have eR:iC l a g x = ma l a i k2 j0 j1 j2:=by unfold iC; rw [if_neg hk0,if_pos hk,e0,e1,e2,b0,b1]
  have e:=P.eq;subst e;refine gt (aQ (Con.rB 900 rfl rfl rfl rfl (S4 D hn hgo P)) (cq rfl) rfl rfl rfl) ?_;refine gR ?_;exact dV (Sub.of (by rw[eR];rfl))
 have hk1:g.kind≠1:=dJ t34;refine gC (fun t40=>?_) (fun t40=>?_)
 ·have hk:g.kind = 2:=cM t40;obtain ⟨i,z0,z1,j0,j,P,ha,hb⟩:=ok.pr hk;obtain ⟨e0,e1,b0,_⟩:=P.at;have eR:iC l a g x = mw l a i j0 j:=by unfold iC; rw [if_neg hk0,if_neg hk1,if_pos hk,e0,e1,b0]
  have e:=P.eq;subst e;refine gt (aQ (Con.rB 900 rfl rfl rfl rfl (Q0 D hn hgo P ha hb)) (cq rfl) rfl rfl rfl) ?_;refine gR ?_;exact dV (Sub.of (by rw[eR];rfl))
 have hk2:g.kind≠2:=dJ t40;obtain⟨i,z0,z1,j0,j,P,_,hj,hb⟩:=ok.rp hk0 hk1 hk2;obtain⟨e0,e1,b0,_⟩:=P.at;have eR:iC l a g x=ky l a i j0 j:=by unfold iC;rw[if_neg hk0,if_neg hk1,if_neg hk2,e0,e1,b0]
 have e:=P.eq;subst e;refine gt (aQ (Con.rB 900 rfl rfl rfl rfl (Um D hn hgo P hj hb)) (cq rfl) rfl rfl rfl) ?_;refine gR ?_;exact dV (Sub.of (by rw[eR];rfl))
def vS(l:Li)(k:Int)(x:Tn)(a:As):List AV×Nat:=if fg l k a false=0 then iC l a (iO l k) x else([],fg l k a false)
theorem L4(l:Li)(hl:l.ok)(k:Int){x:Tn}(hx:x.t.ok)(hq:Qb 1000 x.t.q)(a:As)(al:AB a)(h3:ba a.rs=0->(llq a.rs).length<=2){E:Nat}(hE:E<=20000000000)(hs:se E l k a false)(hR:fg l k a false=0->(iO l k).kind≠0->E=3900000/\DyS a) :
  FP 18 [l.av,i64 k,x.av,a.av] (oG (vS l k x a)):=by
 have hop:=U4 l hl k a al false;unfold vS
 by_cases h0:fg l k a false=0
 ·obtain ⟨n, g, ok⟩:=G0 hs h0;have hgA:iO l k = g:=by unfold iO; rw [ok.hk,toNat_natCast]; exact aC ok.hg
  have hR:=hR h0;rw[hgA]at hR;rw[h0,hgA]at hop;rw[if_pos h0,hgA];exact LC hE hx hq (h3 ok.chk) hR hop ⟨hl,ok.li,al,ok.chk⟩ ok
 ·rw[kp h0,pE h0]at hop;rw[if_neg h0];exact Pc hop h0
theorem AL.sma{a:As}(al:AL a)(l:Li)(k:Int)(own:Bool):se 3900000 l k a own:=fun b _ _ p hp x hx=>(al.nr p (mem_of_getElem? hp) x hx).mono oz
structure SvOk(s:Sv):Prop where
  tw:∃r,Tw s.ts r
  two:s.ts.length<=2
  ps:∀p∈s.ps,Pq.ok s.ts.length 80000000000 p
  ln:s.ps.length<=2
theorem wG(ts:LL)(x:T ts.length):fM ts x x=true:=by
 unfold fM subT;rw[T.add_neg,T.sgn_zero];rfl
structure SolP(S:List Sv)(kd:Int)(n b:Nat):Prop where
  two:S.length<=2
  ok:∀s∈S,SvOk s
  md:∀(i:Nat)(s:Sv),S[i]?=some s->s.mode=(if kd=0 then 1 else if S.length=2 then 1-2*(i:Int)else 0)/\s.ts.length=n+(if S.length=2 then 1 else 0)/\s.ps.length=b
theorem mT(kd:Int)(n b:Nat):SolP [] kd n b:=⟨by simp,by simp,by simp⟩
theorem vD(f:Nat->Sv)(n:Nat):((List.range n).map fun i=>(f i).av)=((List.range n).map f).map Sv.av:=by rw[map_map];rfl
theorem JO{ts:LL}(p q:P2 ts)(z z2:Et ts)(h0:fu p q z z2=0):(eJ p q z z2).ts.length=ts.length+(if(eJ p q z z2).ps.length=2 then 1 else 0):=by
 unfold fu lg at h0;unfold eJ lB;split
 ·rename_i hd;rw[if_pos hd]at h0;split
  ·simp
  ·rename_i hz;split
   ·rename_i hp;rw[if_pos ⟨Decidable.not_not.1 hz,hp⟩]at h0;cases h0
   ·simp
 ·split
  ·simp
  ·split
   ·simp
   ·simp[dm]
theorem Tf{ts:LL}(p q o:P2 ts)(z:Et ts)(h0:fF p q=0):(eG p q o z).ts.length=ts.length+(if(eG p q o z).ps.length=2 then 1 else 0):=by
 unfold fF at h0;unfold eG;split
 ·rename_i hd;rw[if_pos hd]at h0;cases h0
 ·split
  ·simp
  ·split
   ·simp
   ·simp[dm]
def j5(m:Mt)(hs:List Hd):List Sv:=(List.range m.ps.length).map (jX m hs)
def kO(l:Li)(a:As)(i k:Int)(j0 j1 j2:Jt):List Sv :=
  if fP [bW (aj l j2 i) (aj l j0 i),bW (aj l j2 k) (aj l j1 k)]=true then[]
  else if fu (aM l a j0 i) (aM l a j1 k) (qE (bO (aj l j2 i) (aj l j0 i))) (qE (bO (aj l j2 k) (aj l j1 k)))≠0 then[]
  else j5 (eJ (aM l a j0 i) (aM l a j1 k) (qE (bO (aj l j2 i) (aj l j0 i))) (qE (bO (aj l j2 k) (aj l j1 k)))) [⟨aj l j0 i,P2.l (aM l a j0 i),aj l j2 i⟩,⟨aj l j1 k,P2.l (aM l a j1 k),aj l j2 k⟩]
def kW(l:Li)(a:As)(i:Int)(j0 j:Jt):List Sv :=
  if fP [bW (aX l i j.point) (aj l j0 i)]=true then[]
  else if fF (bC l a j.b j.on) (bC l a j.b j.to)≠0 then[]
  else j5 (eG (bC l a j.b j.on) (bC l a j.b j.to) (aM l a j0 i) (qE (bO (aX l i j.point) (aj l j0 i)))) [⟨aj l j0 i,P2.l (aM l a j0 i),aX l i j.point⟩]
def jY(ts:LL)(R:Rp)(qs:LL):List Sv:=(List.range qs.length).map (jk ts R qs)
def ki(l:Li)(a:As)(i:Int)(j0 j:Jt):List Sv :=
  if ak (cA l a i j0 j)=0/\ak (qE (cG l i j0 j):Et (llq a.rs))=0 then[]
  else if ak (a9 l a i j0 j)<0 then[]
  else if 0<ak (a9 l a i j0 j)then jY (aG (llq a.rs) (sX (a9 l a i j0 j))) (dS l a i j0 j) [bY (llq a.rs).length,sX (-bn (a9 l a i j0 j))]
  else jY (llq a.rs) (dS l a i j0 j) [[]]
def kv(l:Li)(a:As)(i:Int)(j0:Jt)(x:Tn):List Sv:=if x.err≠0 then[]else[⟨llq a.rs,[kl l a i j0 x],1⟩]
def eQ(l:Li)(a:As)(g:Gr)(x:Tn):List Sv :=
  if g.kind=0 then kv l a (eK g 0) (di l g 0) x
  else if g.kind=1 then kO l a (eK g 0) (eK g 1) (di l g 0) (di l g 1) (di l g 2)
  else if g.kind=2 then kW l a (eK g 0) (di l g 0) (di l g 1)
  else ki l a (eK g 0) (di l g 0) (di l g 1)
theorem TH(l:Li)(a:As)(i k:Int)(j0 j1 j2:Jt):(ma l a i k j0 j1 j2).1=(kO l a i k j0 j1 j2).map Sv.av:=by
 unfold ma kO;split
 ·rfl
 ·split
  ·rfl
  ·exact vD _ _
theorem Kc(l:Li)(a:As)(i:Int)(j0 j:Jt):(mw l a i j0 j).1=(kW l a i j0 j).map Sv.av:=by
 unfold mw kW;split
 ·rfl
 ·split
  ·rfl
  ·exact vD _ _
theorem UG(l:Li)(a:As)(i:Int)(j0 j:Jt):(ky l a i j0 j).1=(ki l a i j0 j).map Sv.av:=by
 unfold ky ki;split
 ·rfl
 ·split
  ·rfl
  ·split
   ·exact vD _ _
   ·exact vD _ _
theorem JW(l:Li)(a:As)(g:Gr)(x:Tn):(iC l a g x).1=(eQ l a g x).map Sv.av:=by
 unfold iC eQ;split
 ·unfold nB kv;split <;> rfl
 ·split
  ·exact TH ..
  ·split
   ·exact Kc ..
   ·exact UG ..
theorem B9{ts:LL}{m:Mt}(ok:MtOk ts m){hs:List Hd}(hl:hs.length<=2)(H:∀x∈m.ps,∀h∈hs,HdP m.ts x h){kd:Int}(hk:kd≠0)(lv:m.ts.length=ts.length+(if m.ps.length=2 then 1 else 0)) :
  SolP (j5 m hs) kd ts.length hs.length:=by
 have hln:=ok.ln;refine⟨by simpa[j5]using hln,?_,?_⟩
 ·intro s hs2;obtain⟨i,hi,rfl⟩:=List.mem_map.1 hs2;obtain⟨x,hx⟩:=ax (List.mem_range.1 hi);obtain⟨r,tw,_⟩:=ok.tw;refine⟨⟨r,tw⟩,ok.two,?_,by simpa[jX]using hl⟩;intro p hp;unfold jX at hp;rw[aC hx]at hp;obtain⟨h,hh,rfl⟩:=List.mem_map.1 hp;exact(H x (mem_of_getElem? hx) h hh).b.ok
 ·intro i s hi;unfold j5 at hi;have hin:i < m.ps.length:=by have:=(List.getElem?_eq_some_iff.1 hi).1; simpa using this
  have e:s=jX m hs i:=by simp[hin]at hi;exact hi.symm
  subst e;have hlen:(j5 m hs).length=m.ps.length:=by simp[j5]
  rw[hlen,if_neg hk];refine⟨?_,lv,by simp[jX]⟩;show(if m.ps.length=1 then 0 else 1-2*(i:Int))=_
  by_cases h2:m.ps.length=2
  ·rw[if_neg oz,if_pos h2]
  ·rw[if_pos oz,if_neg h2]
theorem Of{l:Li}{a:As}(D:DyR l a)(hn:(llq a.rs).length<=1){g:Gr}{i k z0 z1 z2:Int}{j0 j1 j2:Jt}(P:RrrP 3900000 l a g i k z0 z1 z2 j0 j1 j2):SolP (kO l a i k j0 j1 j2) 1 (llq a.rs).length 2:=by
 have c:=D.s.ct D.hc;obtain⟨tw,etw⟩:=db D.s.tr D.hc;have hq0:=gG D.hl D.li P.h0 P.p0.or;have hq1:=gG D.hl D.li P.h1 P.p1.or;have hq2:=gG D.hl D.li P.h2 P.t1;have hq3:=gG D.hl D.li P.h2 P.t2;obtain⟨y1,y2⟩:=lM D.hl D.li D.al D.s D.hc P.h0 P.p0;obtain⟨y3,y4⟩:=lM D.hl D.li D.al D.s D.hc P.h1 P.p1;haveI:=c;haveI q1:=o7 hq2 hq0;haveI q2:=o7 hq3 hq1;have z1:Zu 310000 65000 (qE (bO (aj l j2 i) (aj l j0 i)):Et (llq a.rs)) 3 0:=inferInstance;have z2:Zu 310000 65000 (qE (bO (aj l j2 k) (aj l j1 k)):Et (llq a.rs)) 3 0:=inferInstance;unfold kO
 by_cases h1:fP [bW (aj l j2 i) (aj l j0 i),bW (aj l j2 k) (aj l j1 k)]=true
 ·rw[if_pos h1];exact mT _ _ _
 ·rw[if_neg h1];obtain⟨w1,w2⟩:=tY (Bool.eq_false_iff.2 h1)
  by_cases h2:fu (aM l a j0 i) (aM l a j1 k) (qE (bO (aj l j2 i) (aj l j0 i))) (qE (bO (aj l j2 k) (aj l j1 k)))≠0
  ·rw[if_pos h2];exact mT _ _ _
  ·rw[if_neg h2];have h3:=Decidable.not_not.1 h2;have ok:=Eh (x:=(aM l a j0 i).1) (y:=(aM l a j0 i).2) (x2:=(aM l a j1 k).1) (y2:=(aM l a j1 k).2) tw hn c y1 y2 z1 y3 y4 z2 h3;exact B9 ok (by simp) (fun x hx=>ke (pq ok hx (y1.nm.mono (by decide)) (y2.nm.mono (by decide)) hq0 hq2 w1) (pq ok hx (y3.nm.mono (by decide)) (y4.nm.mono (by decide)) hq1 hq3 w2)) (by decide) (JO _ _ _ _ h3)
theorem In{l:Li}{a:As}(D:DyR l a)(hn:(llq a.rs).length<=1){g:Gr}{i z0 z1:Int}{j0 j:Jt}(P:SlP 3900000 l a g 2 i z0 z1 j0 j)(ha:j.a=i)(hb:Pd 3900000 a j.b):SolP (kW l a i j0 j) 2 (llq a.rs).length 1:=by
 have c:=D.s.ct D.hc;obtain⟨tw,etw⟩:=db D.s.tr D.hc;obtain⟨i1,i2,i3,i4,i5⟩:=dx D.li P.h1;have hq2:Sm 1000 (aX l i j.point):=by rw[<- ha];exact kR D.hl D.li i1 i3
 have hq0:=gG D.hl D.li P.h0 P.p0.or;obtain⟨y1,y2⟩:=lM D.hl D.li D.al D.s D.hc P.h0 P.p0;obtain⟨y3,y4⟩:=lX D.hl D.li D.al D.s D.hc i2 i4 hb;obtain⟨y5,y6⟩:=lX D.hl D.li D.al D.s D.hc i2 (i5 P.hk) hb;haveI:=c;haveI q1:=o7 hq2 hq0;have z1:Zu 310000 65000 (qE (bO (aX l i j.point) (aj l j0 i)):Et (llq a.rs)) 3 0:=inferInstance;unfold kW
 by_cases h1:fP [bW (aX l i j.point) (aj l j0 i)]=true
 ·rw[if_pos h1];exact mT _ _ _
 ·rw[if_neg h1];have w1:=wa (Bool.eq_false_iff.2 h1)
  by_cases h2:fF (bC l a j.b j.on) (bC l a j.b j.to)≠0
  ·rw[if_pos h2];exact mT _ _ _
  ·rw[if_neg h2];have h3:=Decidable.not_not.1 h2;have ok:=GC (o:=aM l a j0 i) (p:=bC l a j.b j.on) (q:=bC l a j.b j.to) (z:=qE (bO (aX l i j.point) (aj l j0 i))) tw hn c y1 y2 y3 y4 y5 y6 z1 h3;exact B9 ok (by simp) (fun x hx=>gU (pq ok hx (y1.nm.mono (by decide)) (y2.nm.mono (by decide)) hq0 hq2 w1)) (by decide) (Tf _ _ _ _ h3)
theorem Fy{ts T:LL}{R:Rp}{qs:LL}(ct:Cy T 773000000 1101400000)(hl:qs.length<=2)(h1:1<=qs.length)(H:∀q∈qs,RqP T R q)(lv:T.length=ts.length+(if qs.length=2 then 1 else 0)):SolP (jY T R qs) 3 ts.length 1:=by
 refine⟨by simpa[jY]using hl,?_,?_⟩
 ·intro s hs2;obtain⟨i,hi,rfl⟩:=List.mem_map.1 hs2;obtain⟨x,hx⟩:=ax (List.mem_range.1 hi);obtain⟨r,tw,_⟩:=ct.ex;refine⟨⟨r,tw⟩,ct.two,?_,by simp[jk]⟩;intro p hp;unfold jk at hp;rw[aC hx]at hp;rw[List.mem_singleton.1 hp];exact(H x (mem_of_getElem? hx)).b.ok
 ·intro i s hi;unfold jY at hi;have hin:i < qs.length:=by have:=(List.getElem?_eq_some_iff.1 hi).1; simpa using this
  have e:s=jk T R qs i:=by simp[hin]at hi;exact hi.symm
  subst e;have hlen:(jY T R qs).length=qs.length:=by simp[jY]
  rw[hlen,if_neg (by decide)];refine⟨?_,lv,by simp[jk]⟩;show(if qs.length=1 then 0 else 1-2*(i:Int))=_
  by_cases h2:qs.length=2
  ·rw[if_neg oz,if_pos h2]
  ·rw[if_pos oz,if_neg h2]
theorem P3{l:Li}{a:As}(D:DyR l a)(hn:(llq a.rs).length<=1){g:Gr}{i z0 z1:Int}{j0 j:Jt}(P:SlP 3900000 l a g 3 i z0 z1 j0 j)(hj:j.b=i)(hb:Pd 3900000 a j.a):SolP (ki l a i j0 j) 3 (llq a.rs).length 1:=by
 obtain⟨tw,etw⟩:=db D.s.tr D.hc;have F:=B3 D hn P hj hb;unfold ki
 by_cases h1:ak (cA l a i j0 j)=0/\ak (qE (cG l i j0 j):Et (llq a.rs))=0
 ·rw[if_pos h1];exact mT _ _ _
 ·rw[if_neg h1]
  by_cases h2:ak (a9 l a i j0 j)<0
  ·rw[if_pos h2];exact mT _ _ _
  ·rw[if_neg h2];have hd0:ak (cA l a i j0 j)≠0:=vM tw h2 h1
   by_cases h3:0<ak (a9 l a i j0 j)
   ·rw[if_pos h3];obtain⟨E,R1,R2,_⟩:=D6 F tw hn hd0 oz;exact Fy (ts:=llq a.rs) (qs:=[bY (llq a.rs).length,sX (-bn (a9 l a i j0 j))]) E.cy (le_refl 2) (by show 1<=2;omega) (ke R1 R2) (dm (llq a.rs) (sX (a9 l a i j0 j)))
   ·rw[if_neg h3];obtain⟨cs,R0⟩:=G4 F tw hn hd0;exact Fy (ts:=llq a.rs) (qs:=[[]]) cs (by show 1<=2;omega) (le_refl 1) (gU R0) rfl
theorem Qq{E:Nat}(hE:E<=20000000000){l:Li}{a:As}(D:DyW l a)(h3:(llq a.rs).length<=2){i z0:Int}{j0:Jt}(h0:l.jo[z0.toNat]?=some j0)(p0:PinP E l a j0 i){x:Tn}(hq:Qb 1000 x.t.q):SolP (kv l a i j0 x) 0 (llq a.rs).length 1:=by
 obtain⟨tw,etw⟩:=db D.al.tr D.hc;unfold kv
 by_cases he:x.err≠0
 ·rw[if_pos he];exact mT _ _ _
 ·rw [if_neg he];refine ⟨by simp,gU ⟨⟨_,tw⟩,h3,gU (GV hE D h3 h0 p0 hq).ok,by show 1 <= 2; omega⟩,?_⟩;intro n s hs
  match n,hs with
  |0,hs=>cases hs;exact⟨rfl,rfl,rfl⟩
theorem Gs{E:Nat}(hE:E<=20000000000){l:Li}{k:Int}{a:As}{n:Nat}{g:Gr}{x:Tn}(D:DyW l a)(h3:(llq a.rs).length<=2)(ok:DyOk E l k a false n g)(hR:g.kind≠0->E=3900000/\DyS a)(hq:Qb 1000 x.t.q):SolP (eQ l a g x) g.kind (llq a.rs).length g.bo.length:=by
 unfold eQ
 by_cases hk0:g.kind=0
 ·obtain⟨i,z0,d,j0,e,hj0,p0⟩:=z7 ok hk0;rw[if_pos hk0,e];show SolP (kv l a i (l.jo.getD z0.toNat default) x) _ _ _;rw[aC hj0];exact Qq hE D h3 hj0 p0 hq
 ·rw[if_neg hk0];obtain⟨hE9,S⟩:=hR hk0;subst hE9;have D:DyR l a:=⟨D,S⟩
  have hn:=S.one D.hc
  by_cases hk1:g.kind=1
  ·obtain⟨i,k2,z0,z1,z2,j0,j1,j2,P⟩:=ok.rrr hk1;obtain⟨e0,e1,e2,b0,b1,_⟩:=P.at;rw[if_pos hk1,e0,e1,e2,b0,b1,hk1,P.eq];exact Of D hn P
  ·rw[if_neg hk1]
   by_cases hk2:g.kind=2
   ·obtain⟨i,z0,z1,j0,j,P,ha,hb⟩:=ok.pr hk2;obtain⟨e0,e1,b0,_⟩:=P.at;rw[if_pos hk2,e0,e1,b0,hk2,P.eq];exact In D hn P ha hb
   ·obtain⟨i,z0,z1,j0,j,P,_,hj,hb⟩:=ok.rp hk0 hk1 hk2;obtain⟨e0,e1,b0,hk3⟩:=P.at;rw[if_neg hk2,e0,e1,b0,hk3,P.eq];exact P3 D hn P hj hb
theorem T.inv_congr{r r':(k:Nat)->T k}:∀(k:Nat),(∀j,j<k->r j=r' j)->∀x,T.inv r k x=T.inv r' k x
 |0,_,x=>rfl
 |k+1,h,x=>by
  have ih:=T.inv_congr k (fun j hj=>h j oz);have hm:=T.mul_congr k (fun j hj=>h j oz);have hs:=T.sgn_congr k (fun j hj=>h j oz)
  have hn:T.norm r k x=T.norm r' k x:=by
   unfold T.norm;rw[h k oz];simp only[hm]
  conv=>lhs;unfold T.inv
  conv=>rhs;unfold T.inv
  simp only[ih,hm,hs,hn]
def ik{n N:Nat}(x:T n):T N:=ae N (sh n x)
section
variable{n N:Nat}{r r':(k:Nat)->T k}
theorem jl(x:T n):(ik x:T (n+1))=(x,T.zero n):=by
 unfold ik;rw[gN (dZ n x).le,a7]
theorem RK(hN:N=n+1)(h:∀j,j<n->r j=r' j)(x y:T n):(ik (T.mul r n x y):T N)=T.mul r' N (ik x) (ik y):=by
 subst hN;rw[jl,jl,jl,mul_low,T.zero_mul,T.mul_congr n h]
theorem K6(hN:N=n+1)(x y:T n):(ik (T.add n x y):T N)=T.add N (ik x) (ik y):=by
 subst hN;rw[jl,jl,jl];show(T.add n x y,T.zero n)=(T.add n x y,T.add n (T.zero n) (T.zero n));rw[T.zero_add]
theorem JB(hN:N=n+1)(x:T n):(ik (T.neg n x):T N)=T.neg N (ik x):=by
 subst hN;rw[jl,jl];show(T.neg n x,T.zero n)=(T.neg n x,T.neg n (T.zero n));rw[T.neg_zero]
theorem PD(hN:N=n+1)(q:Rat):(ik (T.ofQ n q):T N)=T.ofQ N q:=by
 subst hN;rw[jl];rfl
theorem Kt(hN:N=n+1)(h:∀j,j<n->r j=r' j)(x:T n):(ik (T.inv r n x):T N)=T.inv r' N (ik x):=by
 subst hN;rw[jl,jl,T.inv_low,T.inv_congr n h]
end
section
variable{ts:LL}(X:Et ts)
theorem En{l:List Rat}(j:Nat)(hj:j<ts.length):au ts j=au (aG ts l) j:=(v9 hj).symm
theorem eA(x y:Et ts):aK X (x*y)=aK X x*aK X y:=RK (dm _ _) En x y
theorem pN(x y:Et ts):aK X (x+y)=aK X x+aK X y:=K6 (dm _ _) x y
theorem B2(x:Et ts):aK X (-x)=-aK X x:=JB (dm _ _) x
theorem mJ(q:Rat):aK X (qE q)=qE q:=PD (dm _ _) q
theorem n7(x:Et ts):aK X (iE x)=iE (aK X x):=Kt (dm _ _) En x
end
theorem kX{ts:LL}:(qE ((1:Int):Rat):Et ts)=1:=rfl
theorem CC{ts:LL}:(qE ((-1:Int):Rat):Et ts)=-1:=by
 have h:=(T.ofQ_neg ts.length ((1:Nat):Rat))
 rw[show(((-1:Int):Rat))=-((1:Nat):Rat) by rfl];exact h
theorem zV{ts:LL}(d:Et ts):dP d=d+d:=by
 have h:(qE ((2:Int):Rat):Et ts)=1+1:=by
  have h:=T.ofQ_add ts.length ((1:Nat):Rat) ((1:Nat):Rat);rw[show(((2:Int):Rat))=((1:Nat):Rat)+((1:Nat):Rat) by decide +kernel];exact h
 unfold dP;rw[h];grind
theorem wM{ts:LL}:(qE 0:Et ts)=0:=rfl
section
variable{ts:LL}
theorem G1(p q:P2 ts)(z z2:Et ts):eF p q z z2=dF p ((qE ((1:Int):Rat)*iE (aD p q+aD p q))*(z+aD p q-z2)) (br q p):=by
 unfold eF fw dF;rw[zV,kX];refine Prod.ext ?_ ?_
 ·show p.1+(z+aD p q-z2)*iE (aD p q+aD p q)*(q.1-p.1)=p.1+1*iE (aD p q+aD p q)*(z+aD p q-z2)*(q.1-p.1);grind
 ·show p.2+(z+aD p q-z2)*iE (aD p q+aD p q)*(q.2-p.2)=p.2+1*iE (aD p q+aD p q)*(z+aD p q-z2)*(q.2-p.2);grind
def jZ(p q:P2 ts):P2 ts:=(qE ((1:Int):Rat)*iE (aD p q+aD p q)*(0-(br q p).2),qE ((1:Int):Rat)*iE (aD p q+aD p q)*(br q p).1)
theorem AM(X:Et ts)(f p q:P2 ts):gL X f (fw p q) (dN X (aD p q))=(aK X f.1+bn X*aK X (jZ p q).1,aK X f.2+bn X*aK X (jZ p q).2):=by
 unfold gL dF dN jZ;rw[zV,CC];refine Prod.ext ?_ ?_
 ·show aK X f.1+bn X*iE (aK X (aD p q+aD p q))*(-1*aK X (q.2-p.2))=aK X f.1+bn X*aK X (qE ((1:Int):Rat)*iE (aD p q+aD p q)*(0-(q.2-p.2)));rw[eA,eA,mJ,n7,show(0:Et ts)-(q.2-p.2)=-(q.2-p.2) by grind,B2,kX];grind
 ·show aK X f.2+bn X*iE (aK X (aD p q+aD p q))*aK X (q.1-p.1)=aK X f.2+bn X*aK X (qE ((1:Int):Rat)*iE (aD p q+aD p q)*(q.1-p.1));rw[eA,eA,mJ,n7,kX];grind
theorem HE(X:Et ts)(f p q:P2 ts):gL X f (fw p q) (qE ((-1:Int):Rat)*dN X (aD p q))=(aK X f.1-bn X*aK X (jZ p q).1,aK X f.2-bn X*aK X (jZ p q).2):=by
 have h:=AM X f p q;have h1:=congrArg Prod.fst h;have h2:=congrArg Prod.snd h;unfold gL dF at h1 h2 ⊢;rw[CC]at h1 h2 ⊢;dsimp only at h1 h2;refine Prod.ext ?_ ?_
 ·dsimp only;grind
 ·dsimp only;grind
def jx(p q:P2 ts):P2 ts:=(qE ((1:Int):Rat)*iE (bp p q)*(br q p).1,qE ((1:Int):Rat)*iE (bp p q)*(br q p).2)
theorem El(X:Et ts)(p q c:P2 ts):jU X p (br q p) (fa X (bp p q) (aK X (bN p q c)+bn X)) =
  (aK X (dF p (bN p q c*iE (bp p q)) (br q p)).1+bn X*aK X (jx p q).1,aK X (dF p (bN p q c*iE (bp p q)) (br q p)).2+bn X*aK X (jx p q).2):=by
 unfold jU fa jx dF;refine Prod.ext ?_ ?_
 ·dsimp only;rw[pN,eA,eA,eA,eA,n7,mJ,kX];grind
 ·dsimp only;rw[pN,eA,eA,eA,eA,n7,mJ,kX];grind
theorem G5(X:Et ts)(p q c:P2 ts):jU X p (br q p) (fa X (bp p q) (aK X (bN p q c)-bn X)) =
  (aK X (dF p (bN p q c*iE (bp p q)) (br q p)).1-bn X*aK X (jx p q).1,aK X (dF p (bN p q c*iE (bp p q)) (br q p)).2-bn X*aK X (jx p q).2):=by
 unfold jU fa jx dF;refine Prod.ext ?_ ?_
 ·dsimp only;rw[pN,eA,eA,eA,eA,n7,mJ,kX];grind
 ·dsimp only;rw[pN,eA,eA,eA,eA,n7,mJ,kX];grind
theorem vP(r:(k:Nat)->T k):∀(n:Nat)(q:Rat),T.inv r n (T.ofQ n q)=T.ofQ n (1/q)
 |0,q=>rfl
 |n+1,q=>by
  show T.inv r (n+1) (T.ofQ n q,T.zero n)=(T.ofQ n (1/q),T.zero n);rw[T.inv_low,vP r n q]
theorem zP:(iE (qE 1):Et ts)=1:=by
 show T.inv (au ts) ts.length (T.ofQ ts.length 1)=_;rw[vP,show(1:Rat)/1=((1:Nat):Rat) by decide +kernel];rfl
end
theorem xy(r:(k:Nat)->T k)(q:Rat):∀(k:Nat){a c:List Rat},(∀i,i<2^k->c.getD i 0=q*a.getD i 0)->ae k c=T.mul r k (T.ofQ k q) (ae k a)
 |0,a,c,h=>h 0 (by decide)
 |k+1,a,c,h=>by
  have h1:=xy r q k (a:=a.take (2^k)) (c:=c.take (2^k)) (fun i hi=>by rw[j9,j9,if_pos hi,if_pos hi];exact h i (by rw[Nat.pow_succ];omega));have h2:=xy r q k (a:=a.drop (2^k)) (c:=c.drop (2^k)) (fun i hi=>by rw[jS,jS];exact h _ (by rw[Nat.pow_succ];omega));show(ae k (c.take (2^k)),ae k (c.drop (2^k)))=T.mul r (k+1) (T.ofQ k q,T.zero k) (ae k (a.take (2^k)),ae k (a.drop (2^k)));rw[T.mul_comm,T.mul_half,h1,h2,T.mul_comm r k (ae k (a.take _)),T.mul_comm r k (ae k (a.drop _))]
section
variable{ts:LL}
def Bz(e:Nat)(x:Et ts):Prop:=Nm ts.length e (sX x)
theorem Bz.mono{e f:Nat}{x:Et ts}(h:Bz e x)(hf:e<=f):Bz f x:=Nm.mono h hf
theorem Bz.add{e f:Nat}{x y:Et ts}(hx:Bz e x)(hy:Bz f y):Bz (e+f+1) (x+y):=Nm.addT hx hy
theorem Bz.sub{e f:Nat}{x y:Et ts}(hx:Bz e x)(hy:Bz f y):Bz (e+f+1) (x-y):=Nm.subT hx hy
theorem Bz.neg{e:Nat}{x:Et ts}(hx:Bz e x):Bz e (-x):=Nm.negT hx
theorem Bz.mul{r K e f:Nat}(tw:Tw ts r)(hK:eB r ts.length<=K){x y:Et ts}(hx:Bz e x)(hy:Bz f y):Bz (e+f+K) (x*y):=by
 have h:=Nm.mul tw rfl hx hy;have e1:∀z:Et ts,ae ts.length (sX z)=z:=fun z=>a7 _ _
 rw[e1,e1]at h;exact Nm.mono h (Nat.add_le_add_left hK _)
theorem Bz.q{e:Nat}{q:Rat}(h5:ts.length<=5)(hq:Cb e [q]):Bz e (qE q:Et ts):=by
 unfold Bz;rw[ql];exact Nm.ofQ h5 hq
theorem Bz.qm{e f:Nat}{q:Rat}{x:Et ts}(hq:Cb e [q])(hx:Bz f x):Bz (e+f) (qE q*x):=by
 obtain⟨D,N,h1,h2,h3⟩:=hq;obtain⟨D',N',k1,k2,k3⟩:=hx.cb;obtain⟨n,hn,hN⟩:=h1.2 q (List.mem_singleton.2 rfl);have hx2:ae ts.length (sX x)=x:=a7 _ _
 have hd:ae ts.length ((sX x).map (q*·))=T.mul (au ts) ts.length (T.ofQ ts.length q) (ae ts.length (sX x)):=xy _ q _ (fun i _=>by
  rw[getD_eq_getElem?_getD,getElem?_map,getD_eq_getElem?_getD];cases(sX x)[i]? with
  |none=>exact(Rat.mul_zero q).symm
  |some v=>rfl)
 rw[hx2]at hd
 have hc:Cb (e+f) ((sX x).map (q*·)):=by
  refine⟨D*D',N*N',⟨Nat.mul_pos h1.1 k1.1,?_⟩,?_,?_⟩
  ·intro z hz;obtain⟨y,hy,rfl⟩:=List.mem_map.1 hz;obtain⟨m,hm,hM⟩:=k1.2 y hy;refine⟨n*m,?_,?_⟩
   ·rw[Int.natCast_mul,Rat.intCast_mul,Rat.intCast_mul,<- hn,<- hm];grind
   ·rw[Int.natAbs_mul];exact Nat.mul_le_mul hN hM
  ·rw[pow_add];exact Nat.mul_le_mul h2 k2
  ·rw[pow_add];exact Nat.mul_le_mul h3 k3
 have hnl:Nl ts.length ((sX x).map (q*·)):=by
  rcases hx.nl with h |⟨j,hj,h⟩
  ·exact .inl (by rw[h];rfl)
  ·exact .inr ⟨j,hj,by rw[length_map];exact h⟩
 refine⟨hx.five,dZ _ _,?_⟩;have:=hc.sh hnl;rw[hd]at this;exact this
theorem Bz.mq{e f:Nat}{q:Rat}{x:Et ts}(hx:Bz f x)(hq:Cb e [q]):Bz (e+f) (x*qE q):=by
 rw[show x*qE q=qE q*x by grind];exact hx.qm hq
theorem Bz.iq{e f:Nat}{q:Rat}{x:Et ts}(hx:Bz f x)(hq:Cb e [q])(h0:q≠0):Bz (e+f) (x*iE (qE q)):=by
 have h:(iE (qE q):Et ts)=qE (1/q):=vP _ _ q;rw[h];exact hx.mq (hq.inv1 h0)
theorem Bz.iv{r f j I:Nat}{y:Et ts}(tw:Tw ts r)(hy:Bz f y)(nb:Nl j (sX y))(hj:j<=ts.length)(h0:ak y≠0)(hI:iB r j f<=I)(hs:I<=50000000000):Bz I (iE y):=by
 have hf:=zL r j f;have hl:=iJ ts.length;have e1:ae ts.length (sX y)=y:=a7 _ _;obtain⟨L,_,k2,k3,k4⟩:=xa (b:=sX y) tw hy hj nb (by rw[e1];exact h0) oz oz;rw[e1]at k4;have:=k3.sh k2;rw[k4]at this;exact⟨tw.five,dZ _ _,this.mono hI⟩
structure Pz(n ec ex:Nat)(p:Pq):Prop where
  c:Nm n ec p.c
  s:Nm n ec p.s
  x:Nm n ex p.x
  y:Nm n ex p.y
theorem Pz.mono{n n' a b a' b':Nat}{p:Pq}(h:Pz n a b p)(hn:n<=n')(h5:n'<=5)(ha:a<=a')(hb:b<=b'):Pz n' a' b' p :=
 ⟨⟨h5,h.c.nl.mono hn,h.c.cb.mono ha⟩,⟨h5,h.s.nl.mono hn,h.s.cb.mono ha⟩,⟨h5,h.x.nl.mono hn,h.x.cb.mono hb⟩,⟨h5,h.y.nl.mono hn,h.y.cb.mono hb⟩⟩
theorem ED{s t e f:Nat}{u p:Rat×Rat}{w o:P2 ts}(hu:Sm t u)(hp:Sm s p)(h0:bQ u u≠0)(w1:Bz e w.1)(w2:Bz e w.2)(o1:Bz f o.1)(o2:Bz f o.2) :
  Pz ts.length (2*e+6*t+2) (f+4*e+12*t+2*s+6) (gB u w p o):=by
 have u1:=Cb.one hu.x;have u2:=Cb.one hu.y;have p1:=Cb.one hp.x;have p2:=Cb.one hp.y;have n:=Cb.one (hu.dot hu);have c:=(((w1.qm u1).add (w2.qm u2)).iq n h0).mono (f:=2*e+6*t+2) oz;have d:=(((w2.qm u1).sub (w1.qm u2)).iq n h0).mono (f:=2*e+6*t+2) oz;exact⟨c,d,(o1.sub ((c.mq p1).sub (d.mq p2))).mono oz,(o2.sub ((d.mq p1).add (c.mq p2))).mono oz⟩
theorem oU{a:List Rat}{e:Nat}(h:Nm ts.length e a):Bz e (dE ts a):=by
 have:=h.cb.sh h.nl;exact⟨h.five,dZ _ _,this⟩
theorem Iv{s f:Nat}{p:Rat×Rat}{c d:Rat}{o:P2 ts}{g:Nat}(hc:Cb g [c])(hd:Cb g [d])(hp:Sm s p)(h5:ts.length<=5)(o1:Bz f o.1)(o2:Bz f o.2) :
  Pz ts.length (g+1) (f+2*g+2*s+4) (gB (((1:Int):Rat),0) ((qE c,qE d):P2 ts) p o):=by
 have e0:∀x:Et ts,(qE ((1:Int):Rat):Et ts)*x=x:=fun x=>by
  have:(qE ((1:Int):Rat):Et ts)=1:=rfl;rw[this];grind
 have e1:∀x:Et ts,(qE (0:Rat):Et ts)*x=0:=fun x=>by
  have:(qE (0:Rat):Et ts)=0:=rfl;rw[this];grind
 have e2:(iE (jC (((1:Int):Rat),0)):Et ts)=1:=by
  show iE (qE (bQ (((1:Int):Rat),0) (((1:Int):Rat),0)))=_;rw[show bQ (((1:Int):Rat),(0:Rat)) (((1:Int):Rat),(0:Rat))=1 by decide +kernel];exact zP
 have ec:dg (((1:Int):Rat),0) ((qE c,qE d):P2 ts)=qE c:=by
  unfold dg;rw[e0,e1,e2];grind
 have ed:da (((1:Int):Rat),0) ((qE c,qE d):P2 ts)=qE d:=by
  unfold da;rw[e0,e1,e2];grind
 have p1:=Cb.one hp.x;have p2:=Cb.one hp.y;have c1:Bz g (qE c:Et ts):=Bz.q h5 hc;have d1:Bz g (qE d:Et ts):=Bz.q h5 hd;refine⟨?_,?_,?_,?_⟩
 ·show Bz _ (dg _ _);rw[ec];exact c1.mono oz
 ·show Bz _ (da _ _);rw[ed];exact d1.mono oz
 ·show Bz _ (pg _ _ p o);unfold pg;rw[ec,ed];exact(o1.sub ((c1.mq p1).sub (d1.mq p2))).mono oz
 ·show Bz _ (qk _ _ p o);unfold qk;rw[ec,ed];exact(o2.sub ((d1.mq p1).add (c1.mq p2))).mono oz
structure Xz(ts:LL)(r X:Nat)(us:LL):Prop where
  tw:Tw us (r+X)
  up:ts.length<=us.length
  ln:us.length<=ts.length+1
theorem wL{r X:Nat}(tw:Tw ts r)(hx:r+X<=5000000000):Xz ts r X ts:=⟨⟨tw.three,tw.len,tw.pos,tw.rb.mono oz,hx⟩,le_refl _,by omega⟩
theorem uY{r X:Nat}(tw:Tw ts r)(hn:ts.length<=1)(hx:r+X<=5000000000){x:Et ts}(h:Bz X x)(hs:0<=ak x):Xz ts r X (aG ts (sX x)) :=
 ⟨Ax tw oz h hx (by rw[show ae ts.length (sX x)=x from a7 _ _];exact hs),by rw[dm];omega,by rw[dm];omega⟩
theorem Bz.up{e:Nat}{X x:Et ts}(h:Bz e x)(hn:ts.length<=1):Bz e (aK X x):=by
 have h1:Nm (aG ts (sX X)).length e (sX x):=lF h oz;exact oU h1
structure Szs(n r a b X K K' I J:Nat):Prop where
  n1:n<=1
  hK:eB r n<=K
  hX:24*a+8*K+5*b+23<=X
  hL:r+X<=5000000000
  hK':eB (r+X) (n+1)<=K'
  hI:iB r n (8*a+2*K+8)<=I
  hJ:iB (r+X) n (8*a+2*K+8)<=J
  hJ':J<=50000000000
  kk:K<=K'
  ij:I<=J
theorem Szs.kx{n r a b X K K' I J:Nat}(h:Szs n r a b X K K' I J){us:LL}(hu:us.length<=n+1):eB (r+X) us.length<=K':=le_trans (gT _ hu) h.hK'
section
variable{r a b X K K' I J:Nat}(Z:Szs ts.length r a b X K K' I J)(tw:Tw ts r)
include Z tw
theorem zi{p q:P2 ts}(p1:Bz a p.1)(p2:Bz a p.2)(q1:Bz a q.1)(q2:Bz a q.2):Bz (8*a+2*K+5) (pj (br q p) (br q p)):=by
 have v1:=q1.sub p1;have v2:=q2.sub p2;exact((v1.mul tw Z.hK v1).add (v2.mul tw Z.hK v2)).mono oz
theorem yb{y:Et ts}(hy:Bz (8*a+2*K+8) y)(h0:ak y≠0):Bz I (iE y) :=
 hy.iv tw (dZ _ _) (le_refl _) h0 Z.hI (by have:=Z.ij;have:=Z.hJ';omega)
theorem AP{x y:Et ts}(hx:Bz X x)(hs:0<=ak x)(hy:Bz (8*a+2*K+8) y)(h0:ak y≠0):Bz J (iE (aK x y)):=by
 have E:=uY tw Z.n1 Z.hL hx hs
 have e1:sX (aK x y)=sX y:=by
  have:=(vK (X:=x) Z.n1 _ y hy).2;exact this
 refine(hy.up Z.n1).iv E.tw (j:=ts.length) (by rw[e1];exact dZ _ _) E.up (by rw[no];exact h0) Z.hJ Z.hJ'
theorem yG{x:Et ts}:Bz 1 (dE (aG ts (sX x)) (bY ts.length)):=by have _:=tw;exact oU (qW (by have:=Z.n1;omega))
theorem PX{p q:P2 ts}{z z2:Et ts}(p1:Bz a p.1)(p2:Bz a p.2)(q1:Bz a q.1)(q2:Bz a q.2)(hz:Bz b z)(hz2:Bz b z2)(h0:fu p q z z2=0) :
  Xz ts r X (eJ p q z z2).ts/\∀m∈(eJ p q z z2).ps,Nm (eJ p q z z2).ts.length (13*a+2*b+5*K+2*K'+I+J+20) m.1/\Nm (eJ p q z z2).ts.length (13*a+2*b+5*K+2*K'+I+J+20) m.2:=by
 have hn:=Z.n1;have hkk:=Z.kk;have hd:Bz (8*a+2*K+5) (aD p q):=zi Z tw (p:=q) (q:=p) q1 q2 p1 p2;have hm:=(hz.add hd).sub hz2;have q4:Cb 3 [((4:Int):Rat)]:=Cb.int (z:=4) (by decide);have q2':Cb 2 [((2:Int):Rat)]:=Cb.int (z:=2) (by decide);have qm1:Cb 1 [((-1:Int):Rat)]:=Cb.int (z:=-1) (by decide)
 have hX:Bz X (bu p z q z2):=by
  have h:=((hz.mul tw Z.hK hd).qm q4).sub (hm.mul tw Z.hK hm);have h2:=h.mono (f:=X) (by have:=Z.hX;omega);exact h2
 have same:=wL (X:=X) tw Z.hL;have v1:=q1.sub p1;have v2:=q2.sub p2;unfold fu lg at h0;unfold eJ lB
 by_cases hs:ak (aD p q)=0
 ·rw[if_pos hs]at h0 ⊢
  by_cases hz0:ak (z-z2)≠0
  ·rw[if_pos hz0];exact⟨same,fun m hm=>by cases hm⟩
  ·rw[if_neg hz0]
   by_cases hp:0<ak z
   ·rw[if_pos ⟨Decidable.not_not.1 hz0,hp⟩]at h0;cases h0
   ·rw[if_neg hp]
    have n0:Bz 0 (0:Et ts):=by
     have:=Bz.q (ts:=ts) (e:=0) (q:=0) oz (Cb.int (z:=0) (by decide));exact this
    refine⟨same,gU ⟨?_,?_⟩⟩
    ·exact(p1.add (n0.mul tw Z.hK p1)).mono (f:=13*a+2*b+5*K+2*K'+I+J+20) oz
    ·exact(p2.add (n0.mul tw Z.hK p2)).mono (f:=13*a+2*b+5*K+2*K'+I+J+20) oz
 ·rw [if_neg hs];have ht0:ak (dP (aD p q)) ≠ 0:=by rw [uB tw]; exact hs
  have ht:Bz (8*a+2*K+8) (dP (aD p q)):=Bz.mono (e:=2+(8*a+2*K+5)) (hd.qm q2') oz
  by_cases hx0:ak (bu p z q z2)<0
  ·rw[if_pos hx0];exact⟨same,fun m hm=>by cases hm⟩
  ·rw[if_neg hx0];have hk:=hm.mul tw Z.hK (yb Z tw ht ht0);have f1:Bz (11*a+2*b+4*K+I+10) (eF p q z z2).1:=(p1.add (hk.mul tw Z.hK v1)).mono oz;have f2:Bz (11*a+2*b+4*K+I+10) (eF p q z z2).2:=(p2.add (hk.mul tw Z.hK v2)).mono oz
   by_cases hx1:ak (bu p z q z2)=0
   ·rw[if_pos hx1];exact⟨same,gU ⟨f1.mono oz,f2.mono oz⟩⟩
   ·rw [if_neg hx1];have hpos:0 <= ak (bu p z q z2):=by omega
    have E:=uY tw hn Z.hL hX hpos;have hkx:=Z.kx E.ln;have s1:=(yG Z tw (x:=bu p z q z2)).mul E.tw hkx (AP Z tw hX hpos ht ht0);have s2:=s1.qm qm1;have w1:=(v2.up (X:=bu p z q z2) hn).qm qm1;have w2:=v1.up (X:=bu p z q z2) hn;have g1:=f1.up (X:=bu p z q z2) hn;have g2:=f2.up (X:=bu p z q z2) hn;exact⟨E,ke ⟨(g1.add (s1.mul E.tw hkx w1)).mono oz,(g2.add (s1.mul E.tw hkx w2)).mono oz⟩ ⟨(g1.add (s2.mul E.tw hkx w1)).mono oz,(g2.add (s2.mul E.tw hkx w2)).mono oz⟩⟩
theorem JL{p q o:P2 ts}{z:Et ts}(p1:Bz a p.1)(p2:Bz a p.2)(q1:Bz a q.1)(q2:Bz a q.2)(o1:Bz a o.1)(o2:Bz a o.2)(hz:Bz b z)(h0:fF p q=0) :
  Xz ts r X (eG p q o z).ts/\∀m∈(eG p q o z).ps,Nm (eG p q o z).ts.length (13*a+2*b+5*K+2*K'+I+J+20) m.1/\Nm (eG p q o z).ts.length (13*a+2*b+5*K+2*K'+I+J+20) m.2:=by
 have hn:=Z.n1;have hkk:=Z.kk;have hS:=(zi Z tw p1 p2 q1 q2)
 have v1:=q1.sub p1;have v2:=q2.sub p2;have w1:=o1.sub p1;have w2:=o2.sub p2;have hE:Bz (8*a+2*K+5) (bN p q o):=((v1.mul tw Z.hK w1).add (v2.mul tw Z.hK w2)).mono oz;have hC:Bz (8*a+2*K+5) (gY p q o):=((v1.mul tw Z.hK w2).sub (v2.mul tw Z.hK w1)).mono oz;have hX:Bz X (aT p q o z):=((hS.mul tw Z.hK hz).sub (hC.mul tw Z.hK hC)).mono (by have:=Z.hX;omega);have same:=wL (X:=X) tw Z.hL;unfold fF at h0;unfold eG
 by_cases hs:ak (bp p q)=0
 ·rw[if_pos hs]at h0;cases h0
 ·rw[if_neg hs]
  by_cases h1:ak (aT p q o z)=-1
  ·rw[if_pos h1];exact⟨same,fun m hm=>by cases hm⟩
  ·rw[if_neg h1]
   by_cases h2:ak (aT p q o z)=0
   ·rw[if_pos h2];have hk:=hE.mul tw Z.hK (yb Z tw (hS.mono oz) hs);exact⟨same,gU ⟨(p1.add (hk.mul tw Z.hK v1)).mono (f:=13*a+2*b+5*K+2*K'+I+J+20) oz,(p2.add (hk.mul tw Z.hK v2)).mono (f:=13*a+2*b+5*K+2*K'+I+J+20) oz⟩⟩
   ·rw[if_neg h2]
    have hpos:0<=ak (aT p q o z):=by
     have:=T.sgn_cases (au ts) ts.length (aT p q o z);have e:ak (aT p q o z)=T.sgn (au ts) ts.length (aT p q o z):=rfl;omega
    have E:=uY tw hn Z.hL hX hpos;have hkx:=Z.kx E.ln;have hi:=AP Z tw hX hpos (hS.mono oz) hs;have rt:=yG Z tw (x:=aT p q o z);have k1:=((hE.up (X:=aT p q o z) hn).add rt).mul E.tw hkx hi;have k2:=((hE.up (X:=aT p q o z) hn).sub rt).mul E.tw hkx hi;have g1:=p1.up (X:=aT p q o z) hn;have g2:=p2.up (X:=aT p q o z) hn;have u1:=v1.up (X:=aT p q o z) hn;have u2:=v2.up (X:=aT p q o z) hn;exact⟨E,ke ⟨(g1.add (k1.mul E.tw hkx u1)).mono oz,(g2.add (k1.mul E.tw hkx u2)).mono oz⟩ ⟨(g1.add (k2.mul E.tw hkx u1)).mono oz,(g2.add (k2.mul E.tw hkx u2)).mono oz⟩⟩
end
end
end Go.Lw
