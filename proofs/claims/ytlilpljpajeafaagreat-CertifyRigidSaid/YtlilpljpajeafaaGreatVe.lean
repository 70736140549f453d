/- CertifyRigid: for any linkage, any turns and any three places the law returns true and leaves its arguments as they were. No other condition. Part 5 of 8: what the later parts need -/
import Derived.Test.YtlilpljpajeafaaGreatVd
import Derived.Test.YtlilpljpajeafaaGreatRows
set_option linter.unusedVariables false
open List (mem_of_getElem? mem_append map_cons mem_cons length_cons length_append length_nil getD_eq_getElem?_getD all_eq_true getElem?_map getElem?_replicate append_nil map_append length_take take_of_length_le drop_zero take_length not_mem_nil length_map mem_of_mem_take map_take all_append length_replicate map_replicate map_set length_set)
open Nat (eq_of_beq_eq_true le_refl lt_or_ge le_trans zero_le)
open Option (map_eq_some_iff)
open Bool (and_eq_true)
open Int (toNat_natCast natAbs_natCast)
open Go.Proofs.Tryz
namespace Go.Lw
open Go.Proofs
section
variable{W:World}{H:Type}{enc:TypeId×Value->H}
theorem SD:cD prog W enc 349 (fun n:Nat=>u32 n) (fun n=>n<4294967296) :=
 (yY (k:=.u32) Tryz.underlying349).map Int.toNat _ _ (fun n h=>by
  have h1:0<=n/\n<=4294967295:=by simpa[Lit.wf,IntKind.min,IntKind.max,IntKind.signed,IntKind.bits]using h
  have h2:((n.toNat:Nat):Int)=n:=by omega
  exact⟨by omega,by unfold u32;rw[h2]⟩)
theorem DP:cD prog W enc 43 ws (fun l=>Ws l/\l.length<=281474976710656) :=
 (p7 Tryz.underlying43 (n:=1) (by kernel_rfl) oz (by kernel_rfl) SD (fun _=>rfl)).map id _ _ (fun l h=>⟨⟨fun x hx=>h.1 x hx,h.2⟩,rfl⟩)
theorem Ee:cD prog W enc 4 bl (fun _=>True):=Qf Tryz.underlying4
theorem oK:cD prog W enc 3 i64 (fun _=>True):=(yY (k:=.i64) Tryz.underlying3).map id _ _ (fun n h=>⟨trivial,rfl⟩)
theorem rq:cD prog W enc 9 (fun s:ByteArray=>AV.v (.string s)) (fun s=>s.size<=281474976710656):=TF Tryz.underlying9
theorem zL:cD prog W enc 45 Rt.av Rt.wok :=
 (oi (n := 3) Tryz.underlying45 (by kernel_rfl)
  (.cons rfl (n:=1) (by kernel_rfl) Ee (fun _=>rfl) (.cons rfl (n:=1) (by kernel_rfl) DP (fun _=>rfl) (.cons rfl (n:=1) (by kernel_rfl) DP (fun _=>rfl) (.nil _)))) (fun _=>rfl)).map
  (fun z=>⟨z.1,z.2.1,z.2.2.1⟩) _ _ (fun z h=>⟨⟨h.2.1.1,h.2.2.1.1⟩,rfl⟩)
theorem Lr:cD prog W enc 47 Tn.av (fun x=>x.t.wok) :=
 (oi (n := 4) Tryz.underlying47 (by kernel_rfl) (.cons rfl (n := 3) (by kernel_rfl) zL (fun _ => rfl) (.cons rfl (n := 1) (by kernel_rfl) Ee (fun _ => rfl) (.nil _))) (fun _ => rfl)).map
  (fun z=>⟨z.1,z.2.1⟩) _ _ (fun z h=>⟨h.1,rfl⟩)
theorem N6:cD prog W enc 122 Mk.av (fun m=>m.name.size<=281474976710656/\m.x.wok/\m.y.wok) :=
 (oi (n := 7) Tryz.underlying122 (by kernel_rfl)
  (.cons rfl (n:=1) (by kernel_rfl) rq (fun _=>rfl) (.cons rfl (n:=3) (by kernel_rfl) zL (fun _=>rfl) (.cons rfl (n:=3) (by kernel_rfl) zL (fun _=>rfl) (.nil _)))) (fun _=>rfl)).map
  (fun z=>⟨z.1,z.2.1,z.2.2.1⟩) _ _ (fun z h=>⟨⟨h.1,h.2.1,h.2.2.1⟩,rfl⟩)
theorem Uy:cD prog W enc 120 Bd.av (fun b=>b.name.size<=281474976710656/\b.pts.length<=281474976710656/\∀m∈b.pts,m.name.size<=281474976710656/\m.x.wok/\m.y.wok) :=
 (oi (n := 2) Tryz.underlying120 (by kernel_rfl)
  (.cons rfl (n:=1) (by kernel_rfl) rq (fun _=>rfl) (.cons rfl (n:=1) (by kernel_rfl) (p7 Tryz.underlying118 (n:=7) (by kernel_rfl) oz (by kernel_rfl) N6 (fun _=>rfl)) (fun _=>rfl) (.nil _))) (fun _=>rfl)).map
  (fun z=>⟨z.1,z.2.1⟩) _ _ (fun z h=>⟨⟨h.1,h.2.1.2,h.2.1.1⟩,rfl⟩)
theorem Qg:cD prog W enc 75 Jt.av (fun j=>j.name.size<=281474976710656) :=
 (oi (n := 7) Tryz.underlying75 (by kernel_rfl)
  (.cons rfl (n := 1) (by kernel_rfl) rq (fun _ => rfl) (.cons rfl (n := 1) (by kernel_rfl) oK (fun _ => rfl) (.cons rfl (n := 1) (by kernel_rfl) oK (fun _ => rfl) (.cons rfl (n := 1) (by kernel_rfl) oK (fun _ => rfl)
   (.cons rfl (n:=1) (by kernel_rfl) oK (fun _=>rfl) (.cons rfl (n:=1) (by kernel_rfl) oK (fun _=>rfl) (.cons rfl (n:=1) (by kernel_rfl) oK (fun _=>rfl) (.nil _)))))))) (fun _=>rfl)).map
  (fun z=>⟨z.1,z.2.1,z.2.2.1,z.2.2.2.1,z.2.2.2.2.1,z.2.2.2.2.2.1,z.2.2.2.2.2.2.1⟩) _ _ (fun z h=>⟨h.1,rfl⟩)
theorem UM:cD prog W enc 94 Dr.av (fun d=>d.name.size<=281474976710656) :=
 (oi (n := 2) Tryz.underlying94 (by kernel_rfl) (.cons rfl (n := 1) (by kernel_rfl) rq (fun _ => rfl) (.cons rfl (n := 1) (by kernel_rfl) oK (fun _ => rfl) (.nil _))) (fun _ => rfl)).map
  (fun z=>⟨z.1,z.2.1⟩) _ _ (fun z h=>⟨h.1,rfl⟩)
abbrev JX(l:Li):List AV:=[.v (.string l.name),.lst 2 (l.bo.map Bd.av),.lst 7 (l.jo.map Jt.av),.lst 2 (l.dv.map Dr.av)]
theorem PL:cD prog W enc 26 (fun l:Li=>.agg (JX l)) Li.okw :=
 (oi (n := 4) Tryz.underlying26 (by kernel_rfl)
  (.cons rfl (n := 1) (by kernel_rfl) rq (fun _ => rfl)
   (.cons rfl (n := 1) (by kernel_rfl) (p7 Tryz.underlying22 (n := 2) (by kernel_rfl) oz (by kernel_rfl) Uy (fun _ => rfl)) (fun _ => rfl)
    (.cons rfl (n := 1) (by kernel_rfl) (p7 Tryz.underlying23 (n := 7) (by kernel_rfl) oz (by kernel_rfl) Qg (fun _ => rfl)) (fun _ => rfl)
     (.cons rfl (n:=1) (by kernel_rfl) (p7 Tryz.underlying24 (n:=2) (by kernel_rfl) oz (by kernel_rfl) UM (fun _=>rfl)) (fun _=>rfl) (.nil _))))) (fun _=>rfl)).map
  (fun z=>⟨z.1,z.2.1,z.2.2.1,z.2.2.2.1⟩) _ _ (fun z h=>⟨⟨h.1,h.2.1.1,h.2.2.1.1,h.2.2.2.1.1,h.2.1.2,h.2.2.1.2,h.2.2.2.1.2⟩,rfl⟩)
theorem VQ:cD prog W enc 84 (fun l:List Tn=>.lst 4 (l.map Tn.av)) (fun l=>(∀x∈l,x.t.wok)/\l.length<=281474976710656) :=
 p7 Tryz.underlying84 (n:=4) (by kernel_rfl) oz (by kernel_rfl) Lr (fun _=>rfl)
theorem NJ:cD prog W enc 5 (fun n:Nat=>AV.v (.int .u8 n)) (fun n=>n<256) :=
 (yY (k:=.u8) Tryz.underlying5).map Int.toNat _ _ (fun n h=>by
  have h1:0<=n/\n<=255:=by simpa[Lit.wf,IntKind.min,IntKind.max,IntKind.signed,IntKind.bits]using h
  have h2:((n.toNat:Nat):Int)=n:=by omega
  exact⟨by omega,by rw[h2]⟩)
end
open Go.Proofs Go.Proofs.YtlilpljpajeafaaGreat
open Go.ChangeShapes Go.WideShapes Go.ChangeAt Go.RowKit
theorem own:ownKnob prog.godebug=none:=by kernel_rfl
theorem Fj:laidOutB prog=true:=by kernel_rfl
theorem Kt:prog.stopsHeard=true:=by kernel_rfl
theorem U2:prog.plainKeys=true:=by kernel_rfl
theorem Qv:mapsRowed prog=true:=by kernel_rfl
theorem Ot:prog.mayEnter=true:=by kernel_rfl
theorem L5:prog.liftsFinal=false:=by kernel_rfl
theorem PT{v:Value}(h:∀cs,v≠.agg cs):v.cells=#[v]:=by
 cases v <;> first |rfl |exact absurd rfl (h _)
theorem PY{P:Program}{W:World}{r:Reach}{b0:Nat}{t e:TypeId}{v:Value}(ht:P.underlying t=some (.slice e))(hval:Value.okWide P W r b0 t v):v.cells=#[v]:=by
 refine PT (fun cs h=>?_);subst h;unfold Value.okWide at hval;rw[ht]at hval;unfold Cell.okWide at hval;rw[ht]at hval;unfold Cell.ok at hval;rw[ht]at hval;exact hval
theorem z5{H:Type}{enc:TypeId×Value->H}{W W':World}{t:TypeId}{v:Value}{d:DataW H}{ps:List MemPlace}{sp':Nat->Bool}(hr:prog.readableRec t=true)(ht:t<prog.types.size)
  (h:DataW.Trod enc prog W 0 (fun _=>true) true t v d ps) (hb:Below W.heap.size W W') (hlt:∀x∈ps,x.block<W.heap.size) (hs:∀p∈ps,sp' p.block=true):DataW.Trod enc prog W' 0 sp' true t v d ps :=
 WideElems.Trod_stays Fj hr ht h (fun x hx=>hb.same (hlt x hx)) hs
end Go.Lw
namespace Go.Lw
open Go.Proofs
theorem Fk(m:List Nat)(hm:Ws m)(hl:m.length<=ft):FP 290 [ws m] (bl (!decide (m=[])&&(⟨false,m⟩:Wh).valid)):=by
 refine ah func290 ?_;refine gl ?_;refine ci ?_;refine oP (fun h=>(jE (by simp[aa]at h;omega) (by unfold ft at hl;unfold aS;exact le_trans hl oz))) ?_;refine nI (fun h=>(b7 (i:=m.length-1) (by simp[aa]at h;omega))) ?_;refine ae ?_
 by_cases h:m=[]
 ·subst h;rfl
 ·have h1:0 < m.length:=List.length_pos_iff.2 h;have h2:aa .gtr (m.length:Int) 0 = true:=by simp [aa,h1]
  simp only[bl,h,decide_false,Bool.not_false,Bool.true_and,Wh.valid,List.getLast?_eq_getElem?,je (show m.length-1<m.length by omega),aa];congr 2;generalize af m _=x;rw[Bool.eq_iff_iff];simp[h1]
theorem zR:FP 176 [] (zA 1):=by
 refine ah func176 ?_;refine gc (F2 1 oz) ?_;refine ae ?_
 first |rfl |(simp;done)
theorem wd(r:Rt)(h:r.ok):FP 193 [r.av] (bl r.valid):=by
 have hr:=h;have hn:=h.n0;have hd:=h.d0;have hl1:r.num.length<=137438953472:=h.2.2.1;have hl2:r.den.length<=137438953472:=h.2.2.2;refine ah func193 ?_;refine gl ?_;refine ci ?_;refine gC (fun t12=>?_) (fun t12=>?_)
 ·have h0 : r.num = [] /\ r.den = [] := by simpa [aa] using t12
  refine ae ?_;unfold Rt.valid;rw[if_pos h0];rfl
 have h0:¬(r.num=[]/\r.den=[]):=by
  have:=t12;simp[aa]at this;exact fun h=>this h.1 h.2
 refine gc (Fk r.num hr.1 hr.2.2.1) ?_;refine bJ (fun _=>(Fk r.den hr.2.1 hr.2.2.2)) ?_;refine bJ (fun _=>(EN r.n0 r.d0 hn hd (by show r.num.length+r.den.length<_;unfold aw;omega))) ?_;refine bJ (fun _=>zR) ?_;refine bJ (fun _=>(M7 (Rt.gcd_zs hr) wL)) ?_;refine ae ?_;exact congrArg bl (TH h0).symm
theorem ri(r:Rt)(h:r.ok):FP 194 [r.av] (.tup [zA r.q.num,zA r.q.den]):=by
 have hl1:r.num.length<=137438953472:=h.2.2.1;have hl2:r.den.length<=137438953472:=h.2.2.2;refine ah func194 ?_;refine gc (wd r h) ?_;refine ci ?_;refine gC (fun t12=>?_) (fun t12=>?_)
 ·have h0:¬(r.valid=true/\r.num≠[]):=by
   have:=t12;intro h';simp[aa,h'.1,h'.2]at this
  refine gc zR ?_;refine gR ?_;exact eH (by rw[Rt.zero h0];exact Sub.tup (.cons Gx (.cons (.refl _) .nil)))
 have h0:r.valid=true/\r.num≠[]:=by
  have:=t12;cases hv:r.valid
  ·rw[hv]at this;cases this
  ·rw[hv]at this;exact⟨rfl,by simpa[aa]using this⟩
 obtain⟨e1,e2,e3,e4,e5,e6⟩:=Rt.parts h h0.1 h0.2;refine gD ?_;refine ba ?_;rw[e1,e2];exact CN e3 e4 e5
theorem uA{n d:Int}(hn:Zs n)(hd:Zs d)(h0:d≠0):FP 174 [zA n,zA d] (qA (Rat.divInt n d)):=by
 refine ah func174 ?_;refine gc (At hn) ?_;refine gC (fun t14=>?_) (fun t14=>?_)
 ·have e0 : n=0 := Int.sign_eq_zero_iff_zero.1 (by simpa[aa]using t14);refine gR ?_;exact jr (by rw[e0,Rat.zero_divInt];exact jy)
 have e0:n≠0:=fun h=>by rw[h]at t14;cases t14
 refine gc (At hd) ?_;refine zE [2,3,4] [4] (fun(n1 d1:Int)=>[]) (fun n1 d1=>[(2,some (.box (zA n1).cells)),(3,some (.box (zA d1).cells))]) (fun n1 d1=>0<d1/\n1≠0/\Zs n1/\Zs d1/\Rat.divInt n1 d1=Rat.divInt n d) ?_ ?_
 ·intro K1 J1;refine gC (fun t18=>?_) (fun t18=>?_)
  ·have e1 : d<0 := Int.sign_eq_neg_one_iff_neg.1 (by have := Int.sign_trichotomy d;have h9 : d.sign<0 := (by simpa[aa]using t18);omega);refine gc (yK hn) ?_;refine gc (yK hd) ?_;refine gD ?_;exact qH J1 (-n) (-d) ⟨by omega,by omega,hn.neg,hd.neg,Fp n d⟩
  have e1:0<d:=by
   have h9:0<=d.sign:=by simpa[aa]using t18
   have:=Int.sign_nonneg_iff.1 h9;omega
  exact qH J1 n d ⟨e1,e0,hn,hd,rfl⟩
 rintro n1 d1 ⟨f1,f2,f3,f4,f5⟩;have g2:Zs (Int.gcd n1 d1:Int):=f3.of_le (by rw[natAbs_natCast];exact Nat.le_of_dvd oz (Int.gcd_dvd_natAbs_left _ _));have g3:(Int.gcd n1 d1:Int)≠0:=by have:=Int.gcd_pos_of_ne_zero_left d1 f2;omega
 refine gc (Uu f3 f4) ?_;refine gc (He f3 g2 g3) ?_;refine gc (He f4 g2 g3) ?_;refine ae ?_;rw[<- f5,<- QQ f1 f2];rfl
theorem xP(n:Int)(h:-9223372036854775808<=n/\n<=9223372036854775807):FP 85 [i64 n] (qA n):=by
 have hz:Zs n:=⟨2,by omega,by unfold Lz;simp only[Nat.reducePow];omega⟩
 refine ah func85 ?_;refine gc (F2 n h) ?_;refine gc zR ?_;refine gc (uA hz wL oz) ?_;refine ae ?_;exact congrArg qA (Rat.num_divInt_den (n:Rat))
theorem CY(a:Rt)(ha:a.ok):FP 199 [a.av] (qA (-a.q)):=by
 have za:=ha.qs;refine ah func199 ?_;refine gc (ri a ha) ?_;refine gc (yK za.num) ?_;refine gc (uA za.num.neg za.den (by have:=a.q.den_nz;omega)) ?_;refine gD ?_;refine ae ?_;rw[B7];rfl
theorem BO(a:Rt)(ha:a.ok):FP 103 [a.av] (i64 (bD a.q)):=by
 refine ah func103 ?_;refine gc (ri a ha) ?_;refine gc (At ha.qs.num) ?_;refine ae ?_;rw[It]
theorem x9(a b:Rt)(ha:a.ok)(hb:b.ok):FP 104 [a.av,b.av] (qA (a.q+b.q)):=by
 have za:=ha.qs;have zb:=hb.qs;have m1:=za.mul zb;have m2:=zb.mul za;refine ah func104 ?_;refine gc (ri a ha) ?_;refine gc (ri b hb) ?_;refine gc (sC za.num zb.den) ?_;refine gc (sC zb.num za.den) ?_;refine gc (Uw m1.1 m2.1) ?_;refine gc (sC za.den zb.den) ?_;refine gc (uA (za.cross zb) m1.2.2.1 (Int.mul_ne_zero (by have:=a.q.den_nz;omega) (by have:=b.q.den_nz;omega))) ?_;refine gD ?_;refine ae ?_;rw[Bi];rfl
theorem Vw(a b:Rt)(ha:a.ok)(hb:b.ok):FP 107 [a.av,b.av] (qA (a.q-b.q)):=by
 refine ah func107 ?_;refine gc (CY b hb) ?_;refine gc (x9 a (rt (-b.q)) ha hb.qs.neg.ok) ?_;refine gD ?_;refine ae ?_;rw[bP,<- Rat.sub_eq_add_neg];rfl
theorem VS(a b:Rt)(ha:a.ok)(hb:b.ok):FP 105 [a.av,b.av] (qA (a.q*b.q)):=by
 have za:=ha.qs;have zb:=hb.qs;have m1:=za.mul zb;refine ah func105 ?_;refine gc (ri a ha) ?_;refine gc (ri b hb) ?_;refine gc (sC za.num zb.num) ?_;refine gc (sC za.den zb.den) ?_;refine gc (uA m1.2.1 m1.2.2.1 (Int.mul_ne_zero (by have:=a.q.den_nz;omega) (by have:=b.q.den_nz;omega))) ?_;refine gD ?_;refine ae ?_;rw[zf];rfl
theorem HY(a b:Rt)(ha:a.ok)(hb:b.ok)(hs:Qs (a.q-b.q)):FP 51 [a.av,b.av] (i64 (bD (a.q-b.q))):=by
 refine ah func51 ?_;refine gc (Vw a b ha hb) ?_;refine gc (BO (rt (a.q-b.q)) hs.ok) ?_;refine ae ?_;rw[bP]
theorem sK{α:Type}(f:α->AV)(l:List α)(hl:l.length<=281474976710656):FP 326 [.lst 3 (l.map f)] (i64 (cC l.length)):=by
 refine ah func326 ?_;refine aI [0] [] (fun(k:Nat)=>[(3,some (i64 k))]) (fun _=>[]) (fun k=>k<=48/\∀j,j<k->2^j<l.length) (fun k=>48-k) 0 ⟨by omega,fun j h=>by omega⟩ ?_;rintro k ⟨hk,hj⟩ K1 J1;refine gs (gI (.const _) (.tmp rfl) oz (ol oz) rfl) ?_;refine gl ?_;refine gC (fun t8=>?_) (fun t8=>?_)
 ·have h1 : 2 ^ k < l.length := by have := t8; simp only [aa, decide_eq_true_eq] at this; omega
  have h2:k<48:=by
   rcases lt_or_ge k 48 with h |h
   ·exact h
   ·have:2 ^ 48 <= 2 ^ k:=bK h;have:(2:Nat) ^ 48 = 281474976710656:=by decide
    omega
  refine ga (c9 oz) ?_;exact aE J1 (k+1) ⟨by omega,fun j h=>by rcases lt_or_ge j k with h3 |h3;exact hj j h3;(have:j=k:=by omega);subst this;exact h1⟩
 have h1:l.length<=2^k:=by have:=t8;simp only[aa,decide_eq_false_iff_not]at this;omega
 have h2:=Dj hj h1;refine gs (gI (.const _) (.tmp rfl) oz (ol oz) rfl) ?_;refine gl ?_;refine gC (fun t15=>?_) (fun t15=>?_)
 ·have h3 : 2 ^ k ≠ l.length := by have := t15; simp only [aa, bne_iff_ne, ne_eq] at this; omega
  refine ae ?_;unfold cC;rw[h2,if_neg h3];rfl
 have h3:2^k=l.length:=by have:=t15;simp only[aa,bne_eq_false_iff_eq]at this;omega
 refine ae ?_;unfold cC;rw[h2,if_pos h3]
theorem EB(ts:List (List Rt))(a:List Rt)(ha:∀r∈a,r.ok)(hl:a.length<=281474976710656)(ht:ts.length<=281474976710656):FP 227 [cZ ts,nR a] (bj (bQ ts.length a)):=by
 refine ah func227 ?_;refine gl ?_;refine I8 [1,4] [] [] [] (¬(a≠[]/\(cC a.length<0\/(ts.length:Int)<cC a.length))) ?_ ?_
 ·intro K1 J1;refine gC (fun t10=>?_) (fun t10=>?_)
  ·have h0 : a ≠ [] := fun h => by rw [h] at t10; simp [aa] at t10
   refine gc (sK Rt.av a hl) ?_;refine ci ?_;refine gC (fun t21=>?_) (fun t21=>?_)
   ·have h1:cC a.length<0\/(ts.length:Int)<cC a.length:=by
     have h9:=t21
     by_cases h:cC a.length<0
     ·exact .inl h
     ·simp only[aa,decide_eq_false h,cond_false,decide_eq_true_eq]at h9;exact .inr h9
    refine ae ?_;unfold bQ;rw[if_pos ⟨h0,h1⟩];rfl
   have h1:¬(cC a.length<0\/(ts.length:Int)<cC a.length):=by
    have h9:=t21
    by_cases h:cC a.length<0
    ·simp only[aa,decide_eq_true h,cond_true]at h9;cases h9
    ·simp only[aa,decide_eq_false h,cond_false,decide_eq_false_iff_not]at h9;exact fun h'=>h'.elim h h9
   exact uu J1 (fun h=>h1 h.2)
  have h0:a=[]:=by
   cases a with
   |nil=>rfl
   |cons c l=>simp[aa]at t10
  exact uu J1 (fun h=>h.1 h0)
 rintro hn;refine gl ?_;refine aI [23,24] [] (fun(i:Nat)=>[(25,some (i64 i))]) (fun _=>[]) (fun i=>i<=a.length/\(a.take i).all Rt.valid=true) (fun i=>a.length-i) 0 ⟨zero_le _,by simp⟩ ?_;rintro i ⟨hi,hv⟩ K2 J2;refine gC (fun t26=>?_) (fun t26=>?_)
 ·have hin : i < a.length := by simpa [aa] using t26
  obtain⟨r,hr⟩:=au hin;have hrok:=ha r (mem_of_getElem? hr);refine gi (ax hr) ?_;refine gc (oQ r hrok) ?_;refine gC (fun t31=>?_) (fun t31=>?_)
  ·have hrv : r.valid = false := by simpa using t31
   refine ae ?_;unfold bQ;rw[if_neg hn,if_neg]
   ·rfl
   ·rw[all_eq_true];intro h;rw[h r (mem_of_getElem? hr)]at hrv;cases hrv
  have hrv:r.valid=true:=by simpa using t31
  refine ga aF ?_;exact aE J2 (i+1) ⟨by omega,by rw[dj hr,all_append,hv];simp[hrv]⟩
 have hin:i=a.length:=by have:a.length<=i:=(by simpa[aa]using t26);omega
 subst hin;rw[take_length]at hv;refine ae ?_;unfold bQ;rw[if_neg hn,if_pos hv];rfl
theorem FN(a:List Rat)(ha:∀q∈a,Qs q)(hl:a.length<=281474976710656):FP 357 [nA a] (bl (bf a)):=by
 refine ah func357 ?_;refine gl ?_;refine aI [5,6] [] (fun(i:Nat)=>[(7,some (i64 i))]) (fun _=>[]) (fun i=>i<=a.length/\bf (a.take i)=true) (fun i=>a.length-i) 0 ⟨zero_le _,by simp[bf]⟩ ?_;rintro i ⟨hi,hv⟩ K1 J1;refine gC (fun t8=>?_) (fun t8=>?_)
 ·have hin : i < a.length := by simpa [aa] using t8
  obtain⟨q,hq⟩:=au hin;have hqs:=ha q (mem_of_getElem? hq);refine gi (ax hq) ?_;refine gc (u9 (rt q) hqs.ok) ?_;refine gC (fun t13=>?_) (fun t13=>?_)
  ·have h0:q≠0:=by
    intro h;have h9:=t13;rw[bP,h]at h9;cases h9
   refine ae ?_
   have:bf a=false:=by
    rw[Bool.eq_false_iff];intro h;exact h0 (by simpa using List.all_eq_true.1 h q (mem_of_getElem? hq))
   rw[this];rfl
  have h0:q=0:=by
   have h9:bD q=0:=by have:=t13;rw[bP]at this;simpa[aa]using this
   exact nG h9
  refine ga aF ?_;exact aE J1 (i+1) ⟨by omega,by rw[dj hq];simp only[bf,all_append,and_eq_true];exact⟨hv,by simp[h0]⟩⟩
 have hin:i=a.length:=by have:a.length<=i:=(by simpa[aa]using t8);omega
 subst hin;rw[take_length]at hv;refine ae ?_;rw[hv];rfl
theorem H4(a:List Rat)(hl:a.length<=281474976710656):FP 330 [nA a] (bl (bf a)):=by
 refine ah func330 ?_;refine gl ?_;refine aI [5,6] [] (fun(i:Nat)=>[(7,some (i64 i))]) (fun _=>[]) (fun i=>i<=a.length/\bf (a.take i)=true) (fun i=>a.length-i) 0 ⟨zero_le _,by simp[bf]⟩ ?_;rintro i ⟨hi,hv⟩ K1 J1;refine gC (fun t8=>?_) (fun t8=>?_)
 ·have hin : i < a.length := by simpa [aa] using t8
  obtain⟨q,hq⟩:=au hin;refine gi (ax hq) ?_;refine ci ?_;refine ci ?_;refine gC (fun t24=>?_) (fun t24=>?_)
  ·have h0:q≠0:=Je t24;refine ae ?_
   have:bf a=false:=by
    rw[Bool.eq_false_iff];intro h;exact h0 (by simpa using List.all_eq_true.1 h q (mem_of_getElem? hq))
   rw[this];rfl
  have h0:q=0:=GF t24;refine ga aF ?_;exact aE J1 (i+1) ⟨by omega,by rw[dj hq];simp only[bf,all_append,and_eq_true];exact⟨hv,by simp[h0]⟩⟩
 have hin:i=a.length:=by have:a.length<=i:=(by simpa[aa]using t8);omega
 subst hin;rw[take_length]at hv;refine ae ?_;rw[hv];rfl
theorem yw(a:List Rat)(ha:∀q∈a,Qs q)(hl:a.length<=1099511627776):FP 269 [nA a] (nA a):=by
 refine ah func269 ?_;refine gl ?_;refine gW (Wk.virt 900 3 rfl) ?_;refine aI [6,7] [] (fun(i:Nat)=>[(3,some (.ms 900 3 0 i)),(8,some (i64 i))]) (fun i=>[(900,some (.row 3 ((a.take i).map qA)))]) (fun i=>i<=a.length) (fun i=>a.length-i) 0 (zero_le _) ?_;rintro i hi K1 J1;refine gC (fun t9=>?_) (fun t9=>?_) (st2:=(7,0))
 ·have hin : i < a.length := by simpa [aa] using t9
  obtain⟨q,hq⟩:=au hin;have hqs:=(ha q (mem_of_getElem? hq)).ok;have hl1:(rt q).num.length<=137438953472:=hqs.2.2.1;have hl2:(rt q).den.length<=137438953472:=hqs.2.2.2;refine gi (ax hq) ?_;refine gs (jD T43 rfl T349 rfl rfl rfl) ?_;refine gs (qg (.tmp rfl) rfl rfl (.tmp rfl) T43 rfl T349 rfl rfl (by simp only[length_map];omega) rfl rfl) ?_;refine gs (jD T43 rfl T349 rfl rfl rfl) ?_;refine gs (qg (.tmp rfl) rfl rfl (.tmp rfl) T43 rfl T349 rfl rfl (by simp only[length_map];omega) rfl rfl) ?_;refine gs (cf (.tmp rfl) rfl (by simp;omega) (.tmp rfl) T67 rfl T45 rfl rfl (by simp;omega) rfl rfl) ?_;refine gD ?_ (6,0);refine gW (Wk.of (sl:=[(3,some (.ms 25 3 0 (i+1))),(6,some (nA a)),(7,some (i64 a.length)),(8,some (i64 i))]) (hp:=[(25,some (.row 3 ((a.take (i+1)).map qA)))]) aV (.cons rfl (BlkSub.of (by rw[dj hq,map_append];rfl)) .nil)) ?_ (6,0);refine gW (Wk.rk (k:=25) (d:=900) rfl rfl) ?_;refine ga aF ?_;exact aE J1 (i+1) hin
 have hin:i=a.length:=by have:a.length<=i:=(by simpa[aa]using t9);omega
 subst hin;refine gW ((Wk.freeze (k:=900) rfl).trans<|Wk.of (sl:=[(3,some (nA a))]) (hp:=[]) (.cons rfl (Sub.of (by rw[bN (by simp),take_length];rfl)) .nil) .nil) ?_;refine ae ?_;rfl
theorem lC{n:Nat}(a:List Rat)(hn:n<=5)(ha:Nl n a)(hs:∀q∈a,Qs q):FP 232 [nA a] (nA (sh n (ad n a))):=by
 have hl:=ha.len5 hn;rw[<- tL ha hn];refine ah func232 ?_;refine gc (sK qA a oz) ?_;refine gl ?_;refine gC (fun t17=>?_) (fun t17=>?_) (st1:=(3,0));exact absurd t17 (by rcases ha with rfl |⟨j,hj,h⟩;(simp[aa]);(rw[h,q8];simp[aa];omega));refine gl ?_;refine aI [0] [] (fun(m:Nat)=>[(4,some (i64 m))]) (fun _=>[]) (fun m=>mi a m) (fun m=>m) a.length (DR (ha.mono hn)) ?_;rintro m hm K1 J1;refine gs (ee rfl rfl rfl (fun h=>eJ (.opt rfl (o1 h)) (.const _) oz (fI (by have:=hm.le;omega)) rfl)) ?_;refine gs (ee rfl rfl rfl (fun h=>cV (.opt rfl (o1 h)) (.some _ (.opt rfl (o1 h)) oz) (.some _ (.opt rfl (o1 h)) oz) T67 rfl T45 rfl oz (by have:=hm.le;simp;omega) rfl)) ?_;refine bJ (fun _=>(by have h9:=H4 ((a.drop (m/2)).take (m-m/2)) (by simp;omega);rw[<- s9]at h9;exact h9)) ?_;refine gC (fun t31=>?_) (fun t31=>?_)
 ·have h1:1<m/\bf ((a.drop (m/2)).take (m-m/2))=true:=by
   have h9:=t31
   by_cases h:(m:Int)>1
   ·simp only[aa,decide_eq_true h,cond_true]at h9;exact⟨by omega,h9⟩
   ·simp only[aa,decide_eq_false h,cond_false]at h9;cases h9
  refine gs (eJ (.tmp rfl) (.const _) oz (fI (by have:=hm.le;omega)) rfl) ?_;exact aE J1 (m/2) (Gt hm h1.1 h1.2)
 have h1:1<m->bf ((a.drop (m/2)).take (m-m/2))=false:=by
  intro h;have h9:=t31;simp only[aa,decide_eq_true (show(m:Int)>1 by omega),cond_true]at h9;exact h9
 refine gs (ee rfl rfl rfl (fun h=>cV (.opt rfl (o1 h)) (.none _) (.some _ (.const _) oz) T67 rfl T45 rfl oz (by have h8:(m:Int)=1:=(by simpa[aa]using h);have:=hm.le;simp only[length_map];omega) rfl)) ?_;refine bJ (fun _=>(by have h9:=H4 ((a.drop 0).take 1) (by simp;omega);rw[<- s9]at h9;exact h9)) ?_;refine gC (fun t40=>?_) (fun t40=>?_)
 ·have h2:m=1/\bf (a.take 1)=true:=by
   have h9:=t40
   by_cases h:m=1
   ·rw[h]at h9;exact⟨h,h9⟩
   ·rw[show aa .eql (m:Int) 1=false by simp[aa];omega]at h9;cases h9
  obtain⟨rfl,h3⟩:=h2;refine gR ?_;exact jr (by rw[Ic hm h3];exact Sub.nil _ _ _)
 have h2:m=1->bf (a.take 1)=false:=by
  intro h;have h9:=t40;rw[h]at h9;exact h9
 have h3:=Eo hm h1 h2;refine gs (cV (.tmp rfl) (.none _) (.some _ (.tmp rfl) oz) T67 rfl T45 rfl oz (by have:=hm.le;simp;omega) rfl) ?_;refine gc (by have h9:=yw ((a.drop 0).take m) (fun q hq=>hs q (List.mem_of_mem_drop (mem_of_mem_take hq))) (by simp;omega);have h8:=h9;rw[<- s9]at h9;exact h9) ?_;refine ae ?_;rw[h3];simp[nA,map_take]
theorem AP(d:Nat)(hd:Nat.blt d 1000=true)(a:List Rat)(n:Nat)(hl:a.length<=n)(hn:n<=1099511627776) :
  Con prog 355 [nA a,i64 n] [] (.ms d 3 0 n) [(d,some (.row 3 ((aP a n).map qA)))]:=by
 refine gF func355 (fun k z h=>by cases h) ?_;refine gs (gS (.tmp rfl) T67 rfl T45 rfl rfl oz (by dsimp only;omega) rfl) ?_;refine gs (R9 (.tmp rfl) rfl (by simp) (.tmp rfl) T67 rfl T45 rfl rfl (by simp;omega) rfl) ?_ (3,0);refine gW (Wk.of (sl:=[(5,some (.ms 7 3 0 n))]) (hp:=[(7,some (.row 3 ((aP a n).map qA)))]) (.cons rfl (Sub.of (by simp)) .nil) (.cons rfl (H9 a n hl) .nil)) ?_;refine gR ?_;exact aq.own1 rfl hd rfl
theorem Bn(a:List Rat)(n:Nat)(hl:a.length<=n)(hn:n<=1099511627776):FP 355 [nA a,i64 n] (nA (aP a n)):=by
 have h:=Con.freeze (by rw[length_map,dC hl];omega) (AP 0 rfl a n hl hn);rw[drop_zero,take_of_length_le (by rw[length_map,dC hl];exact le_refl _)]at h;exact h
theorem oR(a b:List Rat)(ha:∀q∈a,Qs q)(hb:∀q∈b,Qs q)(la:a.length<=1099511627776)(lb:b.length<=1099511627776):FP 272 [nA a,nA b] (nA (b9 a b)):=by
 obtain⟨n,hn⟩:∃n,n=max a.length b.length:=⟨_,rfl⟩
 have hwa:=dC (show a.length<=n by omega);have hwb:=dC (show b.length<=n by omega);have hp:=dW (a:=a) (b:=b);rw[<- hn]at hp;have qa:∀q∈aP a n,Qs q:=fun q hq=>by rcases List.mem_append.1 hq with h |h;exact ha q h;(rw[(List.mem_replicate.1 h).2];exact Qs.zero)
 have qb:∀q∈aP b n,Qs q:=fun q hq=>by rcases List.mem_append.1 hq with h |h;exact hb q h;(rw[(List.mem_replicate.1 h).2];exact Qs.zero)
 refine ah func272 ?_;refine gl ?_;refine gl ?_;refine gs (p4 (.tmp rfl) (.tmp rfl) rfl) ?_ (2,0);refine gW (Wk.of (sl:=[(0,some (nA a)),(1,some (nA b)),(5,some (i64 n))]) (hp:=[]) (.k (.k (.cons rfl (Sub.int oz) .nil))) .nil) ?_;refine go ?_;refine gt (ay (AP 900 rfl a n oz oz) (bm rfl rfl) az rfl rfl) ?_;refine gc (Bn b n oz oz) ?_;refine aI [1,19] [] (fun(i:Nat)=>[(0,some (.ms 900 3 0 n)),(20,some (i64 i))]) (fun i=>[(900,some (.row 3 (((b9 a b).take i++(aP a n).drop i).map qA)))]) (fun i=>i<=n) (fun i=>n-i) 0 (zero_le _) ?_;rintro i hi K1 J1;refine gC (fun t21=>?_) (fun t21=>?_) (st2:=(8,0))
 ·have hin : i < n := by simpa [aa] using t21
  have hmx:=yQ (p:=b9 a b) (w:=aP a n) (i:=i) oz oz;have hqa:=(qa _ (sY (i:=i) oz)).ok;have hqb:=(qb _ (sY (i:=i) oz)).ok;refine gs (bR (n:=i) (.tmp rfl) (.tmp rfl) T67 rfl T45 rfl oz oz rfl) ?_;refine gs (dX (.tmp rfl) rfl (ax hmx) T45 rfl rfl rfl) ?_;refine gi (ax (getD_some (i:=i) (l:=aP b n) oz)) ?_;refine gc (oG (rt ((aP a n).getD i 0)) (rt ((aP b n).getD i 0)) hqa hqb) ?_;refine gs (bR (n:=i) (.tmp rfl) (.tmp rfl) T67 rfl T45 rfl oz oz rfl) ?_;refine gs (dG (.tmp rfl) rfl (ax hmx) rfl (.tmp rfl) rfl rfl T45 rfl rfl) ?_;refine gD ?_ (7,0);refine gW (Wk.of (sl:=[(0,some (.ms 900 3 0 n)),(1,some (nA (aP b n))),(19,some (i64 n)),(20,some (i64 i))]) (hp:=[(900,some (.row 3 (((b9 a b).take (i+1)++(aP a n).drop (i+1)).map qA)))]) aV (.cons rfl (BlkSub.of (by rw[yN oz oz (by rw[FE,<- hn,bP,bP])])) .nil)) ?_;refine ga aF ?_;exact aE J1 (i+1) hin
 have hin:i=n:=by have:n<=i:=(by simpa[aa]using t21);omega
 refine gW ((Wk.freeze (k:=900) rfl).trans<|Wk.of (sl:=[(0,some (nA (b9 a b)))]) (hp:=[]) (.cons rfl (Sub.of (by rw[bN (by simp;omega),hin,List.drop_of_length_le oz,take_of_length_le oz,append_nil];rfl)) .nil) .nil) ?_;refine ae ?_;rfl
theorem tz(a:List Rat)(ha:∀q∈a,Qs q)(la:a.length<=1099511627776):FP 244 [nA a] (nA (cE a)):=by
 obtain⟨n,hn⟩:∃n,n=a.length:=⟨_,rfl⟩
 refine ah func244 ?_;refine gl ?_;refine gs (gS (.tmp rfl) T67 rfl T45 rfl rfl oz (by dsimp only;omega) rfl) ?_ (2,0);refine gW (Wk.of (sl:=[(0,some (nA a)),(3,some (.ms 7 3 0 n))]) (hp:=[(7,some (.row 3 ((aP [] n).map qA)))]) (.k (.cons rfl (Sub.of (by simp[hn])) .nil)) (.cons rfl (BlkSub.of_ (H9 [] n (by simp)) (by rw[hn];rfl)) .nil)) ?_;refine gl ?_;refine aI [0] [] (fun(i:Nat)=>[(3,some (.ms 7 3 0 n)),(9,some (i64 n)),(10,some (i64 i))]) (fun i=>[(7,some (.row 3 (((cE a).take i++(aP [] n).drop i).map qA)))]) (fun i=>i<=n) (fun i=>n-i) 0 (zero_le _) ?_ (h1:=(.k (.cons rfl (Sub.int oz) (.k .nil))));rintro i hi K1 J1;refine gC (fun t11=>?_) (fun t11=>?_) (st2:=(7,0))
 ·have hin : i < n := by simpa [aa] using t11
  have hm1:=ic (a:=a);have hm2:=dC (a:=[]) (n:=n) (by simp);have hmx:=yQ (p:=cE a) (w:=aP [] n) (i:=i) oz oz;have hqa:=(ha _ (sY (i:=i) oz)).ok;refine gi (ax (getD_some (i:=i) oz)) ?_;refine gc (GE (rt (a.getD i 0)) hqa) ?_;refine gs (bR (n:=i) (.tmp rfl) (.tmp rfl) T67 rfl T45 rfl oz oz rfl) ?_;refine gs (dG (.tmp rfl) rfl (ax hmx) rfl (.tmp rfl) rfl rfl T45 rfl rfl) ?_ (6,0);refine gW (Wk.of (sl:=[(0,some (nA a)),(3,some (.ms 7 3 0 n)),(9,some (i64 n)),(10,some (i64 i))]) (hp:=[(7,some (.row 3 (((cE a).take (i+1)++(aP [] n).drop (i+1)).map qA)))]) aV (.cons rfl (BlkSub.of (by rw[yN oz oz (by rw[UT,bP])])) .nil)) ?_;refine ga aF ?_;exact aE J1 (i+1) hin
 have hin:i=n:=by have:n<=i:=(by simpa[aa]using t11);omega
 have hm1:=ic (a:=a);have hm2:=dC (a:=[]) (n:=n) (by simp);refine gW ((Wk.freeze (k:=7) rfl).trans<|Wk.of (sl:=[(3,some (nA (cE a)))]) (hp:=[]) (.cons rfl (Sub.of (by rw[bN (by simp;omega),hin,List.drop_of_length_le oz,take_of_length_le oz,append_nil];rfl)) .nil) .nil) ?_;refine ae ?_;rfl
theorem zO(a b:List Rat)(n:Nat)(la:a.length<=n)(lb:b.length<=n)(hn:n<=274877906944):FP 358 [nA a,nA b,i64 n] (nA (eQ a b n)):=by
 refine ah func358 ?_;refine gt (ay (AP 900 rfl a n la oz) (bm rfl rfl) az rfl rfl) ?_;refine gc (Bn b n lb oz) ?_;refine gs (qg (.tmp rfl) rfl (by simp[dC la]) (.tmp rfl) T67 rfl T45 rfl rfl (by simp[dC lb];omega) rfl rfl) ?_;refine ae ?_;rw[<- map_append];rfl
theorem pW(ts:LL)(m r:Nat)(ht:iG ts m r)(hm:m<=5)(hml:m<=ts.length)(k:Nat):∀(j:Nat)(a b:List Rat)(e f:Nat),j<=m->j<=k->Nl j a->Nl j b->Cb e a->Cb f b->e+f+eB r j<4398046511104 ->
  FP 273 [aL ts,nA a,nA b] (nA (pT ts k a b)):=by
 induction k using Nat.strongRecOn
 rename_i k ih;intro j a b e f hj hjk ha hb ca cb hs;have hla:=ha.len5 oz;have hlb:=hb.len5 oz;refine ah func273 ?_;refine gl ?_;refine gl ?_;refine JM [3] [3] (fun(x y:List Rat)(e1 f1:Nat)=>[(1,some (nA x)),(2,some (nA y))]) (fun _ _ _ _=>[]) (fun x y e1 f1=>y.length<=x.length/\Nl j x/\Nl j y/\Cb e1 x/\Cb f1 y/\e1+f1=e+f/\pT ts k a b=pT ts k x y) ?_ ?_
 ·intro K1 J1;refine gC (fun t18=>?_) (fun t18=>?_)
  ·have h1 : a.length < b.length := by have := t18; simp only [aa, decide_eq_true_eq] at this; omega
   exact Fl J1 b a f e ⟨by omega,hb,ha,cb,ca,by omega,yq ts k a b h1⟩
  have h1:b.length<=a.length:=by have:=t18;simp only[aa,decide_eq_false_iff_not]at this;omega
  exact Fl J1 a b e f ⟨h1,ha,hb,ca,cb,rfl,rfl⟩
 rintro x y e1 f1 ⟨hyx,hx,hy,cx,cy,hef,hp⟩;have hlx:=hx.len5 oz;have hly:=hy.len5 oz;have qx:∀q∈x,Qs q:=fun q hq=>cx.qs oz hq
 have qy:∀q∈y,Qs q:=fun q hq=>cy.qs oz hq
 rw[hp];refine gc (FN x qx oz) ?_;refine bJ (fun _=>(FN y qy oz)) ?_;refine gC (fun t21=>?_) (fun t21=>?_)
 ·have h1:bf x=true\/bf y=true:=by
   have:=t21;cases hz:bf x
   ·rw[hz]at this;exact .inr this
   ·exact .inl rfl
  refine gR ?_;exact jr (by rw[KG hyx h1];exact Sub.nil _ _ _)
 have h1:¬(bf x=true\/bf y=true):=by
  have:=t21;cases hz:bf x
  ·rw[hz]at this;intro h;rcases h with h |h;cases h;(rw[show bf y=false from this]at h;cases h)
  ·rw[hz]at this;cases this
 refine gl ?_;refine gC (fun t28=>?_) (fun t28=>?_)
 ·have h2 : x.length = 1 := by have := t28; simp only [aa, beq_iff_eq] at this; omega
  obtain⟨p,rfl⟩:=List.length_eq_one_iff.1 h2;have h3:y≠[]:=fun h=>h1 (.inr (by rw[h];rfl))
  obtain⟨q,rfl⟩:∃q,y=[q]:=List.length_eq_one_iff.1 (by have:=List.length_pos_iff.2 h3;simp at hyx;omega);refine gi rfl ?_;refine gi rfl ?_;refine gc (IW (rt p) (rt q) (qx p (by simp)).ok (qy q (by simp)).ok) ?_;refine gD ?_;refine ae ?_;rw[K0 h1,bP,bP];rfl
 have h2:x.length≠1:=by have:=t28;simp only[aa,beq_eq_false_iff_ne,ne_eq]at this;omega
 have h3:x≠[]:=fun h=>h1 (.inl (by rw[h];rfl))
 obtain⟨i,hij,hxl⟩:∃i,i+1<=j/\x.length=2^(i+1):=by
  rcases ot hx with h |h |h
  ·exact absurd (List.length_eq_zero_iff.1 h) h3
  ·exact absurd h h2
  ·exact h
 obtain⟨k',rfl⟩:∃k',k=k'+1:=⟨k-1,by omega⟩
 have hp2:=Nat.two_pow_pos i;have hpi:2^i<=32:=bK (b:=5) oz;have hps:2^(i+1)=2*2^i:=by rw[Nat.pow_succ];omega
 have hes:eB r (i+1)<=eB r j:=gV r hij;have hee:eB r (i+1)=2*eB r i+r+2:=rfl;have n1:Nl i (x.take (2^i)):=.inr ⟨i,le_refl _,fD hxl⟩;have n2:Nl i (x.drop (2^i)):=.inr ⟨i,le_refl _,f0 hxl⟩;refine gl ?_;refine gs (eJ (.tmp rfl) (.const _) oz (show _=((2^i:Nat):Int) by rw[fI oz,hxl,fj]) rfl) ?_;refine gs (cV (.tmp rfl) (.none _) (.some _ (.tmp rfl) oz) T67 rfl T45 rfl oz (by simp only[length_map];omega) rfl) ?_;refine gs (cV (.tmp rfl) (.some _ (.tmp rfl) oz) (.none _) T67 rfl T45 rfl (by simp only[length_map];omega) oz rfl) ?_;refine gD ?_ (9,0);refine gW (Wk.of (sl:=[(1,some (nA x)),(2,some (nA y)),(3,some (.ptr 3 0)),(7,some (i64 ((2^i:Nat):Int))),(8,some (nA (x.take (2^i)))),(9,some (nA (x.drop (2^i))))]) (hp:=[(3,some (.box [.lst 1 (ts.map nA)]))]) (.k (.k (.k (.k (.cons rfl (Sub.of (lI x (2^i))) (.cons rfl (Sub.of (l6 x (2^i))) .nil)))))) (.k .nil)) ?_;refine gl ?_;refine gC (fun t52=>?_) (fun t52=>?_)
 ·have h4 : y.length <= 2 ^ i := by have := t52; simp only [aa, decide_eq_true_eq] at this; omega
  have n3:Nl i y:=QX hy h4;have s1:=fW ts m ht.1 i k' _ _ oz oz n1 n3;have s2:=fW ts m ht.1 i k' _ _ oz oz n2 n3;refine gc (ih k' oz i _ _ e1 f1 oz oz n1 n3 cx.take cy oz) ?_;refine gc (ih k' oz i _ _ e1 f1 oz oz n2 n3 cx.drop cy oz) ?_;refine gc (zO _ _ (2^i) s1.1.le s2.1.le oz) ?_;refine gD ?_;refine ae ?_;rw[Va hxl h4 h1]
 have h4:¬y.length<=2^i:=by have:=t52;simp only[aa,decide_eq_false_iff_not]at this;omega
 have hyl:=Qi hy h4 oz;have n3:Nl i (y.take (2^i)):=.inr ⟨i,le_refl _,fD hyl⟩;have n4:Nl i (y.drop (2^i)):=.inr ⟨i,le_refl _,f0 hyl⟩;have nd:=ht.1 i oz;have cd:=ht.2.cb i;have s1:=fW ts m ht.1 i k' _ _ oz oz n1 n3;have s2:=fW ts m ht.1 i k' _ _ oz oz n2 n4;have s3:=fW ts m ht.1 i k' _ _ oz oz s2.1 nd;have s4:=fW ts m ht.1 i k' _ _ oz oz n1 n4;have s5:=fW ts m ht.1 i k' _ _ oz oz n2 n3;have c1:=Cb.mul ht (k:=k') (show i<=m by omega) oz n1 n3 cx.take cy.take;have c2:=Cb.mul ht (k:=k') (show i<=m by omega) oz n2 n4 cx.drop cy.drop;have c3:=Cb.mul ht (k:=k') (show i<=m by omega) oz s2.1 nd c2 cd;have c4:=Cb.mul ht (k:=k') (show i<=m by omega) oz n1 n4 cx.take cy.drop;have c5:=Cb.mul ht (k:=k') (show i<=m by omega) oz n2 n3 cx.drop cy.take;have hpT:=Sx (ts:=ts) (k:=k') hxl h4 hyx h1;refine gs (cV (.tmp rfl) (.none _) (.some _ (.tmp rfl) oz) T67 rfl T45 rfl oz (by simp only[length_map];omega) rfl) ?_;refine gs (cV (.tmp rfl) (.some _ (.tmp rfl) oz) (.none _) T67 rfl T45 rfl (by simp only[length_map];omega) oz rfl) ?_;refine gD ?_ (12,0);refine gW (Wk.of (sl:=[(1,some (nA x)),(3,some (.ptr 3 0)),(7,some (i64 ((2^i:Nat):Int))),(8,some (nA (x.take (2^i)))),(9,some (nA (x.drop (2^i)))),(10,some (nA (y.take (2^i)))),(11,some (nA (y.drop (2^i))))]) (hp:=[(3,some (.box [.lst 1 (ts.map nA)]))]) (.k (.k (.k (.k (.k (.cons rfl (Sub.of (lI y (2^i))) (.cons rfl (Sub.of (l6 y (2^i))) .nil))))))) (.k .nil)) ?_;refine gc (sK qA x oz) ?_;refine ga (show _=(i:Int) by rw[hxl,q8,dD oz];omega) ?_;refine gi (vj (j:=i) oz) ?_;refine gD ?_;refine gc (ih k' oz i _ _ e1 f1 oz oz n1 n3 cx.take cy.take oz) ?_;refine gc (ih k' oz i _ _ e1 f1 oz oz n2 n4 cx.drop cy.drop oz) ?_;refine gc (ih k' oz i _ _ _ _ oz oz s2.1 nd c2 cd oz) ?_;refine gc (oR _ _ (fun q hq=>c1.qs oz hq) (fun q hq=>c3.qs oz hq) (by have:=s1.1.le;omega) (by have:=s3.1.le;omega)) ?_;refine gD ?_;refine gc (ih k' oz i _ _ e1 f1 oz oz n1 n4 cx.take cy.drop oz) ?_;refine gc (ih k' oz i _ _ e1 f1 oz oz n2 n3 cx.drop cy.take oz) ?_;refine gc (oR _ _ (fun q hq=>c4.qs oz hq) (fun q hq=>c5.qs oz hq) (by have:=s4.1.le;omega) (by have:=s5.1.le;omega)) ?_;refine gc (zO _ _ (2^i) (by have:=s1.1.le;have:=s3.1.le;rw[dW];omega) (by have:=s4.1.le;have:=s5.1.le;rw[dW];omega) oz) ?_;refine gD ?_;refine ae ?_;rw[hpT]
theorem yV(ts:LL)(m r:Nat)(ht:iG ts m r)(hm:m<=5)(hml:m<=ts.length)(i:Nat)(a:List Rat)(e:Nat)(hi:i+1<=m)(hal:a.length=2^(i+1))(ca:Cb e a)(hs:4*e+3*eB r i+r+1<4398046511104) :
  FP 327 [aL ts,nA a] (nA (ip ts i a)):=by
 have hp2:=Nat.two_pow_pos i;have hpi:2^i<=32:=bK (b:=5) oz;have hps:2^(i+1)=2*2^i:=by rw[Nat.pow_succ];omega
 have n1:Nl i (a.take (2^i)):=.inr ⟨i,le_refl _,fD hal⟩;have n2:Nl i (a.drop (2^i)):=.inr ⟨i,le_refl _,f0 hal⟩;have nd:=ht.1 i oz;have cd:=ht.2.cb i;have s1:=fW ts m ht.1 i i _ _ oz oz n1 n1;have s2:=fW ts m ht.1 i i _ _ oz oz n2 n2;have s3:=fW ts m ht.1 i i _ _ oz oz s2.1 nd;have c1:=Cb.mul ht (k:=i) (show i<=m by omega) oz n1 n1 ca.take ca.take;have c2:=Cb.mul ht (k:=i) (show i<=m by omega) oz n2 n2 ca.drop ca.drop;have c3:=Cb.mul ht (k:=i) (show i<=m by omega) oz s2.1 nd c2 cd;refine ah func327 ?_;refine gl ?_;refine gs (eJ (.tmp rfl) (.const _) oz (show _=((2^i:Nat):Int) by rw[fI oz,hal,fj]) rfl) ?_;refine gs (cV (.tmp rfl) (.none _) (.some _ (.tmp rfl) oz) T67 rfl T45 rfl oz (by simp only[length_map];omega) rfl) ?_;refine gs (cV (.tmp rfl) (.some _ (.tmp rfl) oz) (.none _) T67 rfl T45 rfl (by simp only[length_map];omega) oz rfl) ?_;refine gD ?_ (3,0);refine gW (Wk.of (sl:=[(1,some (nA a)),(2,some (.ptr 2 0)),(6,some (nA (a.take (2^i)))),(7,some (nA (a.drop (2^i))))]) (hp:=[(2,some (.box [.lst 1 (ts.map nA)]))]) (.k (.k (.cons rfl (Sub.of (lI a (2^i))) (.cons rfl (Sub.of (l6 a (2^i))) .nil)))) (.k .nil)) ?_;refine gc (pW ts m r ht hm hml i i _ _ e e oz oz n1 n1 ca.take ca.take oz) ?_;refine gc (pW ts m r ht hm hml i i _ _ e e oz oz n2 n2 ca.drop ca.drop oz) ?_;refine gc (sK qA a oz) ?_;refine ga (show _=(i:Int) by rw[hal,q8,dD oz];omega) ?_;refine gi (vj (j:=i) oz) ?_;refine gc (pW ts m r ht hm hml i i _ _ _ _ oz oz s2.1 nd c2 cd oz) ?_;refine gc (tz _ (fun q hq=>c3.qs oz hq) (by have:=s3.1.le;omega)) ?_;refine gc (oR _ _ (fun q hq=>c1.qs oz hq) (fun q hq=>c3.minus.qs oz hq) (by have:=s1.1.le;omega) (by have:=s3.1.le;rw[ic];omega)) ?_;refine gD ?_;refine ae ?_;rfl
theorem oe(ts:LL)(m r:Nat)(ht:iG ts m r)(hm:m<=5)(hml:m<=ts.length)(j:Nat):∀(a:List Rat)(e:Nat),j<=m->Nl j a->Cb e a->sB r j e<4398046511104 ->
  FP 228 [aL ts,nA a] (i64 (T.sgn (aj ts) j (ad j a))):=by
 induction j using Nat.strongRecOn
 rename_i j ih;intro a e hj ha ca hs;have hse:=oJ r j e;have qa:∀q∈a,Qs q:=fun q hq=>ca.qs oz hq
 obtain⟨s,hsa⟩:∃s,s=sh j (ad j a):=⟨_,rfl⟩
 have hsd:ad j s=ad j a:=by rw[hsa,aZ]
 have hsn:Nl j s:=by rw[hsa];exact eg j _
 have cs:Cb e s:=by rw[hsa];exact ca.sh ha
 have hls:=hsn.len5 oz;rw[<- hsd];refine ah func228 ?_;refine gc (hsa▸lC a oz ha qa) ?_;refine gl ?_;refine gC (fun t12=>?_) (fun t12=>?_)
 ·have h1 : s=[] := List.length_eq_zero_iff.1 (by have := t12;simp only[aa,beq_iff_eq]at this;omega);refine ae ?_;rw[h1,gp,T.sgn_zero];rfl
 have h1:s.length≠0:=by have:=t12;simp only[aa,beq_eq_false_iff_ne,ne_eq]at this;omega
 refine gl ?_;refine gC (fun t15=>?_) (fun t15=>?_)
 ·have h2 : s.length = 1 := by have := t15; simp only [aa, beq_iff_eq] at this; omega
  obtain⟨q,rfl⟩:=List.length_eq_one_iff.1 h2;refine gi rfl ?_;refine gc (u9 (rt q) (cs.qs oz (by simp:q∈[q])).ok) ?_;refine ae ?_;rw[kE,T.sgn_ofQ,bP]
 have h2:s.length≠1:=by have:=t15;simp only[aa,beq_eq_false_iff_ne,ne_eq]at this;omega
 obtain⟨i,hij,hsl⟩:∃i,i+1<=j/\s.length=2^(i+1):=by
  rcases ot hsn with h |h |h
  ·exact absurd h h1
  ·exact absurd h h2
  ·exact h
 have hp2:=Nat.two_pow_pos i;have hpi:2^i<=32:=bK (b:=5) oz;have hps:2^(i+1)=2*2^i:=by rw[Nat.pow_succ];omega
 have n1:Nl i (s.take (2^i)):=.inr ⟨i,le_refl _,fD hsl⟩;have n2:Nl i (s.drop (2^i)):=.inr ⟨i,le_refl _,f0 hsl⟩;have nd:=ht.1 i oz;have cd:=ht.2.cb i;obtain⟨nn,dn,cn⟩:=xa ht oz hsl cs;have b1:sB r i (4*e+3*eB r i+r+1)<=sB r j e:=tH r e hij;have b2:sB r i e<=sB r i (4*e+3*eB r i+r+1):=oU r i oz;have b3:sB r i r<=sB r i (4*e+3*eB r i+r+1):=oU r i oz;have b4:=oJ r i (4*e+3*eB r i+r+1);have k1:=ih i oz (s.take (2^i)) e oz n1 cs.take oz;have k2:=ih i oz (s.drop (2^i)) e oz n2 cs.drop oz;have k3:=ih i oz _ r oz nd cd oz;have k4:=ih i oz _ _ oz nn cn oz
 have hres:T.sgn (aj ts) j (ad j s)=T.sgn3 (T.sgn (aj ts) i (ad i (s.take (2^i)))) (T.sgn (aj ts) i (ad i (s.drop (2^i)))) (T.sgn (aj ts) i (ad i (ts.getD i []))) (T.sgn (aj ts) i (ad i (ip ts i s))):=by
  rw[sk _ oz hij,dn];rfl
 have v1:=T.sgn_cases (aj ts) i (ad i (s.take (2^i)));have v4:=T.sgn_cases (aj ts) i (ad i (ip ts i s));refine gl ?_;refine gs (eJ (.tmp rfl) (.const _) oz (show _=((2^i:Nat):Int) by rw[fI oz,hsl,fj]) rfl) ?_;refine gs (cV (.tmp rfl) (.none _) (.some _ (.tmp rfl) oz) T67 rfl T45 rfl oz (by simp only[length_map];omega) rfl) ?_;refine gc (by have h9:=k1;rw[<- lI]at h9;exact h9) ?_;refine gs (cV (.tmp rfl) (.some _ (.tmp rfl) oz) (.none _) T67 rfl T45 rfl (by simp only[length_map];omega) oz rfl) ?_;refine gc (by have h9:=k2;rw[<- l6]at h9;exact h9) ?_;refine gD ?_;refine gc (sK qA s oz) ?_;refine ga (show _=(i:Int) by rw[hsl,q8,dD oz];omega) ?_;refine gi (vj (j:=i) oz) ?_;refine gc k3 ?_;refine gD ?_;refine gC (fun t42=>?_) (fun t42=>?_)
 ·have e1 : T.sgn (aj ts) i (ad i (ts.getD i [])) = 0 := by simpa [aa] using t42
  refine ae ?_;rw[hres];unfold T.sgn3;rw[if_pos e1]
 have e1:¬T.sgn (aj ts) i (ad i (ts.getD i []))=0:=by simpa[aa]using t42
 refine gC (fun t44=>?_) (fun t44=>?_)
 ·have e2:T.sgn (aj ts) i (ad i (s.take (2^i)))=T.sgn (aj ts) i (ad i (s.drop (2^i)))\/T.sgn (aj ts) i (ad i (s.drop (2^i)))=0:=zx t44;refine ae ?_;rw[hres];unfold T.sgn3;rw[if_neg e1,if_pos e2]
 have e2:¬(T.sgn (aj ts) i (ad i (s.take (2^i)))=T.sgn (aj ts) i (ad i (s.drop (2^i)))\/T.sgn (aj ts) i (ad i (s.drop (2^i)))=0):=Av t44;refine gC (fun t53=>?_) (fun t53=>?_)
 ·have e3 : T.sgn (aj ts) i (ad i (s.take (2 ^ i))) = 0 := by simpa [aa] using t53
  refine ae ?_;rw[hres];unfold T.sgn3;rw[if_neg e1,if_neg e2,if_pos e3]
 have e3:¬T.sgn (aj ts) i (ad i (s.take (2^i)))=0:=by simpa[aa]using t53
 refine gc (yV ts m r ht hm hml i s e oz hsl cs oz) ?_;refine gc k4 ?_;refine ga (zQ v1 v4) ?_;refine gD ?_;refine ae ?_;rw[hres];unfold T.sgn3;rw[if_neg e1,if_neg e2,if_neg e3];rfl
theorem nP(rs:List (List Rt))(r:Nat)(h:TR rs r):FP 121 [cZ rs] (bj (bb rs)):=by
 have hll:=h.ll;have hr:=h.le;refine ah func121 ?_;refine gl ?_;refine gC (fun t10=>?_) (fun t10=>?_)
 ·have h5 : 5 < rs.length := by have := t10; simp only [aa, decide_eq_true_eq] at this; omega
  refine ae ?_;rw[Hi h5];rfl
 have h5:rs.length<=5:=by have:=t10;simp only[aa,decide_eq_false_iff_not]at this;omega
 refine gl ?_;refine aI [1,13,14] [1] (fun(k:Nat)=>[(15,some (i64 k))]) (fun _=>[]) (fun k=>k<=rs.length/\∀j,j<k->ig rs j) (fun k=>rs.length-k) 0 ⟨zero_le _,fun j hj=>by omega⟩ ?_;rintro k ⟨hk,hj⟩ K1 J1;refine gC (fun t16=>?_) (fun t16=>?_)
 ·have hin : k < rs.length := by simpa [aa] using t16
  obtain⟨d,hd⟩:=au hin;have hdm:=mem_of_getElem? hd;have hdl:=h.len d hdm;refine gi (ax hd) ?_;refine gl ?_;refine gs (gI (.const _) (.tmp rfl) oz (ol oz) rfl) ?_;refine gC (fun t24=>?_) (fun t24=>?_)
  ·have h1 : d.length ≠ 2 ^ k := by have := t24; simp only [aa, bne_iff_ne, ne_eq] at this; omega
   refine ae ?_;rw[Fm h5 hd hj h1];rfl
  have h1:d.length=2^k:=by have:=t24;simp only[aa,bne_eq_false_iff_eq]at this;omega
  have htl:(rs.take k).length=k:=by simp;omega
  have hnu:=EB (rs.take k) d (h.ok d hdm) hdl oz;rw[htl]at hnu;refine gs (cV (.tmp rfl) (.none _) (.some _ (.tmp rfl) oz) T35 rfl T67 rfl oz (by simp only[length_map];omega) rfl) ?_ (9,0);refine gW (Wk.of (sl:=[(1,some (.ptr 1 0)),(3,some (i64 k)),(4,some (nR d)),(5,some (.ptr 5 0)),(13,some (.lst 1 (rs.map nR))),(14,some (i64 rs.length)),(15,some (i64 k))]) (hp:=[(1,some (.box [.lst 1 (rs.map nR)])),(5,some (.box [.lst 1 ((rs.take k).map nR)]))]) aV (.k (.cons rfl (BlkSub.bL (.cons (.of (S9 nR rs k)) .nil) rfl) .nil))) ?_;refine gc hnu ?_;refine gC (fun t35=>?_) (fun t35=>?_)
  ·have h2:=cU t35;refine ae ?_;rw[Is h5 hd hj h1 h2]
  have h2:=cP t35;have hts:=Ii (ts:=llq rs) (fun j hjk=>(hj j hjk).nl) h.rb;have hq:=w7 h2 (h.ok d hdm);have hcb:Cb r (lq d):=by have:=h.rb.cb k;rw[sZ,getD_eq_getElem?_getD,hd]at this;exact this
  have hsg:FP 228 [cZ (rs.take k),nR d] (i64 (T.sgn (aj (llq rs)) k (ad k (lq d)))):=by
   have h9:=oe ((llq rs).take k) k r hts oz (by simp;omega) k (lq d) r (le_refl _) hq.2 hcb (mJ (le_refl k) (by have:=h.three;omega) hr (by have:=iu k;omega));rw[T.sgn_congr k (fun j hjk=>wH hjk)]at h9;rw[Mc h.ok oz hj,hq.1,eA];rw[<- hq.1];exact h9
  refine gc hsg ?_;refine gC (fun t40=>?_) (fun t40=>?_)
  ·have h3 : T.sgn (aj (llq rs)) k (ad k (lq d)) < 0 := by simpa [aa] using t40
   refine ae ?_;rw[Cv h5 hd hj h1 h2 h3];rfl
  have h3:¬T.sgn (aj (llq rs)) k (ad k (lq d))<0:=by simpa[aa]using t40
  refine ga aF ?_;exact aE J1 (k+1) ⟨hin,fun j hjk=>by rcases lt_or_ge j k with h9 |h9;exact hj j h9;(have:j=k:=by omega);subst this;exact Gk hd h1 h2 h3⟩
 have hin:k=rs.length:=by have:rs.length<=k:=(by simpa[aa]using t16);omega
 subst hin;refine ae ?_;rw[HQ h5 hj];rfl
theorem lY(rs:List (List Rt))(r:Nat)(h:TR rs r)(xs:List (List Rt))(hx:∀a∈xs,(∀x∈a,x.ok)/\a.length<=281474976710656)(hl:xs.length<=281474976710656):FP 243 [cZ rs,.lst 1 (xs.map nR)] (bj (bn rs xs)):=by
 refine ah func243 ?_;refine gc (nP rs r h) ?_;refine gC (fun t12=>?_) (fun t12=>?_)
 ·have h1:=cU t12;refine ae ?_;rw[If h1]
 have h1:=cP t12;refine gl ?_;refine aI [2,14,15] [2] (fun(i:Nat)=>[(16,some (i64 i))]) (fun _=>[]) (fun i=>i<=xs.length/\∀x∈xs.take i,bQ rs.length x=0) (fun i=>xs.length-i) 0 ⟨zero_le _,fun x hx=>by simp at hx⟩ ?_;rintro i ⟨hi,hj⟩ K1 J1;refine gC (fun t17=>?_) (fun t17=>?_)
 ·have hin : i < xs.length := by simpa [aa] using t17
  obtain⟨a,ha⟩:=au hin;have hok:=hx a (mem_of_getElem? ha);refine gi (ax ha) ?_;refine gc (EB rs a hok.1 hok.2 h.ll) ?_;refine gC (fun t24=>?_) (fun t24=>?_)
  ·have h2:=cU t24;refine ae ?_;rw[rO h1 ha hj h2]
  have h2:=cP t24;refine ga aF ?_;exact aE J1 (i+1) ⟨hin,fun x hx=>by rw[dj ha]at hx;rcases List.mem_append.1 hx with h9 |h9;exact hj x h9;(rw[List.mem_singleton.1 h9];exact h2)⟩
 have hin:i=xs.length:=by have:xs.length<=i:=(by simpa[aa]using t17);omega
 subst hin;rw[take_length]at hj;refine ae ?_;rw[pS h1 hj];rfl
theorem UV(rs:List (List Rt))(r:Nat)(h:TR rs r)(a:List Rt)(e:Nat)(ha:NR a e):FP 321 [cZ rs,nR a] (bl (decide (bn rs [a]=0))):=by
 refine ah func321 ?_;refine gc (lY rs r h [a] (fun x hx=>by rw[List.mem_singleton.1 hx];exact⟨ha.ok,ha.len⟩) (by simp)) ?_;refine ae ?_;rw[wE];rfl
theorem Ai(rs:List (List Rt))(r:Nat)(h:TR rs r)(a:List Rt)(e:Nat)(ha:NR a e)(he:e<=lm rs.length) :
  FP 138 [cZ rs,nR a] (.tup [nA (if bn rs [a]=0 then sh rs.length (T.neg rs.length (ad rs.length (lq a)))else[]),bj (bn rs [a])]):=by
 have hlm:=kg rs.length;refine ah func138 ?_;refine gc (lY rs r h [a] (fun x hx=>by rw[List.mem_singleton.1 hx];exact⟨ha.ok,ha.len⟩) (by simp)) ?_;refine gC (fun t12=>?_) (fun t12=>?_) (st2:=(77777,0))
 ·have h1:=cU t12;refine gR ?_;exact eH (by rw[if_neg h1];exact Sub.tup (.cons (.nil _ _ _) (.cons (.refl _) .nil)))
 have h1:=cP t12;obtain⟨h2,h3⟩:=mI h1;obtain⟨tw,_⟩:=dh h h2;obtain⟨e1,na⟩:=ha.num (h3 a (by simp));have h5:rs.length<=5:=by have:=tw.five;rwa [length_map]at this
 have hl:=na.len5 h5;have qa:∀q∈lq a,Qs q:=fun q hq=>ha.cb.qs oz hq
 have qm:∀q∈cE (lq a),Qs q:=fun q hq=>ha.cb.minus.qs oz hq
 have nm:=nW na;refine gW (Wk.of (sl:=[(1,some (nA (lq a))),(2,some (.ptr 2 0)),(6,some (bj (bn rs [a])))]) (hp:=[(2,some (.box [.lst 1 (rs.map nR)]))]) (.cons rfl (Sub.of e1) (.k (.k .nil))) (.k .nil)) ?_;refine gc (tz _ qa oz) ?_;refine gc (lC _ h5 nm qm) ?_;refine ba ?_;rw[if_pos h1,h1,l7];rfl
theorem Ub(rs:List (List Rt))(r:Nat)(h:TR rs r)(a b:List Rt)(e f:Nat)(ha:NR a e)(hb:NR b f)(he:e+f<=lm rs.length) :
  FP 329 [cZ rs,nR a,nR b] (.tup [nA (if bn rs [a,b]=0 then sh rs.length (T.add rs.length (ad rs.length (lq a)) (ad rs.length (lq b)))else[]),bj (bn rs [a,b])]):=by
 have hlm:=kg rs.length;refine ah func329 ?_;refine gc (lY rs r h [a,b] (q7 ha hb) (by simp)) ?_;refine gC (fun t15=>?_) (fun t15=>?_) (st2:=(77777,0))
 ·have h1:=cU t15;refine gR ?_;exact eH (by rw[if_neg h1];exact Sub.tup (.cons (.nil _ _ _) (.cons (.refl _) .nil)))
 have h1:=cP t15;obtain⟨h2,h3⟩:=mI h1;obtain⟨tw,e0⟩:=dh h h2;obtain⟨e1,na⟩:=ha.num (h3 a (by simp));obtain⟨e2,nb⟩:=hb.num (h3 b (by simp));have h5:rs.length<=5:=by have:=tw.five;rwa [length_map]at this
 have hla:=na.len5 h5;have hlb:=nb.len5 h5;have qa:∀q∈lq a,Qs q:=fun q hq=>ha.cb.qs oz hq
 have qb:∀q∈lq b,Qs q:=fun q hq=>hb.cb.qs oz hq
 have qp:∀q∈b9 (lq a) (lq b),Qs q:=fun q hq=>(ha.cb.plus hb.cb).qs oz hq
 have np:=nV na nb;refine gW (Wk.of (sl:=[(1,some (nA (lq a))),(2,some (nA (lq b))),(3,some (.ptr 3 0)),(8,some (bj (bn rs [a,b])))]) (hp:=[(3,some (.box [.lst 1 (rs.map nR)]))]) (.cons rfl (Sub.of e1) (.cons rfl (Sub.of e2) (.k (.k .nil)))) (.k .nil)) ?_;refine gc (oR _ _ qa qb oz oz) ?_;refine gc (lC _ h5 np qp) ?_;refine ba ?_;rw[if_pos h1,h1,iW];rfl
theorem Jp(rs:List (List Rt))(r:Nat)(h:TR rs r)(a b:List Rt)(e f:Nat)(ha:NR a e)(hb:NR b f)(he:e+f<=lm rs.length) :
  FP 163 [cZ rs,nR a,nR b] (.tup [nA (if bn rs [a,b]=0 then sh rs.length (T.add rs.length (ad rs.length (lq a)) (T.neg rs.length (ad rs.length (lq b))))else[]),bj (bn rs [a,b])]):=by
 have hlm:=kg rs.length;refine ah func163 ?_;refine gc (lY rs r h [a,b] (q7 ha hb) (by simp)) ?_;refine gC (fun t15=>?_) (fun t15=>?_) (st2:=(77777,0))
 ·have h1:=cU t15;refine gR ?_;exact eH (by rw[if_neg h1];exact Sub.tup (.cons (.nil _ _ _) (.cons (.refl _) .nil)))
 have h1:=cP t15;obtain⟨h2,h3⟩:=mI h1;obtain⟨tw,e0⟩:=dh h h2;obtain⟨e1,na⟩:=ha.num (h3 a (by simp));obtain⟨e2,nb⟩:=hb.num (h3 b (by simp));have h5:rs.length<=5:=by have:=tw.five;rwa [length_map]at this
 have hla:=na.len5 h5;have hlb:=nb.len5 h5;have qa:∀q∈lq a,Qs q:=fun q hq=>ha.cb.qs oz hq
 have qb:∀q∈lq b,Qs q:=fun q hq=>hb.cb.qs oz hq
 have qm:∀q∈cE (lq b),Qs q:=fun q hq=>hb.cb.minus.qs oz hq
 have qp:∀q∈b9 (lq a) (cE (lq b)),Qs q:=fun q hq=>(ha.cb.plus hb.cb.minus).qs oz hq
 have np:=nV na (nW nb);refine gW (Wk.of (sl:=[(1,some (nA (lq a))),(2,some (nA (lq b))),(3,some (.ptr 3 0)),(8,some (bj (bn rs [a,b])))]) (hp:=[(3,some (.box [.lst 1 (rs.map nR)]))]) (.cons rfl (Sub.of e1) (.cons rfl (Sub.of e2) (.k (.k .nil)))) (.k .nil)) ?_;refine gc (tz _ qb oz) ?_;refine gc (oR _ _ qa qm oz (by rw[ic];omega)) ?_;refine gc (lC _ h5 np qp) ?_;refine ba ?_;rw[if_pos h1,h1,iW,l7];rfl
theorem VD(rs:List (List Rt))(r:Nat)(h:TR rs r)(a b:List Rt)(e f:Nat)(ha:NR a e)(hb:NR b f)(he:e+f<=lm rs.length) :
  FP 164 [cZ rs,nR a,nR b] (.tup [nA (if bn rs [a,b]=0 then sh rs.length (T.mul (aj (llq rs)) rs.length (ad rs.length (lq a)) (ad rs.length (lq b)))else[]),bj (bn rs [a,b])]):=by
 have hr:=h.le;have hlm:=kg rs.length;refine ah func164 ?_;refine gc (lY rs r h [a,b] (q7 ha hb) (by simp)) ?_;refine gC (fun t15=>?_) (fun t15=>?_) (st2:=(77777,0))
 ·have h1:=cU t15;refine gR ?_;exact eH (by rw[if_neg h1];exact Sub.tup (.cons (.nil _ _ _) (.cons (.refl _) .nil)))
 have h1:=cP t15;obtain⟨h2,h3⟩:=mI h1;obtain⟨tw,e0⟩:=dh h h2;obtain⟨e1,na⟩:=ha.num (h3 a (by simp));obtain⟨e2,nb⟩:=hb.num (h3 b (by simp));have hlen:(llq rs).length=rs.length:=length_map _;have h5:rs.length<=5:=by have:=tw.five;omega
 have hla:=na.len5 h5;have hlb:=nb.len5 h5;have htw:=tw.ok;rw[hlen]at htw;have hE:=Sw r h5;have np:=fW (llq rs) rs.length htw.1 rs.length rs.length _ _ (le_refl _) (le_refl _) na nb;have cp:=Cb.mul htw (k:=rs.length) (le_refl rs.length) (le_refl _) na nb ha.cb hb.cb;have hti:=pW (llq rs) rs.length r htw h5 oz rs.length rs.length _ _ e f (le_refl _) (le_refl _) na nb ha.cb hb.cb oz;refine gW (Wk.of (sl:=[(1,some (nA (lq a))),(2,some (nA (lq b))),(3,some (.ptr 3 0)),(8,some (bj (bn rs [a,b])))]) (hp:=[(3,some (.box [.lst 1 ((llq rs).map nA)]))]) (.cons rfl (Sub.of e1) (.cons rfl (Sub.of e2) (.k (.k .nil)))) (.cons rfl (BlkSub.bL (.cons (.of (l0 e0)) .nil) rfl) .nil)) ?_;refine gc hti ?_;refine gc (lC _ h5 np.1 (fun q hq=>cp.qs oz hq)) ?_;refine ba ?_;rw[if_pos h1,h1,np.2];rfl
theorem ST(rs:List (List Rt))(r:Nat)(h:TR rs r)(a b:List Rt)(e f:Nat)(ha:NR a e)(hb:NR b f)(he:e+f+1<=lm rs.length) :
  FP 210 [cZ rs,nR a,nR b] (.tup [i64 (if bn rs [a,b]=0 then T.sgn (aj (llq rs)) rs.length (T.add rs.length (ad rs.length (lq a)) (T.neg rs.length (ad rs.length (lq b))))else 0),bj (bn rs [a,b])]):=by
 have hr:=h.le;have hlm:=kg rs.length;refine ah func210 ?_;refine gc (lY rs r h [a,b] (q7 ha hb) (by simp)) ?_;refine gC (fun t15=>?_) (fun t15=>?_) (st2:=(77777,0))
 ·have h1:=cU t15;refine ba ?_;rw[if_neg h1];rfl
 have h1:=cP t15;obtain⟨h2,h3⟩:=mI h1;obtain⟨tw,e0⟩:=dh h h2;obtain⟨e1,na⟩:=ha.num (h3 a (by simp));obtain⟨e2,nb⟩:=hb.num (h3 b (by simp));have hlen:(llq rs).length=rs.length:=length_map _;have h5:rs.length<=5:=by have:=tw.five;omega
 have hla:=na.len5 h5;have hlb:=nb.len5 h5;have htw:=tw.ok;rw[hlen]at htw;have qa:∀q∈lq a,Qs q:=fun q hq=>ha.cb.qs oz hq
 have qb:∀q∈lq b,Qs q:=fun q hq=>hb.cb.qs oz hq
 have qm:∀q∈cE (lq b),Qs q:=fun q hq=>hb.cb.minus.qs oz hq
 have np:=nV na (nW nb);have hsg:=oe (llq rs) rs.length r htw h5 oz rs.length _ _ (le_refl _) np (ha.cb.plus hb.cb.minus) (mJ (le_refl rs.length) (by have:=tw.three;omega) hr oz);refine gW (Wk.of (sl:=[(1,some (nA (lq a))),(2,some (nA (lq b))),(3,some (.ptr 3 0)),(8,some (bj (bn rs [a,b])))]) (hp:=[(3,some (.box [.lst 1 ((llq rs).map nA)]))]) (.cons rfl (Sub.of e1) (.cons rfl (Sub.of e2) (.k (.k .nil)))) (.cons rfl (BlkSub.bL (.cons (.of (l0 e0)) .nil) rfl) .nil)) ?_;refine gc (tz _ qb oz) ?_;refine gc (oR _ _ qa qm oz (by rw[ic];omega)) ?_;refine gc hsg ?_;refine gD ?_;refine ba ?_;rw[if_pos h1,h1,iW,l7];rfl
theorem Kc(rs:List (List Rt))(r:Nat)(h:TR rs r)(a:List Rt)(e:Nat)(ha:NR a e)(he:e<=lm rs.length) :
  FP 267 [cZ rs,nR a] (.tup [i64 (if bn rs [a]=0 then T.sgn (aj (llq rs)) rs.length (ad rs.length (lq a))else 0),bj (bn rs [a])]):=by
 have hr:=h.le;have hlm:=kg rs.length;refine ah func267 ?_;refine gc (lY rs r h [a] (fun x hx=>by rw[List.mem_singleton.1 hx];exact⟨ha.ok,ha.len⟩) (by simp)) ?_;refine gC (fun t12=>?_) (fun t12=>?_) (st2:=(77777,0))
 ·have h1:=cU t12;refine ba ?_;rw[if_neg h1];rfl
 have h1:=cP t12;obtain⟨h2,h3⟩:=mI h1;obtain⟨tw,e0⟩:=dh h h2;obtain⟨e1,na⟩:=ha.num (h3 a (by simp));have hlen:(llq rs).length=rs.length:=length_map _;have h5:rs.length<=5:=by have:=tw.five;omega
 have htw:=tw.ok;rw[hlen]at htw;have hsg:=oe (llq rs) rs.length r htw h5 oz rs.length _ _ (le_refl _) na ha.cb (mJ (le_refl rs.length) (by have:=tw.three;omega) hr oz);refine gW (Wk.of (sl:=[(1,some (nA (lq a))),(2,some (.ptr 2 0)),(6,some (bj (bn rs [a])))]) (hp:=[(2,some (.box [.lst 1 ((llq rs).map nA)]))]) (.cons rfl (Sub.of e1) (.k (.k .nil))) (.cons rfl (BlkSub.bL (.cons (.of (l0 e0)) .nil) rfl) .nil)) ?_;refine gc hsg ?_;refine ba ?_;rw[if_pos h1,h1];rfl
theorem AU(x:Rt)(hx:x.ok)(hs:Qs x.q):FP 126 [x.av] (nA (sh 0 (x.q:Rat))):=by
 have hadd:=oG x (rt 0) hx Qs.zero.ok;rw[sF]at hadd;refine ah func126 ?_;refine gc (Con.sA (.cons (.refl _) (.cons jy .nil)) hadd) ?_;refine gc (lC (n:=0) [x.q] oz (.inr ⟨0,le_refl _,rfl⟩) (fun q hq=>by rw[List.mem_singleton.1 hq];exact hs)) ?_;refine ae ?_;rfl
theorem sH(n:Nat)(hn:n<=281474976710656):FP 277 [i64 n] (.tup [i64 (kG n),bl (kK n)]):=by
 refine ah func277 ?_;refine aI [0] [] (fun(k:Nat)=>[(5,some (i64 k))]) (fun _=>[]) (fun k=>k<=6/\∀j,j<k->n≠2^j) (fun k=>6-k) 0 ⟨by omega,fun j h=>by omega⟩ ?_;rintro k ⟨hk,hj⟩ K1 J1;refine gC (fun t6=>?_) (fun t6=>?_)
 ·have h1 : k < 6 := by have := t6; simp only [aa, decide_eq_true_eq] at this; omega
  refine gs (gI (.const _) (.tmp rfl) oz (ol oz) rfl) ?_;refine gC (fun t11=>?_) (fun t11=>?_)
  ·have h2 : n = 2 ^ k := by have := t11; simp only [aa, beq_iff_eq] at this; omega
   refine ba ?_;rw[h2,(l9 oz).1,(l9 oz).2];rfl
  have h2:n≠2^k:=by have:=t11;simp only[aa,beq_eq_false_iff_ne,ne_eq]at this;omega
  refine ga (c9 oz) ?_;exact aE J1 (k+1) ⟨by omega,fun j h=>by rcases lt_or_ge j k with h3 |h3;exact hj j h3;(have:j=k:=by omega);subst this;exact h2⟩
 have h1:k=6:=by have:=t6;simp only[aa,decide_eq_false_iff_not]at this;omega
 subst h1;refine ba ?_;rw[(Gm hj).1,(Gm hj).2];rfl
theorem I9(m:Nat)(hm:m<=5)(a:List Rt)(ha:∀r∈a,r.ok)(hl:a.length<=281474976710656):FP 180 [i64 m,nR a] (i64 (bQ m a)):=by
 refine ah func180 ?_;refine gl ?_;refine gc (sH a.length hl) ?_;refine gl ?_;refine gC (fun t26=>?_) (fun t26=>?_)
 ·have h1:a≠[]/\(cC a.length<0\/(m:Int)<cC a.length):=(Il hm a).2 (VR t26);refine ae ?_;unfold bQ;rw[if_pos h1];rfl
 have hn:¬(a≠[]/\(cC a.length<0\/(m:Int)<cC a.length)):=fun h=>Te t26 ((Il hm a).1 h)
 refine gl ?_;refine aI [27,28] [] (fun(i:Nat)=>[(29,some (i64 i))]) (fun _=>[]) (fun i=>i<=a.length/\(a.take i).all Rt.valid=true) (fun i=>a.length-i) 0 ⟨zero_le _,by simp⟩ ?_;rintro i ⟨hi,hv⟩ K1 J1;refine gC (fun t30=>?_) (fun t30=>?_)
 ·have hin : i < a.length := by simpa [aa] using t30
  obtain⟨r,hr⟩:=au hin;have hrok:=ha r (mem_of_getElem? hr);refine gi (ax hr) ?_;refine gc (wd r hrok) ?_;refine gC (fun t35=>?_) (fun t35=>?_)
  ·have hrv : r.valid = false := by simpa using t35
   refine ae ?_;unfold bQ;rw[if_neg hn,if_neg]
   ·rfl
   ·rw[all_eq_true];intro h;rw[h r (mem_of_getElem? hr)]at hrv;cases hrv
  have hrv:r.valid=true:=by simpa using t35
  refine ga aF ?_;exact aE J1 (i+1) ⟨by omega,by rw[dj hr,all_append,hv];simp[hrv]⟩
 have hin:i=a.length:=by have:a.length<=i:=(by simpa[aa]using t30);omega
 subst hin;rw[take_length]at hv;refine ae ?_;unfold bQ;rw[if_neg hn,if_pos hv];rfl
theorem DO(a:List Rat)(hl:a.length<=281474976710656):FP 283 [nA a] (bl (bf a)):=by
 refine ah func283 ?_;refine gl ?_;refine aI [5,6] [] (fun(i:Nat)=>[(7,some (i64 i))]) (fun _=>[]) (fun i=>i<=a.length/\bf (a.take i)=true) (fun i=>a.length-i) 0 ⟨zero_le _,by simp[bf]⟩ ?_;rintro i ⟨hi,hv⟩ K1 J1;refine gC (fun t8=>?_) (fun t8=>?_)
 ·have hin : i < a.length := by simpa [aa] using t8
  obtain⟨q,hq⟩:=au hin;refine gi (ax hq) ?_;refine ci ?_;refine ci ?_;refine gC (fun t24=>?_) (fun t24=>?_)
  ·have h0:q≠0:=Tb t24;refine ae ?_
   have:bf a=false:=by
    rw[Bool.eq_false_iff];intro h;exact h0 (by simpa using List.all_eq_true.1 h q (mem_of_getElem? hq))
   rw[this];rfl
  have h0:q=0:=V6 t24;refine ga aF ?_;exact aE J1 (i+1) ⟨by omega,by rw[dj hq];simp only[bf,all_append,and_eq_true];exact⟨hv,by simp[h0]⟩⟩
 have hin:i=a.length:=by have:a.length<=i:=(by simpa[aa]using t8);omega
 subst hin;rw[take_length]at hv;refine ae ?_;rw[hv];rfl
theorem xx{n:Nat}(a:List Rat)(hn:n<=5)(ha:Nl n a):FP 182 [nA a] (nA (sh n (ad n a))):=by
 have hl:=ha.len5 hn;rw[<- tL ha hn];refine ah func182 ?_;refine gl ?_;refine gc (sH a.length oz) ?_;refine gC (fun t13=>?_) (fun t13=>?_)
 ·have h0:a=[]:=by
   rcases ha with h |⟨j,hj,h⟩
   ·exact h
   ·have h9:=t13;rw[h,(l9 oz).2]at h9;cases h9
  refine gs (jD T67 rfl T45 rfl rfl rfl) ?_;refine gs (qg (.tmp rfl) rfl rfl (.tmp rfl) T67 rfl T45 rfl rfl (by simp[h0]) rfl rfl) ?_;refine ae ?_;subst h0;rfl
 refine gl ?_;refine aI [0] [] (fun(m:Nat)=>[(5,some (i64 m))]) (fun _=>[]) (fun m=>mi a m) (fun m=>m) a.length (DR (ha.mono hn)) ?_;rintro m hm K1 J1;refine gs (ee rfl rfl rfl (fun h=>eJ (.opt rfl (o1 h)) (.const _) oz (fI (by have:=hm.le;omega)) rfl)) ?_;refine gs (ee rfl rfl rfl (fun h=>cV (.opt rfl (o1 h)) (.some _ (.opt rfl (o1 h)) oz) (.some _ (.opt rfl (o1 h)) oz) T67 rfl T45 rfl oz (by have:=hm.le;simp;omega) rfl)) ?_;refine bJ (fun _=>(by have h9:=DO ((a.drop (m/2)).take (m-m/2)) (by simp;omega);rw[<- s9]at h9;exact h9)) ?_;refine gC (fun t28=>?_) (fun t28=>?_)
 ·have h1:1<m/\bf ((a.drop (m/2)).take (m-m/2))=true:=by
   have h9:=t28
   by_cases h:(m:Int)>1
   ·simp only[aa,decide_eq_true h,cond_true]at h9;exact⟨by omega,h9⟩
   ·simp only[aa,decide_eq_false h,cond_false]at h9;cases h9
  refine gs (eJ (.tmp rfl) (.const _) oz (fI (by have:=hm.le;omega)) rfl) ?_;exact aE J1 (m/2) (Gt hm h1.1 h1.2)
 have h1:1<m->bf ((a.drop (m/2)).take (m-m/2))=false:=by
  intro h;have h9:=t28;simp only[aa,decide_eq_true (show(m:Int)>1 by omega),cond_true]at h9;exact h9
 refine gs (ee rfl rfl rfl (fun h=>cV (.opt rfl (o1 h)) (.none _) (.some _ (.const _) oz) T67 rfl T45 rfl oz (by have h8:(m:Int)=1:=(by simpa[aa]using h);have:=hm.le;simp only[length_map];omega) rfl)) ?_;refine bJ (fun _=>(by have h9:=DO ((a.drop 0).take 1) (by simp;omega);rw[<- s9]at h9;exact h9)) ?_;refine gC (fun t37=>?_) (fun t37=>?_)
 ·have h2:m=1/\bf (a.take 1)=true:=by
   have h9:=t37
   by_cases h:m=1
   ·rw[h]at h9;exact⟨h,h9⟩
   ·rw[show aa .eql (m:Int) 1=false by simp[aa];omega]at h9;cases h9
  obtain⟨rfl,h3⟩:=h2;refine gR ?_;exact jr (by rw[Ic hm h3];exact Sub.nil _ _ _)
 have h2:m=1->bf (a.take 1)=false:=by
  intro h;have h9:=t37;rw[h]at h9;exact h9
 have h3:=Eo hm h1 h2;refine gs (jD T67 rfl T45 rfl rfl rfl) ?_;refine gs (cV (.tmp rfl) (.none _) (.some _ (.tmp rfl) oz) T67 rfl T45 rfl oz (by have:=hm.le;simp;omega) rfl) ?_;refine gs (qg (.tmp rfl) rfl rfl (.tmp rfl) T67 rfl T45 rfl rfl (by simp only[length_take,List.length_drop,length_map];omega) rfl rfl) ?_;refine ae ?_;rw[h3];simp[nA,map_take]
theorem yt(d:Nat)(hd:Nat.blt d 1000=true)(a:List Rat)(n:Nat)(hl:a.length<=n)(hn:n<=1099511627776) :
  Con prog 181 [nA a,i64 n] [] (.ms d 3 0 n) [(d,some (.row 3 ((aP a n).map qA)))]:=by
 refine gF func181 (fun k z h=>by cases h) ?_;refine gs (jD T67 rfl T45 rfl rfl rfl) ?_;refine gs (cf (.tmp rfl) rfl rfl (.tmp rfl) T67 rfl T45 rfl rfl (by simp only[length_map];omega) rfl rfl) ?_;refine gW (Wk.of (sl:=[(1,some (i64 n)),(5,some (.ms 8 3 0 a.length))]) (hp:=[(8,some (.row 3 ((aP a a.length).map qA)))]) (.k (.cons rfl (Sub.of (by simp)) .nil)) (.cons rfl (BlkSub.of (by simp[aP])) .nil)) ?_ (99999,0);refine gW (Wk.rk (k:=8) (d:=900) rfl rfl) ?_;refine aI [1] [] (fun(i:Nat)=>[(5,some (.ms 900 3 0 i))]) (fun i=>[(900,some (.row 3 ((aP a i).map qA)))]) (fun i=>a.length<=i/\i<=n) (fun i=>n-i) a.length ⟨le_refl _,hl⟩ ?_;rintro i ⟨hi,hin⟩ K1 J1;refine gC (fun t12=>?_) (fun t12=>?_)
 ·have h1 : i < n := by have := t12; simp only [aa, decide_eq_true_eq] at this; omega
  refine gs (cf (.tmp rfl) rfl (by rw[length_map,dC hi]) (.tmp rfl) T67 rfl T45 rfl rfl (by simp;omega) rfl rfl) ?_;exact aE J1 (i+1) ⟨by omega,h1⟩ (hw:=(Wk.of (sl:=[(1,some (i64 n)),(5,some (.ms 16 3 0 (i+1)))]) (hp:=[(16,some (.row 3 ((aP a (i+1)).map qA)))]) aV (.cons rfl (Rm a i hi) .nil)).trans<|(Wk.rk (k:=16) (d:=900) rfl rfl).trans<|Wk.o)
 have h1:i=n:=by have:=t12;simp only[aa,decide_eq_false_iff_not]at this;omega
 subst h1;refine gR ?_;exact aq.own1 rfl hd rfl
theorem rV(a:List Rat)(n:Nat)(hl:a.length<=n)(hn:n<=1099511627776):FP 181 [nA a,i64 n] (nA (aP a n)):=by
 have h:=Con.freeze (by rw[length_map,dC hl];omega) (yt 0 rfl a n hl hn);rw[drop_zero,take_of_length_le (by rw[length_map,dC hl];exact le_refl _)]at h;exact h
theorem wR(a b:List Rat)(ha:∀q∈a,Qs q)(hb:∀q∈b,Qs q)(la:a.length<=1099511627776)(lb:b.length<=1099511627776):FP 171 [nA a,nA b] (nA (b9 a b)):=by
 obtain⟨n,hn⟩:∃n,n=max a.length b.length:=⟨_,rfl⟩
 have hwa:=dC (show a.length<=n by omega);have hwb:=dC (show b.length<=n by omega);have hp:=dW (a:=a) (b:=b);rw[<- hn]at hp;have qa:∀q∈aP a n,Qs q:=fun q hq=>by rcases List.mem_append.1 hq with h |h;exact ha q h;(rw[(List.mem_replicate.1 h).2];exact Qs.zero)
 have qb:∀q∈aP b n,Qs q:=fun q hq=>by rcases List.mem_append.1 hq with h |h;exact hb q h;(rw[(List.mem_replicate.1 h).2];exact Qs.zero)
 refine ah func171 ?_;refine gl ?_;refine gl ?_;refine gs (p4 (.tmp rfl) (.tmp rfl) rfl) ?_ (2,0);refine gW (Wk.of (sl:=[(0,some (nA a)),(1,some (nA b)),(5,some (i64 n))]) (hp:=[]) (.k (.k (.cons rfl (Sub.int oz) .nil))) .nil) ?_;refine go ?_;refine gt (ay (yt 900 rfl a n oz oz) (bm rfl rfl) az rfl rfl) ?_;refine gc (rV b n oz oz) ?_;refine aI [1,19] [] (fun(i:Nat)=>[(0,some (.ms 900 3 0 n)),(20,some (i64 i))]) (fun i=>[(900,some (.row 3 (((b9 a b).take i++(aP a n).drop i).map qA)))]) (fun i=>i<=n) (fun i=>n-i) 0 (zero_le _) ?_;rintro i hi K1 J1;refine gC (fun t21=>?_) (fun t21=>?_) (st2:=(8,0))
 ·have hin : i < n := by simpa [aa] using t21
  have hmx:=yQ (p:=b9 a b) (w:=aP a n) (i:=i) oz oz;have hqa:=(qa _ (sY (i:=i) oz)).ok;have hqb:=(qb _ (sY (i:=i) oz)).ok;refine gs (bR (n:=i) (.tmp rfl) (.tmp rfl) T67 rfl T45 rfl oz oz rfl) ?_;refine gs (dX (.tmp rfl) rfl (ax hmx) T45 rfl rfl rfl) ?_;refine gi (ax (getD_some (i:=i) (l:=aP b n) oz)) ?_;refine gc (x9 (rt ((aP a n).getD i 0)) (rt ((aP b n).getD i 0)) hqa hqb) ?_;refine gs (bR (n:=i) (.tmp rfl) (.tmp rfl) T67 rfl T45 rfl oz oz rfl) ?_;refine gs (dG (.tmp rfl) rfl (ax hmx) rfl (.tmp rfl) rfl rfl T45 rfl rfl) ?_;refine gD ?_ (7,0);refine gW (Wk.of (sl:=[(0,some (.ms 900 3 0 n)),(1,some (nA (aP b n))),(19,some (i64 n)),(20,some (i64 i))]) (hp:=[(900,some (.row 3 (((b9 a b).take (i+1)++(aP a n).drop (i+1)).map qA)))]) aV (.cons rfl (BlkSub.of (by rw[yN oz oz (by rw[FE,<- hn,bP,bP])])) .nil)) ?_;refine ga aF ?_;exact aE J1 (i+1) hin
 have hin:i=n:=by have:n<=i:=(by simpa[aa]using t21);omega
 refine gW ((Wk.freeze (k:=900) rfl).trans<|Wk.of (sl:=[(0,some (nA (b9 a b)))]) (hp:=[]) (.cons rfl (Sub.of (by rw[bN (by simp;omega),hin,List.drop_of_length_le oz,take_of_length_le oz,append_nil];rfl)) .nil) .nil) ?_;refine ae ?_;rfl
theorem DA(a:List Rat)(ha:∀q∈a,Qs q)(hl:a.length<=1099511627776):FP 172 [nA a] (nA (cE a)):=by
 refine ah func172 ?_;refine gl ?_;refine gW (Wk.virt 900 3 rfl) ?_;refine aI [6,7] [] (fun(i:Nat)=>[(3,some (.ms 900 3 0 i)),(8,some (i64 i))]) (fun i=>[(900,some (.row 3 ((cE (a.take i)).map qA)))]) (fun i=>i<=a.length) (fun i=>a.length-i) 0 (zero_le _) ?_;rintro i hi K1 J1;refine gC (fun t9=>?_) (fun t9=>?_) (st2:=(7,0))
 ·have hin : i < a.length := by simpa [aa] using t9
  obtain⟨q,hq⟩:=au hin;have hqs:=(ha q (mem_of_getElem? hq)).ok;refine gi (ax hq) ?_;refine gc (CY (rt q) hqs) ?_;refine gs (cf (.tmp rfl) rfl (by simp[cE];omega) (.tmp rfl) T67 rfl T45 rfl rfl (by simp;omega) rfl rfl) ?_ (6,0);refine gW (Wk.of (sl:=[(3,some (.ms 16 3 0 (i+1))),(6,some (nA a)),(7,some (i64 a.length)),(8,some (i64 i))]) (hp:=[(16,some (.row 3 ((cE (a.take (i+1))).map qA)))]) aV (.cons rfl (BlkSub.of (by rw[dj hq];simp only[cE,map_append,bP];rfl)) .nil)) ?_ (6,0);refine gW (Wk.rk (k:=16) (d:=900) rfl rfl) ?_;refine ga aF ?_;exact aE J1 (i+1) hin
 have hin:i=a.length:=by have:a.length<=i:=(by simpa[aa]using t9);omega
 subst hin;refine gW ((Wk.freeze (k:=900) rfl).trans<|Wk.of (sl:=[(3,some (nA (cE a)))]) (hp:=[]) (.cons rfl (Sub.of (by rw[bN (by simp[cE]),take_length];rfl)) .nil) .nil) ?_;refine ae ?_;rfl
theorem xu(ts:LL)(m r:Nat)(ht:iG ts m r)(hm:m<=5)(R:List AV)(hR:∀j,j<m->R[j]?=some (nA (ts.getD j [])))(k:Nat):∀(j:Nat)(a b:List Rat)(e f:Nat),j<=m->j<=k->Nl j a->Nl j b->Cb e a->Cb f b->e+f+eB r j<4398046511104 ->
  FP 183 [.agg [.lst 1 R],nA a,nA b] (nA (rT ts k a b)):=by
 induction k using Nat.strongRecOn
 rename_i k ih;intro j a b e f hj hjk ha hb ca cb hs;obtain⟨nx,dx⟩:=wk ha oz;obtain⟨ny,dy⟩:=wk hb oz;have cx:Cb e (a9 5 a):=ca.sub (fun q hq=>tR 5 hq);have cy:Cb f (a9 5 b):=cb.sub (fun q hq=>tR 5 hq);have k1:=xx a oz ha;have k2:=xx b oz hb;rw[<- tL ha oz]at k1;rw[<- tL hb oz]at k2;obtain⟨x,hx⟩:∃x,x=a9 5 a:=⟨_,rfl⟩
 obtain⟨y,hy⟩:∃y,y=a9 5 b:=⟨_,rfl⟩
 rw[<- hx]at k1 nx dx cx;rw[<- hy]at k2 ny dy cy;have hlx:=nx.len5 oz;have hly:=ny.len5 oz;obtain⟨n,hn⟩:∃n,n=max x.length y.length:=⟨_,rfl⟩
 refine ah func183 ?_;refine gc k1 ?_;refine gc k2 ?_;refine gl ?_;refine gl ?_;refine gs (p4 (.tmp rfl) (.tmp rfl) rfl) ?_ (3,0);refine gW (Wk.of (sl:=[(1,some (nA x)),(2,some (nA y)),(3,some (.ptr 3 0)),(7,some (i64 n))]) (hp:=[(3,some (.box [.lst 1 R]))]) (.k (.k (.k (.cons rfl (Sub.int oz) .nil)))) (.k .nil)) ?_;refine gl ?_;refine ci ?_;refine gC (fun t32=>?_) (fun t32=>?_)
 ·have h0 : x.length = 0 \/ y.length = 0 := by have := zx t32; omega
  refine gR ?_;exact jr (by rw[Eu (by rw[<- hx,<- hy];exact h0)];exact Sub.nil _ _ _)
 have h0:¬(x.length=0\/y.length=0):=by have:=Av t32;omega
 refine gC (fun t34=>?_) (fun t34=>?_)
 ·have h1 : max x.length y.length = 1 := by have := t34; simp only [aa, beq_iff_eq] at this; omega
  have e1:=Ft (ts:=ts) (k:=k) (a:=a) (b:=b) (by rw[<- hx,<- hy];exact h0) (by rw[<- hx,<- hy];exact h1);rw[<- hx,<- hy]at e1;clear hx hy;have lx1:x.length=1:=by omega
  have ly1:y.length=1:=by omega
  clear hn;obtain⟨p,rfl⟩:∃p,x=[p]:=List.length_eq_one_iff.1 lx1;obtain⟨q,rfl⟩:∃q,y=[q]:=List.length_eq_one_iff.1 ly1;refine gi rfl ?_;refine gi rfl ?_;refine gc (VS (rt p) (rt q) (cx.qs oz (by simp:p∈[p])).ok (cy.qs oz (by simp:q∈[q])).ok) ?_;refine gD ?_;refine ae ?_;rw[e1,bP,bP];rfl
 have h1:n≠1:=by have:=t34;simp only[aa,beq_eq_false_iff_ne,ne_eq]at this;omega
 obtain⟨i,hij,hmax⟩:=(Hu nx ny h0).resolve_left oz;obtain⟨k',rfl⟩:∃k',k=k'+1:=⟨k-1,by omega⟩
 have hp2:=Nat.two_pow_pos i;have hpi:2^i<=32:=bK (b:=5) oz;have hps:2^(i+1)=2*2^i:=by rw[Nat.pow_succ];omega
 have hnn:n=2^(i+1):=by omega
 have hes:eB r (i+1)<=eB r j:=gV r hij;have hee:eB r (i+1)=2*eB r i+r+2:=rfl;have lx:(aP x (2^(i+1))).length=2^(i+1):=dC oz;have ly:(aP y (2^(i+1))).length=2^(i+1):=dC oz;obtain⟨X,hX⟩:∃X,X=aP x (2^(i+1)):=⟨_,rfl⟩
 obtain⟨Y,hY⟩:∃Y,Y=aP y (2^(i+1)):=⟨_,rfl⟩
 have cX:Cb e X:=by rw[hX];exact cx.wide
 have cY:Cb f Y:=by rw[hY];exact cy.wide
 rw[<- hX]at lx;rw[<- hY]at ly;have n1:Nl i (X.take (2^i)):=.inr ⟨i,le_refl _,fD lx⟩;have n2:Nl i (X.drop (2^i)):=.inr ⟨i,le_refl _,f0 lx⟩;have n3:Nl i (Y.take (2^i)):=.inr ⟨i,le_refl _,fD ly⟩;have n4:Nl i (Y.drop (2^i)):=.inr ⟨i,le_refl _,f0 ly⟩;have nd:=ht.1 i oz;have cd:=ht.2.cb i;have s1:=kv hm ht (k:=k') (show i<=m by omega) oz n1 n3 cX.take cY.take;have s2:=kv hm ht (k:=k') (show i<=m by omega) oz n2 n4 cX.drop cY.drop;have s3:=kv hm ht (k:=k') (show i<=m by omega) oz s2.1 nd s2.2.2 cd;have s4:=kv hm ht (k:=k') (show i<=m by omega) oz n1 n4 cX.take cY.drop;have s5:=kv hm ht (k:=k') (show i<=m by omega) oz n2 n3 cX.drop cY.take;have hrt:=GP (ts:=ts) (k:=k') (a:=a) (b:=b) rfl (by rw[<- hx,<- hy];exact h0) (by rw[<- hx,<- hy];exact hmax);rw[<- hx,<- hy,<- hX,<- hY]at hrt;have w1:=rV x n oz oz;have w2:=rV y n oz oz;rw[hnn,<- hX]at w1;rw[hnn,<- hY]at w2;rw[<- hnn]at w1 w2;have pw:=sH n oz;rw[show kG n=i+1 by rw[hnn];exact(l9 oz).1,show kK n=true by rw[hnn];exact(l9 oz).2]at pw;refine gc w1 ?_;refine gc w2 ?_;refine gc pw ?_;refine gs (eJ (.tmp rfl) (.const _) oz (show _=((2^i:Nat):Int) by rw[fI oz,hnn,fj]) rfl) ?_;refine gs (cV (.tmp rfl) (.none _) (.some _ (.tmp rfl) oz) T67 rfl T45 rfl oz (by simp only[length_map];omega) rfl) ?_;refine gs (eJ (.tmp rfl) (.const _) oz (show _=((2^i:Nat):Int) by rw[fI oz,hnn,fj]) rfl) ?_;refine gs (cV (.tmp rfl) (.some _ (.tmp rfl) oz) (.none _) T67 rfl T45 rfl (by simp only[length_map];omega) oz rfl) ?_;refine gs (eJ (.tmp rfl) (.const _) oz (show _=((2^i:Nat):Int) by rw[fI oz,hnn,fj]) rfl) ?_;refine gs (cV (.tmp rfl) (.none _) (.some _ (.tmp rfl) oz) T67 rfl T45 rfl oz (by simp only[length_map];omega) rfl) ?_;refine gs (eJ (.tmp rfl) (.const _) oz (show _=((2^i:Nat):Int) by rw[fI oz,hnn,fj]) rfl) ?_;refine gs (cV (.tmp rfl) (.some _ (.tmp rfl) oz) (.none _) T67 rfl T45 rfl (by simp only[length_map];omega) oz rfl) ?_;refine gD ?_ (10,0);refine gW (Wk.of (sl:=[(3,some (.ptr 3 0)),(7,some (i64 n)),(8,some (i64 ((i+1:Nat):Int))),(10,some (nA (X.take (2^i)))),(11,some (nA (X.drop (2^i)))),(12,some (nA (Y.take (2^i)))),(13,some (nA (Y.drop (2^i))))]) (hp:=[(3,some (.box [.lst 1 R]))]) (.k (.k (.k (.cons rfl (Sub.of (lI X (2^i))) (.cons rfl (Sub.of (l6 X (2^i))) (.cons rfl (Sub.of (lI Y (2^i))) (.cons rfl (Sub.of (l6 Y (2^i))) .nil))))))) (.k .nil)) ?_
 refine gc (ih k' oz i _ _ e f oz oz n1 n3 cX.take cY.take oz) ?_;refine gc (ih k' oz i _ _ e f oz oz n2 n4 cX.drop cY.drop oz) ?_;refine ga (show _=(i:Int) by rw[dD oz];omega) ?_;refine gi (hR i oz) ?_;refine gc (ih k' oz i _ _ _ _ oz oz s2.1 nd s2.2.2 cd oz) ?_;refine gc (wR _ _ (fun q hq=>s1.2.2.qs oz hq) (fun q hq=>s3.2.2.qs oz hq) (by have:=s1.1.le;omega) (by have:=s3.1.le;omega)) ?_;refine gD ?_;refine gc (ih k' oz i _ _ e f oz oz n1 n4 cX.take cY.drop oz) ?_;refine gc (ih k' oz i _ _ e f oz oz n2 n3 cX.drop cY.take oz) ?_;refine gc (wR _ _ (fun q hq=>s4.2.2.qs oz hq) (fun q hq=>s5.2.2.qs oz hq) (by have:=s4.1.le;omega) (by have:=s5.1.le;omega)) ?_;refine gD ?_;refine gs (eJ (.tmp rfl) (.const _) oz (show _=((2^i:Nat):Int) by rw[fI oz,hnn,fj]) rfl) ?_;refine gt (ay (yt 900 rfl _ (2^i) (by have:=s1.1.le;have:=s3.1.le;rw[dW];omega) oz) (bm rfl rfl) az rfl rfl) ?_;refine gs (eJ (.tmp rfl) (.const _) oz (show _=((2^i:Nat):Int) by rw[fI oz,hnn,fj]) rfl) ?_;refine gc (rV _ (2^i) (by have:=s4.1.le;have:=s5.1.le;rw[dW];omega) oz) ?_;refine gs (qg (.tmp rfl) rfl (by have:=s1.1.le;have:=s3.1.le;rw[length_map,dC (by rw[dW];omega)]) (.tmp rfl) T67 rfl T45 rfl rfl (by have:=s4.1.le;have:=s5.1.le;rw[length_map,dC (by rw[dW];omega)];show(2^i+2^i)*56<=140737488355328;omega) rfl rfl) ?_;refine ae ?_;rw[hrt,<- map_append];rfl
theorem PR(ts:LL)(m r:Nat)(ht:iG ts m r)(hm:m<=5)(R:List AV)(hR:∀j,j<m->R[j]?=some (nA (ts.getD j [])))(i n:Nat)(a:List Rat)(e:Nat)(hi:i+1<=m)(hnn:n=2^(i+1))(hal:a.length=2^(i+1))(ca:Cb e a)(hs:4*e+3*eB r i+r+1<4398046511104) :
  FP 278 [.agg [.lst 1 R],nA a,i64 n] (nA (oH ts i a)):=by
 have hp2:=Nat.two_pow_pos i;have hpi:2^i<=32:=bK (b:=5) oz;have hps:2^(i+1)=2*2^i:=by rw[Nat.pow_succ];omega
 have n1:Nl i (a.take (2^i)):=.inr ⟨i,le_refl _,fD hal⟩;have n2:Nl i (a.drop (2^i)):=.inr ⟨i,le_refl _,f0 hal⟩;have nd:=ht.1 i oz;have cd:=ht.2.cb i;have s1:=kv hm ht (k:=i) (show i<=m by omega) oz n1 n1 ca.take ca.take;have s2:=kv hm ht (k:=i) (show i<=m by omega) oz n2 n2 ca.drop ca.drop;have s3:=kv hm ht (k:=i) (show i<=m by omega) oz s2.1 nd s2.2.2 cd;have w1:=rV a n oz oz;rw[show aP a n=a by unfold aP;rw[hnn,hal];simp]at w1;have pw:=sH n oz;rw[show kG n=i+1 by rw[hnn];exact(l9 oz).1,show kK n=true by rw[hnn];exact(l9 oz).2]at pw;refine ah func278 ?_;refine gc w1 ?_;refine gc pw ?_;refine gs (eJ (.tmp rfl) (.const _) oz (show _=((2^i:Nat):Int) by rw[fI oz,hnn,fj]) rfl) ?_;refine gs (cV (.tmp rfl) (.none _) (.some _ (.tmp rfl) oz) T67 rfl T45 rfl oz (by simp only[length_map];omega) rfl) ?_;refine gs (eJ (.tmp rfl) (.const _) oz (show _=((2^i:Nat):Int) by rw[fI oz,hnn,fj]) rfl) ?_;refine gs (cV (.tmp rfl) (.some _ (.tmp rfl) oz) (.none _) T67 rfl T45 rfl (by simp only[length_map];omega) oz rfl) ?_;refine gD ?_ (4,0);refine gW (Wk.of (sl:=[(3,some (.ptr 3 0)),(7,some (i64 ((i+1:Nat):Int))),(9,some (nA (a.take (2^i)))),(10,some (nA (a.drop (2^i))))]) (hp:=[(3,some (.box [.lst 1 R]))]) (.k (.k (.cons rfl (Sub.of (lI a (2^i))) (.cons rfl (Sub.of (l6 a (2^i))) .nil)))) (.k .nil)) ?_;refine gc (xu ts m r ht hm R hR i i _ _ e e oz oz n1 n1 ca.take ca.take oz) ?_;refine gc (xu ts m r ht hm R hR i i _ _ e e oz oz n2 n2 ca.drop ca.drop oz) ?_;refine ga (show _=(i:Int) by rw[dD oz];omega) ?_;refine gi (hR i oz) ?_;refine gc (xu ts m r ht hm R hR i i _ _ _ _ oz oz s2.1 nd s2.2.2 cd oz) ?_;refine gc (DA _ (fun q hq=>s3.2.2.qs oz hq) (by have:=s3.1.le;omega)) ?_;refine gc (wR _ _ (fun q hq=>s1.2.2.qs oz hq) (fun q hq=>s3.2.2.minus.qs oz hq) (by have:=s1.1.le;omega) (by have:=s3.1.le;rw[ic];omega)) ?_;refine gD ?_;refine ae ?_;rfl
theorem ED(ts:LL)(m r:Nat)(ht:iG ts m r)(hm:m<=5)(hpos:∀j,j<m->0<=T.sgn (aj ts) j (aj ts j))(R:List AV)(hR:∀j,j<m->R[j]?=some (nA (ts.getD j [])))(j:Nat):∀(a:List Rat)(e:Nat),j<=m->Nl j a->Cb e a->sB r j e<4398046511104 ->
  FP 170 [.agg [.lst 1 R],nA a] (i64 (T.sgn (aj ts) j (ad j a))):=by
 induction j using Nat.strongRecOn
 rename_i j ih;intro a e hj ha ca hs;have hse:=oJ r j e;obtain⟨s,hsa⟩:∃s,s=sh j (ad j a):=⟨_,rfl⟩
 have hsd:ad j s=ad j a:=by rw[hsa,aZ]
 have hsn:Nl j s:=by rw[hsa];exact eg j _
 have cs:Cb e s:=by rw[hsa];exact ca.sh ha
 have hls:=hsn.len5 oz;rw[<- hsd];refine ah func170 ?_;refine gc (hsa▸xx a oz ha) ?_;refine gl ?_;refine gC (fun t15=>?_) (fun t15=>?_)
 ·have h1 : s=[] := List.length_eq_zero_iff.1 (by have := t15;simp only[aa,beq_iff_eq]at this;omega);refine ae ?_;rw[h1,gp,T.sgn_zero];rfl
 have h1:s.length≠0:=by have:=t15;simp only[aa,beq_eq_false_iff_ne,ne_eq]at this;omega
 refine gl ?_;refine gC (fun t19=>?_) (fun t19=>?_)
 ·have h2 : s.length = 1 := by have := t19; simp only [aa, beq_iff_eq] at this; omega
  obtain⟨q,rfl⟩:=List.length_eq_one_iff.1 h2;refine gi rfl ?_;refine gc (BO (rt q) (cs.qs oz (by simp:q∈[q])).ok) ?_;refine ae ?_;rw[kE,T.sgn_ofQ,bP]
 have h2:s.length≠1:=by have:=t19;simp only[aa,beq_eq_false_iff_ne,ne_eq]at this;omega
 obtain⟨i,hij,hsl⟩:∃i,i+1<=j/\s.length=2^(i+1):=by
  rcases ot hsn with h |h |h
  ·exact absurd h h1
  ·exact absurd h h2
  ·exact h
 have hp2:=Nat.two_pow_pos i;have hpi:2^i<=32:=bK (b:=5) oz;have hps:2^(i+1)=2*2^i:=by rw[Nat.pow_succ];omega
 have n1:Nl i (s.take (2^i)):=.inr ⟨i,le_refl _,fD hsl⟩;have n2:Nl i (s.drop (2^i)):=.inr ⟨i,le_refl _,f0 hsl⟩;have nd:=ht.1 i oz;have cd:=ht.2.cb i;obtain⟨nn,dn,cn⟩:=UB hm ht oz hsl cs;have b1:sB r i (4*e+3*eB r i+r+1)<=sB r j e:=tH r e hij;have b2:sB r i e<=sB r i (4*e+3*eB r i+r+1):=oU r i oz;have b3:sB r i r<=sB r i (4*e+3*eB r i+r+1):=oU r i oz;have b4:=oJ r i (4*e+3*eB r i+r+1);have k1:=ih i oz (s.take (2^i)) e oz n1 cs.take oz;have k2:=ih i oz (s.drop (2^i)) e oz n2 cs.drop oz;have k3:=ih i oz _ r oz nd cd oz;have k4:=ih i oz _ _ oz nn cn oz
 have v3:T.sgn (aj ts) i (ad i (ts.getD i []))=0\/T.sgn (aj ts) i (ad i (ts.getD i []))=1:=by
  have h9:0<=T.sgn (aj ts) i (ad i (ts.getD i [])):=hpos i oz;have:=T.sgn_cases (aj ts) i (ad i (ts.getD i []));omega
 have hres:T.sgn (aj ts) j (ad j s)=T.sgn3 (T.sgn (aj ts) i (ad i (s.take (2^i)))) (T.sgn (aj ts) i (ad i (s.drop (2^i)))) (T.sgn (aj ts) i (ad i (ts.getD i []))) (T.sgn (aj ts) i (ad i (oH ts i s))):=by
  rw[sk _ oz hij,dn];rfl
 rw[S3 v3]at hres;have v1:=T.sgn_cases (aj ts) i (ad i (s.take (2^i)));have v2:=T.sgn_cases (aj ts) i (ad i (s.drop (2^i)));have v4:=T.sgn_cases (aj ts) i (ad i (oH ts i s));have pw:=sH s.length oz;rw[show kG s.length=i+1 by rw[hsl];exact(l9 oz).1,show kK s.length=true by rw[hsl];exact(l9 oz).2]at pw;refine gc pw ?_;refine ga (show _=(i:Int) by rw[dD oz];omega) ?_;refine gi (hR i oz) ?_;refine gs (eJ (.tmp rfl) (.const _) oz (show _=((2^i:Nat):Int) by rw[fI oz,hsl,fj]) rfl) ?_;refine gs (cV (.tmp rfl) (.none _) (.some _ (.tmp rfl) oz) T67 rfl T45 rfl oz (by simp only[length_map];omega) rfl) ?_;refine gc (by have h9:=k1;rw[<- lI]at h9;exact h9) ?_;refine gs (eJ (.tmp rfl) (.const _) oz (show _=((2^i:Nat):Int) by rw[fI oz,hsl,fj]) rfl) ?_;refine gs (cV (.tmp rfl) (.some _ (.tmp rfl) oz) (.none _) T67 rfl T45 rfl (by simp only[length_map];omega) oz rfl) ?_;refine gc (by have h9:=k2;rw[<- l6]at h9;exact h9) ?_;refine gc k3 ?_;refine ga (zQ v2 (.inr v3)) ?_;refine gD ?_;refine gC (fun t57=>?_) (fun t57=>?_)
 ·have e2:=zx t57;refine ae ?_;rw[hres,if_pos e2]
 have e2:=Av t57;refine gC (fun t60=>?_) (fun t60=>?_)
 ·have e3 : T.sgn (aj ts) i (ad i (s.take (2 ^ i))) = 0 := by simpa [aa] using t60
  refine ae ?_;rw[hres,if_neg e2,if_pos e3];rfl
 have e3:¬T.sgn (aj ts) i (ad i (s.take (2^i)))=0:=by simpa[aa]using t60
 refine gc (PR ts m r ht hm R hR i s.length s e oz hsl hsl cs oz) ?_;refine gc k4 ?_;refine ga (zQ v1 v4) ?_;refine gD ?_;refine ae ?_;rw[hres,if_neg e2,if_neg e3];rfl
theorem MS(rs:List (List Rt))(r:Nat)(h:TR rs r):FP 89 [cZ rs] (i64 (bb rs)):=by
 have hll:=h.ll;have hr:=h.le;refine ah func89 ?_;refine gl ?_;refine gC (fun t9=>?_) (fun t9=>?_)
 ·have h5 : 5 < rs.length := by have := t9; simp only [aa, decide_eq_true_eq] at this; omega
  refine ae ?_;rw[Hi h5];rfl
 have h5:rs.length<=5:=by have:=t9;simp only[aa,decide_eq_false_iff_not]at this;omega
 refine gl ?_;refine aI [1,11,12] [1] (fun(k:Nat)=>[(13,some (i64 k))]) (fun _=>[]) (fun k=>k<=rs.length/\∀j,j<k->ig rs j) (fun k=>rs.length-k) 0 ⟨zero_le _,fun j hj=>by omega⟩ ?_;rintro k ⟨hk,hj⟩ K1 J1;refine gC (fun t14=>?_) (fun t14=>?_)
 ·have hin : k < rs.length := by simpa [aa] using t14
  obtain⟨d,hd⟩:=au hin;have hdm:=mem_of_getElem? hd;have hdl:=h.len d hdm;refine gi (ax hd) ?_;refine gl ?_;refine gs (gI (.const _) (.tmp rfl) oz (ol oz) rfl) ?_;refine gC (fun t22=>?_) (fun t22=>?_)
  ·have h1 : d.length ≠ 2 ^ k := by have := t22; simp only [aa, bne_iff_ne, ne_eq] at this; omega
   refine ae ?_;rw[Fm h5 hd hj h1];rfl
  have h1:d.length=2^k:=by have:=t22;simp only[aa,bne_eq_false_iff_eq]at this;omega
  have hnu:=I9 k oz d (h.ok d hdm) hdl;refine gc hnu ?_;refine gC (fun t27=>?_) (fun t27=>?_)
  ·have h2:=lX t27;refine ae ?_;rw[Is h5 hd hj h1 h2]
  have h2:=kQ t27;have hts:=Ii (ts:=llq rs) (fun j hjk=>(hj j hjk).nl) h.rb;have hq:=w7 h2 (h.ok d hdm);have hcb:Cb r (lq d):=by have:=h.rb.cb k;rw[sZ,getD_eq_getElem?_getD,hd]at this;exact this
  have hsg:FP 170 [cZ rs,nR d] (i64 (T.sgn (aj (llq rs)) k (ad k (lq d)))):=by
   have h9:=ED ((llq rs).take k) k r hts oz (fun j hjk=>by rw[T.sgn_congr j (fun i hi=>wH (show i<k by omega)),wH hjk];exact(hj j hjk).2.2) (rs.map nR) (fun j hjk=>RY h.ok (show k<=rs.length by omega) hj hjk) k (lq d) r (le_refl _) hq.2 hcb (mJ (le_refl k) (by have:=h.three;omega) hr (by have:=iu k;omega));rw[T.sgn_congr k (fun j hjk=>wH hjk)]at h9;rw[hq.1,eA];rw[<- hq.1];exact h9
  refine gc hsg ?_;refine gC (fun t32=>?_) (fun t32=>?_)
  ·have h3 : T.sgn (aj (llq rs)) k (ad k (lq d)) < 0 := by simpa [aa] using t32
   refine ae ?_;rw[Cv h5 hd hj h1 h2 h3];rfl
  have h3:¬T.sgn (aj (llq rs)) k (ad k (lq d))<0:=by simpa[aa]using t32
  refine ga aF ?_;exact aE J1 (k+1) ⟨hin,fun j hjk=>by rcases lt_or_ge j k with h9 |h9;exact hj j h9;(have:j=k:=by omega);subst this;exact Gk hd h1 h2 h3⟩
 have hin:k=rs.length:=by have:rs.length<=k:=(by simpa[aa]using t14);omega
 subst hin;refine ae ?_;rw[HQ h5 hj];rfl
theorem QW(rs:List (List Rt))(r:Nat)(h:TR rs r)(xs:List (List Rt))(hx:∀a∈xs,(∀x∈a,x.ok)/\a.length<=281474976710656)(hl:xs.length<=281474976710656):FP 169 [cZ rs,.lst 1 (xs.map nR)] (i64 (bn rs xs)):=by
 refine ah func169 ?_;refine gc (MS rs r h) ?_;refine gC (fun t12=>?_) (fun t12=>?_)
 ·have h1:=lX t12;refine ae ?_;rw[If h1]
 have h1:=kQ t12;have h5:rs.length<=5:=by have:=(dh h h1).1.five;rwa [length_map]at this
 refine gl ?_;refine aI [2,14,15] [2] (fun(i:Nat)=>[(16,some (i64 i))]) (fun _=>[]) (fun i=>i<=xs.length/\∀x∈xs.take i,bQ rs.length x=0) (fun i=>xs.length-i) 0 ⟨zero_le _,fun x hx=>by simp at hx⟩ ?_;rintro i ⟨hi,hj⟩ K1 J1;refine gC (fun t17=>?_) (fun t17=>?_)
 ·have hin : i < xs.length := by simpa [aa] using t17
  obtain⟨a,ha⟩:=au hin;have hok:=hx a (mem_of_getElem? ha);refine gi (ax ha) ?_;refine gl ?_;refine gc (I9 rs.length h5 a hok.1 hok.2) ?_;refine gC (fun t26=>?_) (fun t26=>?_)
  ·have h2:=lX t26;refine ae ?_;rw[rO h1 ha hj h2]
  have h2:=kQ t26;refine ga aF ?_;exact aE J1 (i+1) ⟨hin,fun x hx=>by rw[dj ha]at hx;rcases List.mem_append.1 hx with h9 |h9;exact hj x h9;(rw[List.mem_singleton.1 h9];exact h2)⟩
 have hin:i=xs.length:=by have:xs.length<=i:=(by simpa[aa]using t17);omega
 subst hin;rw[take_length]at hj;refine ae ?_;rw[pS h1 hj];rfl
theorem QO(rs:List (List Rt))(r:Nat)(h:TR rs r)(a b:List Rt)(e f:Nat)(ha:NR a e)(hb:NR b f)(he:e+f+1<=lm rs.length) :
  FP 83 [cZ rs,nR a,nR b] (.tup [i64 (if bn rs [a,b]=0 then T.sgn (aj (llq rs)) rs.length (T.add rs.length (ad rs.length (lq a)) (T.neg rs.length (ad rs.length (lq b))))else 0),i64 (bn rs [a,b])]):=by
 have hr:=h.le;have hlm:=kg rs.length;refine ah func83 ?_;refine gc (QW rs r h [a,b] (q7 ha hb) (by simp)) ?_;refine gC (fun t15=>?_) (fun t15=>?_) (st2:=(77777,0))
 ·have h1:=lX t15;refine ba ?_;rw[if_neg h1];rfl
 have h1:=kQ t15;obtain⟨h2,h3⟩:=mI h1;obtain⟨tw,e0⟩:=dh h h2;obtain⟨e1,na⟩:=ha.num (h3 a (by simp));obtain⟨e2,nb⟩:=hb.num (h3 b (by simp));have hlen:(llq rs).length=rs.length:=length_map _;have h5:rs.length<=5:=by have:=tw.five;omega
 have hla:=na.len5 h5;have hlb:=nb.len5 h5;have htw:=tw.ok;rw[hlen]at htw;have qa:∀q∈lq a,Qs q:=fun q hq=>ha.cb.qs oz hq
 have qb:∀q∈lq b,Qs q:=fun q hq=>hb.cb.qs oz hq
 have qm:∀q∈cE (lq b),Qs q:=fun q hq=>hb.cb.minus.qs oz hq
 have np:=nV na (nW nb);have hsg:=ED (llq rs) rs.length r htw h5 (fun j hj=>tw.pos j oz) ((llq rs).map nA) (fun j hj=>vj oz) rs.length _ _ (le_refl _) np (ha.cb.plus hb.cb.minus) (mJ (le_refl rs.length) (by have:=tw.three;omega) hr oz);refine gW (Wk.of (sl:=[(1,some (nA (lq a))),(2,some (nA (lq b))),(3,some (.ptr 3 0)),(8,some (i64 (bn rs [a,b])))]) (hp:=[(3,some (.box [.lst 1 ((llq rs).map nA)]))]) (.cons rfl (Sub.of e1) (.cons rfl (Sub.of e2) (.k (.k .nil)))) (.cons rfl (BlkSub.bL (.cons (.of (l0 e0)) .nil) rfl) .nil)) ?_;refine gc (DA _ qb oz) ?_;refine gc (wR _ _ qa qm oz (by rw[ic];omega)) ?_;refine gc hsg ?_;refine gD ?_;refine ba ?_;rw[if_pos h1,h1,iW,l7];rfl
theorem N7(x:Rt)(hx:x.ok)(hs:Qs x.q):FP 37 [x.av] (nA (sh 0 (x.q:Rat))):=by
 have hadd:=x9 x (rt 0) hx Qs.zero.ok;rw[sF]at hadd;refine ah func37 ?_;refine gc (BO x hx) ?_;refine gC (fun t5=>?_) (fun t5=>?_)
 ·have h0 : x.q=0 := nG (by simpa[aa]using t5);refine gR ?_;exact jr (by rw[h0];exact Sub.nil _ _ _)
 have h0:x.q≠0:=fun h=>by rw[h]at t5;cases t5
 refine gc (Con.sA (.cons (.refl _) (.cons jy .nil)) hadd) ?_;refine ae ?_;have:sh 0 (x.q:Rat)=[x.q]:=if_neg h0;rw[this];rfl
theorem xG{p q:Rat}(hp:Qs p)(hq:Qs q):FP 233 [qA p,qA q] (qA (p+q)):=by
 have h:=oG (rt p) (rt q) hp.ok hq.ok;rw[bP,bP]at h;exact h
theorem uN{p q:Rat}(hp:Qs p)(hq:Qs q):FP 252 [qA p,qA q] (qA (p-q)):=by
 have h:=Ji (rt p) (rt q) hp.ok hq.ok;rw[bP,bP]at h;exact h
theorem sJ{p q:Rat}(hp:Qs p)(hq:Qs q):FP 274 [qA p,qA q] (qA (p*q)):=by
 have h:=IW (rt p) (rt q) hp.ok hq.ok;rw[bP,bP]at h;exact h
theorem Qx{p q:Rat}(hp:Qs p)(hq:Qs q):FP 388 [qA p,qA q] (.tup [qA (p/q),bj (if q=0 then 8 else 0)]):=by
 have h:=C9 (rt p) (rt q) hp.ok hq.ok;rw[bP,bP]at h;exact h
theorem OO{p:Rat}(hp:Qs p):FP 216 [qA p] (i64 (bD p)):=by
 have h:=u9 (rt p) hp.ok;rw[bP]at h;exact h
theorem tF(x:Tn)(hx:x.t.ok):FP 119 [x.av] (bj x.err):=by
 refine ah func119 ?_;refine gc (oQ x.t hx) ?_;refine bJ (fun _=>(u9 x.t hx)) ?_;refine gC (fun t16=>?_) (fun t16=>?_)
 ·have h0:=Tn.err_yes t16;refine ae ?_;rw[h0];rfl
 have h0:=Tn.err_no t16;refine ae ?_;rw[h0];rfl
theorem Cn{p q:Rat}(hp:Qs p)(hq:Qs q):FP 349 [qA p,qA q] (qA (p/q)):=by
 refine ah func349 ?_;refine gc (Qx hp hq) ?_;refine gC (fun t14=>?_) (fun t14=>?_)
 ·have h0:q=0:=by
   have:=cU t14
   by_cases h:q=0
   ·exact h
   ·rw[if_neg h]at this;exact absurd rfl this
  refine gR ?_;exact jr (by rw[h0,LT];exact jy)
 refine ae ?_;rfl
theorem En(half:Bool){t:Rat}{e:Nat}(ht:Qb e t)(he:e<=1000000):FP 245 [Tn.av ⟨rt t,half⟩] (.tup [qA (du half t),qA (dp half t)]):=by
 have qt:Qs t:=ht.qs oz;have m2:=ht.mul ht;have one:Qb 1 (((1:Int):Rat)):=Qb.one;have d:=one.add m2;refine ah func245 ?_;refine gC (fun t8=>?_) (fun t8=>?_)
 ·have h0:half=true:=t8;refine gc (lh (-1) oz) ?_;refine gR ?_;exact eH (by subst h0;exact Sub.tup (.cons (.refl _) (.cons jy .nil)))
 have h0:half=false:=t8;refine gc (lh 1 oz) ?_;refine gc (sJ qt qt) ?_;refine gD ?_;refine gc (xG (one.qs oz) (m2.qs oz)) ?_;refine gc (uN (one.qs oz) (m2.qs oz)) ?_;refine gc (Cn ((one.sub m2).qs oz) (d.qs oz)) ?_;refine gc (xG qt qt) ?_;refine gc (Cn ((ht.add ht).qs oz) (d.qs oz)) ?_;refine gD ?_;refine ba ?_;subst h0;rfl
theorem um(x:Tn)(hx:x.t.ok){e:Nat}(hq:Qb e x.t.q)(he:e<=1000000):FP 139 [x.av] (.tup [qA (if x.err=0 then du x.half x.t.q else 0),bj x.err]):=by
 refine ah func139 ?_;refine gc (tF x hx) ?_;refine gC (fun t10=>?_) (fun t10=>?_)
 ·have h1:=cU t10;refine gR ?_;exact eH (by rw[if_neg h1];exact Sub.tup (.cons jy (.cons (.refl _) .nil)))
 have h1:=cP t10;have hd:=En x.half hq he;rw[<- Rt.eq_rt hx (Tn.ok_valid h1)]at hd;refine gc hd ?_;refine ba ?_;rw[if_pos h1,h1];rfl
theorem Br(x:Tn)(hx:x.t.ok){e:Nat}(hq:Qb e x.t.q)(he:e<=1000000):FP 140 [x.av] (.tup [qA (if x.err=0 then dp x.half x.t.q else 0),bj x.err]):=by
 refine ah func140 ?_;refine gc (tF x hx) ?_;refine gC (fun t10=>?_) (fun t10=>?_)
 ·have h1:=cU t10;refine gR ?_;exact eH (by rw[if_neg h1];exact Sub.tup (.cons jy (.cons (.refl _) .nil)))
 have h1:=cP t10;have hd:=En x.half hq he;rw[<- Rt.eq_rt hx (Tn.ok_valid h1)]at hd;refine gc hd ?_;refine ba ?_;rw[if_pos h1,h1];rfl
theorem AA{ts:LL}{r e f:Nat}(tw:Tw ts r){a b:List Rat}(ha:Nm ts.length e a)(hb:Nm ts.length f b)(he:e+f<=lm ts.length) :
  FP 329 [aL ts,nA a,nA b] (.tup [nA (sh ts.length (T.add ts.length (ad ts.length a) (ad ts.length b))),.v .nilIface]):=by
 have h:=Ub (ts.map (List.map rt)) r tw.tr (a.map rt) (b.map rt) e f (ha.rt oz) (hb.rt oz) (by rw[length_map];exact he);have h0:bn (ts.map (List.map rt)) [a.map rt,b.map rt]=0:=re tw ha hb;rw[h0,if_pos rfl,jC,eA,eA,cF,cF,length_map]at h;exact h
theorem oF{ts:LL}{r e f:Nat}(tw:Tw ts r){a b:List Rat}(ha:Nm ts.length e a)(hb:Nm ts.length f b)(he:e+f<=lm ts.length) :
  FP 163 [aL ts,nA a,nA b] (.tup [nA (sh ts.length (T.add ts.length (ad ts.length a) (T.neg ts.length (ad ts.length b)))),.v .nilIface]):=by
 have h:=Jp (ts.map (List.map rt)) r tw.tr (a.map rt) (b.map rt) e f (ha.rt oz) (hb.rt oz) (by rw[length_map];exact he);have h0:bn (ts.map (List.map rt)) [a.map rt,b.map rt]=0:=re tw ha hb;rw[h0,if_pos rfl,jC,eA,eA,cF,cF,length_map]at h;exact h
theorem zV{ts:LL}{r e f:Nat}(tw:Tw ts r){a b:List Rat}(ha:Nm ts.length e a)(hb:Nm ts.length f b)(he:e+f<=lm ts.length) :
  FP 164 [aL ts,nA a,nA b] (.tup [nA (sh ts.length (T.mul (aj ts) ts.length (ad ts.length a) (ad ts.length b))),.v .nilIface]):=by
 have h:=VD (ts.map (List.map rt)) r tw.tr (a.map rt) (b.map rt) e f (ha.rt oz) (hb.rt oz) (by rw[length_map];exact he);have h0:bn (ts.map (List.map rt)) [a.map rt,b.map rt]=0:=re tw ha hb;rw[h0,if_pos rfl,jC,eA,eA,oq,cF,cF,length_map]at h;exact h
theorem uD{ts:LL}{r e f:Nat}(tw:Tw ts r){a b:List Rat}(ha:Nm ts.length e a)(hb:Nm ts.length f b)(he:e+f+1<=lm ts.length) :
  FP 210 [aL ts,nA a,nA b] (.tup [i64 (T.sgn (aj ts) ts.length (T.add ts.length (ad ts.length a) (T.neg ts.length (ad ts.length b)))),.v .nilIface]):=by
 have h:=ST (ts.map (List.map rt)) r tw.tr (a.map rt) (b.map rt) e f (ha.rt oz) (hb.rt oz) (by rw[length_map];exact he);have h0:bn (ts.map (List.map rt)) [a.map rt,b.map rt]=0:=re tw ha hb;rw[h0,if_pos rfl,jC,eA,eA,oq,cF,cF,length_map]at h;exact h
theorem yP{ts:LL}{r e:Nat}(tw:Tw ts r){a:List Rat}(ha:Nm ts.length e a)(he:e<=lm ts.length) :
  FP 267 [aL ts,nA a] (.tup [i64 (T.sgn (aj ts) ts.length (ad ts.length a)),.v .nilIface]):=by
 have h:=Kc (ts.map (List.map rt)) r tw.tr (a.map rt) e (ha.rt he) (by rw[length_map];exact he);have h0:bn (ts.map (List.map rt)) [a.map rt]=0:=Ak tw ha;rw[h0,if_pos rfl,jC,eA,oq,cF,length_map]at h;exact h
theorem Kv{ts:LL}{r e f:Nat}(tw:Tw ts r){a b:List Rat}(ha:Nm ts.length e a)(hb:Nm ts.length f b)(he:e+f+1<=lm ts.length) :
  FP 83 [aL ts,nA a,nA b] (.tup [i64 (T.sgn (aj ts) ts.length (T.add ts.length (ad ts.length a) (T.neg ts.length (ad ts.length b)))),i64 0]):=by
 have h:=QO (ts.map (List.map rt)) r tw.tr (a.map rt) (b.map rt) e f (ha.rt oz) (hb.rt oz) (by rw[length_map];exact he);have h0:bn (ts.map (List.map rt)) [a.map rt,b.map rt]=0:=re tw ha hb;rw[h0,if_pos rfl,jC,eA,eA,oq,cF,cF,length_map]at h;exact h
theorem BF{ts:LL}{r e:Nat}(tw:Tw ts r){a:List Rat}(ha:Nm ts.length e a)(he:e<=lm ts.length) :
  FP 138 [aL ts,nA a] (.tup [nA (sh ts.length (T.neg ts.length (ad ts.length a))),.v .nilIface]):=by
 have h:=Ai (ts.map (List.map rt)) r tw.tr (a.map rt) e (ha.rt he) (by rw[length_map];exact he);have h0:bn (ts.map (List.map rt)) [a.map rt]=0:=Ak tw ha;rw[h0,if_pos rfl,jC,eA,cF,length_map]at h;exact h
theorem VP{ts:LL}{r:Nat}(tw:Tw ts r):FP 121 [aL ts] (.v .nilIface):=by
 have h:=nP (ts.map (List.map rt)) r tw.tr;rw[tw.chk,jC]at h;exact h
theorem lD{q:Rat}(h:Qs q):FP 126 [qA q] (nA (sh 0 (q:Rat))):=by
 have h1:=AU (rt q) h.ok (by rw[bP];exact h);rw[bP]at h1;exact h1
theorem Ka{q:Rat}(h:Qs q):FP 37 [qA q] (nA (sh 0 (q:Rat))):=by
 have h1:=N7 (rt q) h.ok (by rw[bP];exact h);rw[bP]at h1;exact h1
theorem vF{ts:LL}{r e:Nat}(tw:Tw ts r)(ls:LL)(hl:∀l∈ls,Nm ts.length e l)(he:e<=lm ts.length)(hn:ls.length<=1000):FP 177 [aL ts,.lst 1 (ls.map nA)] (.v .nilIface):=by
 refine ah func177 ?_;refine gc (VP tw) ?_;refine gC (fun t13=>?_) (fun t13=>?_) (st1:=(3,0));cases t13;refine gl ?_;refine aI [2,15,16] [2] (fun(i:Nat)=>[(17,some (i64 i))]) (fun _=>[]) (fun i=>i<=ls.length) (fun i=>ls.length-i) 0 (zero_le _) ?_;rintro i hi K1 J1;refine gC (fun t18=>?_) (fun t18=>?_)
 ·have hin : i < ls.length := by simpa [aa] using t18
  obtain⟨l,hll⟩:=au hin;have hok:=hl l (mem_of_getElem? hll);refine gi (ax hll) ?_;refine gc (BF tw hok he) ?_;refine gC (fun t28=>?_) (fun t28=>?_) (st1:=(9,0));cases t28;refine ga aF ?_;exact aE J1 (i+1) hin
 have hin:i=ls.length:=by have:ls.length<=i:=(by simpa[aa]using t18);omega
 refine ae ?_
 first |rfl |(simp;done)
theorem mL{ts:LL}{r e:Nat}(tw:Tw ts r)(ps:List (List Rat×List Rat))(hl:∀p∈ps,Nm ts.length e p.1/\Nm ts.length e p.2)(he:e<=lm ts.length)(hn:ps.length<=500):FP 122 [aL ts,.lst 2 (ps.map fun p=>aG p.1 p.2)] (.v .nilIface):=by
 refine ah func122 ?_;refine gl ?_;refine gW (Wk.virt 900 1 rfl) ?_;refine aI [2,8,9] [2] (fun(i:Nat)=>[(5,some (.ms 900 1 0 (2*i))),(10,some (i64 i))]) (fun i=>[(900,some (.row 1 ((iN (ps.take i)).map nA)))]) (fun i=>i<=ps.length) (fun i=>ps.length-i) 0 (zero_le _) ?_;rintro i hi K1 J1;refine gC (fun t11=>?_) (fun t11=>?_) (st2:=(7,0))
 ·have hin : i < ps.length := by simpa [aa] using t11
  obtain⟨p,hp⟩:=au hin;have hfl:(iN (ps.take i)).length=2*i:=by rw[wA,length_take];omega
  refine gi (ax hp) ?_;refine gs (cf (.tmp rfl) rfl (by rw[length_map,hfl]) (.tmp rfl) T35 rfl T67 rfl rfl (by simp;omega) rfl rfl) ?_ (6,0);refine gW (Wk.of (sl:=[(2,some (.ptr 2 0)),(5,some (.ms 20 1 0 (2*i+2))),(8,some (.lst 2 (ps.map fun p=>aG p.1 p.2))),(9,some (i64 ps.length)),(10,some (i64 i))]) (hp:=[(2,some (.box [.lst 1 (ts.map nA)])),(20,some (.row 1 ((iN (ps.take (i+1))).map nA)))]) aV (.k (.cons rfl (BlkSub.of (by rw[dj hp,H8,map_append];rfl)) .nil))) ?_ (6,0);refine gW (Wk.rk (k:=20) (d:=900) rfl rfl) ?_;refine ga aF ?_;exact aE J1 (i+1) hin
 have hin:i=ps.length:=by have:ps.length<=i:=(by simpa[aa]using t11);omega
 subst hin;refine gW ((Wk.freeze (k:=900) rfl).trans<|Wk.of (sl:=[(2,some (.ptr 2 0)),(5,some (.lst 1 ((iN ps).map nA)))]) (hp:=[(2,some (.box [.lst 1 (ts.map nA)]))]) (.k (.cons rfl (Sub.of (by rw[bN (by rw[length_map,wA,length_take];omega),take_length])) .nil)) (.k .nil)) ?_;refine gc (vF tw (iN ps) (FI hl) he (by rw[wA];omega)) ?_;refine ae ?_
 first |rfl |(simp;done)
theorem BG(R:List AV)(a:List Rat):Con prog 328 [.ptr 1000 0,nA a,.v .nilIface] [(1000,some (.box [.lst 1 R,.v .nilIface]))] (nA a) [(1000,some (.box [.lst 1 R,.v .nilIface]))]:=by
 refine gF func328 (fun k z h=>br h) ?_;refine gC (fun t11=>?_) (fun t11=>?_) (st2:=(77777,0))
 ·refine gR ?_;exact aq.keep (a8 rfl)
 cases t11
theorem uJ{ts:LL}{r e f:Nat}(tw:Tw ts r){a b:List Rat}(ha:Nm ts.length e a)(hb:Nm ts.length f b)(he:e+f<=lm ts.length) :
  Con prog 230 [.ptr 1000 0,nA a,nA b] [(1000,some (fS ts))] (nA (sh ts.length (T.add ts.length (ad ts.length a) (ad ts.length b)))) [(1000,some (fS ts))]:=by
 refine gF func230 (fun k z h=>br h) ?_;refine gc (AA tw ha hb he) ?_;refine gt (ay (BG _ _) (aA rfl rfl rfl) az rfl rfl) ?_;refine gR ?_;exact aq.keep (a8 rfl)
theorem vM{ts:LL}{r e f:Nat}(tw:Tw ts r){a b:List Rat}(ha:Nm ts.length e a)(hb:Nm ts.length f b)(he:e+f<=lm ts.length) :
  Con prog 229 [.ptr 1000 0,nA a,nA b] [(1000,some (fS ts))] (nA (sh ts.length (T.add ts.length (ad ts.length a) (T.neg ts.length (ad ts.length b))))) [(1000,some (fS ts))]:=by
 refine gF func229 (fun k z h=>br h) ?_;refine gc (oF tw ha hb he) ?_;refine gt (ay (BG _ _) (aA rfl rfl rfl) az rfl rfl) ?_;refine gR ?_;exact aq.keep (a8 rfl)
theorem kS{ts:LL}{r e f:Nat}(tw:Tw ts r){a b:List Rat}(ha:Nm ts.length e a)(hb:Nm ts.length f b)(he:e+f<=lm ts.length) :
  Con prog 231 [.ptr 1000 0,nA a,nA b] [(1000,some (fS ts))] (nA (sh ts.length (T.mul (aj ts) ts.length (ad ts.length a) (ad ts.length b)))) [(1000,some (fS ts))]:=by
 refine gF func231 (fun k z h=>br h) ?_;refine gc (zV tw ha hb he) ?_;refine gt (ay (BG _ _) (aA rfl rfl rfl) az rfl rfl) ?_;refine gR ?_;exact aq.keep (a8 rfl)
theorem yx{ts:LL}{r e f:Nat}(tw:Tw ts r){a b c d:List Rat}(ha:Nm ts.length e a)(hb:Nm ts.length e b)(hc:Nm ts.length f c)(hd:Nm ts.length f d)(he:2*(e+f+kB r ts.length)<=lm ts.length) :
  Con prog 125 [.ptr 1000 0,aG a b,aG c d] [(1000,some (fS ts))] (nA (sh ts.length (oE ts (ad ts.length a) (ad ts.length b) (ad ts.length c) (ad ts.length d)))) [(1000,some (fS ts))]:=by
 refine gF func125 (fun k z h=>br h) ?_;refine gt (ay (kS tw ha hc oz) (aA rfl rfl rfl) az rfl rfl) ?_;refine gt (ay (kS tw hb hd oz) (aA rfl rfl rfl) az rfl rfl) ?_;refine gt (ay (yk▸uJ tw (ha.mul tw rfl hc) (hb.mul tw rfl hd) oz) (aA rfl rfl rfl) az rfl rfl) ?_;refine gD ?_;refine gR ?_;exact aq.keep (a8 rfl)
theorem Dp{ts:LL}{r e f:Nat}(tw:Tw ts r){a b c d:List Rat}(ha:Nm ts.length e a)(hb:Nm ts.length e b)(hc:Nm ts.length f c)(hd:Nm ts.length f d)(he:2*(e+f+kB r ts.length)<=lm ts.length) :
  Con prog 162 [.ptr 1000 0,aG a b,aG c d] [(1000,some (fS ts))] (nA (sh ts.length (mU ts (ad ts.length a) (ad ts.length b) (ad ts.length c) (ad ts.length d)))) [(1000,some (fS ts))]:=by
 refine gF func162 (fun k z h=>br h) ?_;refine gt (ay (kS tw ha hd oz) (aA rfl rfl rfl) az rfl rfl) ?_;refine gt (ay (kS tw hb hc oz) (aA rfl rfl rfl) az rfl rfl) ?_;refine gt (ay (Bg▸vM tw (ha.mul tw rfl hd) (hb.mul tw rfl hc) oz) (aA rfl rfl rfl) az rfl rfl) ?_;refine gD ?_;refine gR ?_;exact aq.keep (a8 rfl)
def T.inv(r:(k:Nat)->T k):(k:Nat)->T k->T k
  |0,q=>(1:Rat)/q
  |k+1,x =>
    if T.isZ k x.2=true then(T.inv r k x.1,T.zero k)
    else if T.sgn r k (T.norm r k x)=0 then(T.inv r k (T.add k x.1 x.1),T.zero k)
    else(T.mul r k x.1 (T.inv r k (T.norm r k x)),T.mul r k (T.neg k x.2) (T.inv r k (T.norm r k x)))
theorem T.inv_low(r:(k:Nat)->T k)(k:Nat)(x:T k):T.inv r (k+1) (x,T.zero k)=(T.inv r k x,T.zero k):=by
 have h:=(T.isZ_iff k (T.zero k)).2 rfl
 conv=>lhs;unfold T.inv
 simp only[if_pos h]
theorem wI(r:(k:Nat)->T k){i j:Nat}{s L:List Rat}(hs:s.length<=2^i)(hL:L.length<=2^i)(h:ad i L=T.inv r i (ad i s))(hij:i<=j):ad j L=T.inv r j (ad j s):=by
  induction j with
  | zero => have : i = 0 := by omega
            subst this;exact h
  |succ j ih =>
    by_cases h':i=j+1
    · rw[<- h'];exact h
    · rw[fP (le_trans hs (bK oz)),fP (le_trans hL (bK oz)),T.inv_low,ih oz]
def iB(r:Nat):Nat->Nat->Nat
  |0,e=>e
  |j+1,e=>e+iB r j (4*e+3*eB r j+r+1)+eB r (j+1)
theorem xt(r:Nat):∀j e,e<=iB r j e
 |0,e=>le_refl _
 |j+1,e=>by simp only[iB];omega
theorem xn(r:Nat):∀j {e f:Nat},e<=f->iB r j e<=iB r j f
 |0,e,f,h=>h
 |j+1,e,f,h=>by
  have:=xn r j (e:=4*e+3*eB r j+r+1) (f:=4*f+3*eB r j+r+1) oz;simp only[iB];omega
theorem Jn(r j e:Nat):iB r j e<=iB r (j+1) e:=by
 have:=xn r j (e:=e) (f:=4*e+3*eB r j+r+1) oz;simp only[iB];omega
theorem yy(r e:Nat){i j:Nat}(h:i<=j):iB r i e<=iB r j e:=by
  induction j with
  | zero => have : i = 0 := by omega
            subst this;exact le_refl _
  |succ j ih =>
    by_cases hij:i=j+1
    · rw[hij];exact le_refl _
    · exact le_trans (ih oz) (Jn r j e)
theorem Tm(r e:Nat){j:Nat}(h:j<=1):iB r j e<=5*e+2*eB r j:=by
 match j,h with
 |0,_=>simp only[iB,eB];omega
 |1,_=>simp only[iB,eB];omega
theorem I0{r:(k:Nat)->T k}{n:Nat}(h:Sg (E r n) (sg r n))(hd:0<=sg r n (bw r n)){x y:E r n}(hz:sg r (n+1) (bC x y)≠0)(hN:sg r n (aM x y)=0):sg r n (x+x)≠0:=by
 have hx:sg r n x≠0:=by
  intro hx;rw[kL,hN,hx]at hz;have h1:sg r n (x*x)=0:=by rw[h.mul,hx];simp
  have h2:=h.zadd (y:=-(y*y*bw r n)) h1;unfold aM at hN;rw[h2,h.neg,h.mul,h.mul]at hN;unfold T.sgn3 at hz;have c1:=h.cs y;have c2:=h.cs (bw r n);rcases c1 with e |e |e <;> rcases c2 with e' |e' |e' <;> rw[e,e']at hN <;> rw[e,e']at hz <;> first |omega |(simp at hz) |(simp at hN)
 rcases h.cs x with e |e |e
 ·have := h.padd (x := -x) (y := -x) (by rw[h.neg,e];rfl) (by rw[h.neg,e];decide);rw[show -x+-x=-(x+x) by grind,h.neg]at this;omega
 ·exact absurd e hx
 ·have:=h.padd (x:=x) (y:=x) e oz;omega
theorem Cb.inv1{e:Nat}{q:Rat}(h:Cb e [q])(hq:q≠0):Cb e [(1:Rat)/q]:=by
 obtain⟨D,N,⟨h0,h1⟩,h2,h3⟩:=h;obtain⟨n,hn,hl⟩:=h1 q (by simp)
 have hD:((D:Int):Rat)≠0:=by
  intro h9;have:(D:Int)=0:=Rat.intCast_eq_zero_iff.1 h9;omega
 have hn0:n≠0:=by
  rintro rfl;rw[show((0:Int):Rat)=0 from rfl]at hn;rcases Rat.mul_eq_zero.1 hn with h9 |h9
  ·exact hq h9
  ·exact hD h9
 have hnq:((n:Int):Rat)≠0:=fun h9=>hn0 (Rat.intCast_eq_zero_iff.1 h9)
 refine⟨n.natAbs,D,⟨by omega,?_⟩,le_trans hl h3,h2⟩;intro x hx;rw[List.mem_singleton.1 hx];have key:(1:Rat)/q*(n:Rat)=((D:Int):Rat):=by rw[<- hn];grind
 rcases Int.natAbs_eq n with e9 |e9
 ·refine⟨D,?_,by simp⟩;rw[<- e9];exact key
 ·refine ⟨-(D : Int), ?_, by simp⟩;rw [Rat.intCast_neg,<- key]
  conv=>rhs;rw[e9]
  rw[Rat.intCast_neg];grind
theorem E3{e n:Nat}{s:List Rat}(h:Cb e s):Cb e (eQ (s.take n) (cE (s.drop n)) n):=by
 obtain⟨D,N,h1,h2,h3⟩:=h;exact⟨D,N,(h1.sub (fun q hq=>mem_of_mem_take hq)).join (h1.sub (fun q hq=>List.mem_of_mem_drop hq)).minus,h2,h3⟩
theorem FH:∀{j i:Nat}{x:T j},(sh j x).length=2^(i+1)->i+1<=j->T.isZ i (ad i ((sh j x).drop (2^i)))=false
 |0,i,x,_,h=>by omega
 |j+1,i,x,hl,h=>by
  cases hz:T.isZ j x.2
  ·have h1:=TM hz;rw[h1]at hl
   have e:i=j:=by
    rcases Nat.lt_trichotomy i j with h9 |h9 |h9
    ·have := Nat.pow_lt_pow_right (a := 2) oz (show i+1<j+1 by omega);omega
    ·exact h9
    ·omega
   subst e;have h2:ad (i+1) (sh (i+1) x)=x:=aZ (i+1) x;have h3:ad i ((sh (i+1) x).drop (2^i))=x.2:=congrArg Prod.snd h2;rw[h3];exact hz
  ·have h1:sh (j+1) x=sh j x.1:=by
    conv=>lhs;unfold sh
    rw[if_pos hz]
   rw[h1]at hl ⊢;have h2:=(eg j x.1).le
   have h3:i+1<=j:=by
    rcases lt_or_ge j (i+1)with h9 |h9
    ·have:=Nat.pow_lt_pow_right (a:=2) oz h9;omega
    ·exact h9
   exact FH hl h3
theorem IA(r:(k:Nat)->T k){i:Nat}{x:T (i+1)}(hz:T.isZ i x.2=false)(h0:T.sgn r i (T.norm r i x)=0):T.inv r (i+1) x=(T.inv r i (T.add i x.1 x.1),T.zero i):=by
 conv=>lhs;unfold T.inv
 rw[if_neg (by rw[hz];decide),if_pos h0]
theorem Ex(r:(k:Nat)->T k){i:Nat}{x:T (i+1)}(hz:T.isZ i x.2=false)(h0:T.sgn r i (T.norm r i x)≠0) :
  T.inv r (i+1) x=(T.mul r i x.1 (T.inv r i (T.norm r i x)),T.mul r i (T.neg i x.2) (T.inv r i (T.norm r i x))):=by
 conv=>lhs;unfold T.inv
 rw[if_neg (by rw[hz];decide),if_neg h0]
theorem mul_low(r:(k:Nat)->T k)(i:Nat)(x y w:T i):T.mul r (i+1) (x,y) (w,T.zero i)=(T.mul r i x w,T.mul r i y w):=by
 show(T.add i (T.mul r i x w) (T.mul r i (T.mul r i y (T.zero i)) (r i)),T.add i (T.mul r i x (T.zero i)) (T.mul r i y w))=_;rw[T.mul_zero,T.zero_mul,T.mul_zero,T.add_zero,T.zero_add]
theorem Bw{n e:Nat}{l:List Rat}(h:Nm n e l)(he:e<=4398046511103):NR (l.map rt) e:=by
 refine⟨?_,by have:=h.nl.len5 h.five;rw[length_map];omega,by rw[cF];exact h.cb⟩;intro x hx;obtain⟨q,hq,rfl⟩:=List.mem_map.1 hx;exact(h.cb.qs oz hq).ok
theorem Vl{ts:LL}{j e:Nat}{a:List Rat}{q:Rat}(h5:j<=5)(ha:Nl j a)(ca:Cb e a)(he:e<4398046511104)(hs:sh j (ad j a)=[q])(hq:q≠0) :
  FP 356 [aL ts,nA a] (nA [1/q]):=by
 have qa:∀q∈a,Qs q:=fun q hq=>ca.qs he hq
 have cs:=ca.sh ha;rw[hs]at cs;have qq:Qs q:=cs.qs he (by simp);have hsh:=lC a h5 ha qa;rw[hs]at hsh;have hdv:=C9 (rt 1) (rt q) (Qb.one.qs oz).ok qq.ok;rw[bP,bP,if_neg hq]at hdv;refine ah func356 ?_;refine gc hsh ?_;refine gl ?_;refine gC (fun t13=>?_) (fun t13=>?_) (st2:=(77777,0))
 ·refine gc (lh 1 oz) ?_;refine gi rfl ?_;refine gc hdv ?_;refine gD ?_;refine ae ?_;rfl
 cases t13
theorem Rg{ts:LL}{m r:Nat}(ht:iG ts m r)(hm:m<=5)(hml:m<=ts.length){j e i:Nat}{a s L:List Rat}(h5:j<=5)(ha:Nl j a)(ca:Cb e a)(he:4*e+3*eB r i+r+1<4398046511104)(hs:sh j (ad j a)=s)(hi:i+1<=m)
  (hsl:s.length=2^(i+1)) (hb:sB r i (4*e+3*eB r i+r+1)<4398046511104) (h0:T.sgn (aj ts) i (ad i (ip ts i s))=0)
  (hL:FP 356 [aL ts,nA (b9 (s.take (2^i)) (s.take (2^i)))] (nA L)):FP 356 [aL ts,nA a] (nA L):=by
 have qa:∀q∈a,Qs q:=fun q hq=>ca.qs oz hq
 have cs:=ca.sh ha;have hsh:=lC a h5 ha qa;rw[hs]at cs hsh;have hp2:=Nat.two_pow_pos i;have hpi:2^i<=32:=bK (b:=5) oz;have hps:2^(i+1)=2*2^i:=by rw[Nat.pow_succ];omega
 obtain⟨nn,dn,cn⟩:=xa ht oz hsl cs;have k4:=oe ts m r ht hm hml i _ _ oz nn cn hb;have qs:∀q∈s.take (2^i),Qs q:=fun q hq=>cs.take.qs oz hq
 refine ah func356 ?_;refine gc hsh ?_;refine gl ?_;refine gC (fun t13=>?_) (fun t13=>?_) (st1:=(3,0));exact absurd t13 (by simp only[aa,beq_iff_eq];omega);refine gl ?_;refine gs (eJ (.tmp rfl) (.const _) oz (show _=((2^i:Nat):Int) by rw[fI oz,hsl,fj]) rfl) ?_;refine gc (yV ts m r ht hm hml i s e oz hsl cs oz) ?_;refine gc k4 ?_;refine gC (fun t33=>?_) (fun t33=>?_) (st2:=(77777,0))
 ·refine gs (cV (.tmp rfl) (.none _) (.some _ (.tmp rfl) oz) T67 rfl T45 rfl oz (by simp only[length_map];omega) rfl) ?_;refine gs (cV (.tmp rfl) (.none _) (.some _ (.tmp rfl) oz) T67 rfl T45 rfl oz (by simp only[length_map];omega) rfl) ?_;refine gc (by have h9:=oR _ _ qs qs (by simp;omega) (by simp;omega);rw[<- lI]at h9;exact h9) ?_;refine gc hL ?_;refine gD ?_;refine ae ?_;rfl
 exact absurd t33 (by rw[h0];decide)
theorem Km{ts:LL}{m r:Nat}(ht:iG ts m r)(hm:m<=5)(hml:m<=ts.length){j e f i:Nat}{a s L:List Rat}(h5:j<=5)(ha:Nl j a)(ca:Cb e a)(he:4*e+3*eB r i+r+1<4398046511104)(hs:sh j (ad j a)=s)(hi:i+1<=m)
  (hsl:s.length=2^(i+1)) (hb:sB r i (4*e+3*eB r i+r+1)<4398046511104) (h0:T.sgn (aj ts) i (ad i (ip ts i s))≠0)
  (hL:FP 356 [aL ts,nA (ip ts i s)] (nA L)) (nL:Nl i L) (cL:Cb f L) (hf:e+f+eB r (i+1)<4398046511104) :
  FP 356 [aL ts,nA a] (nA (pT ts (i+1) (eQ (s.take (2^i)) (cE (s.drop (2^i))) (2^i)) L)):=by
 have qa:∀q∈a,Qs q:=fun q hq=>ca.qs oz hq
 have cs:=ca.sh ha;have hsh:=lC a h5 ha qa;rw[hs]at cs hsh;have hp2:=Nat.two_pow_pos i;have hpi:2^i<=32:=bK (b:=5) oz;have hps:2^(i+1)=2*2^i:=by rw[Nat.pow_succ];omega
 obtain⟨nn,dn,cn⟩:=xa ht oz hsl cs;have k4:=oe ts m r ht hm hml i _ _ oz nn cn hb;have qy:∀q∈s.drop (2^i),Qs q:=fun q hq=>cs.drop.qs oz hq
 have lx:(s.take (2^i)).length=2^i:=fD hsl;have ly:(s.drop (2^i)).length=2^i:=f0 hsl;have nj:Nl (i+1) (eQ (s.take (2^i)) (cE (s.drop (2^i))) (2^i)):=.inr ⟨i+1,le_refl _,by rw[oB oz (by rw[ic];omega)];omega⟩;have cj:Cb e (eQ (s.take (2^i)) (cE (s.drop (2^i))) (2^i)):=E3 cs;have hti:=pW ts m r ht hm hml (i+1) (i+1) _ _ e f hi (le_refl _) nj (nL.mono oz) cj cL hf;refine ah func356 ?_;refine gc hsh ?_;refine gl ?_;refine gC (fun t13=>?_) (fun t13=>?_) (st1:=(3,0));exact absurd t13 (by simp only[aa,beq_iff_eq];omega);refine gl ?_;refine gs (eJ (.tmp rfl) (.const _) oz (show _=((2^i:Nat):Int) by rw[fI oz,hsl,fj]) rfl) ?_;refine gc (yV ts m r ht hm hml i s e oz hsl cs oz) ?_;refine gc k4 ?_;refine gC (fun t33=>?_) (fun t33=>?_) (st1:=(8,0));exact absurd t33 (by simp only[aa,beq_iff_eq];omega);refine gs (cV (.tmp rfl) (.none _) (.some _ (.tmp rfl) oz) T67 rfl T45 rfl oz (by simp only[length_map];omega) rfl) ?_;refine gs (cV (.tmp rfl) (.some _ (.tmp rfl) oz) (.none _) T67 rfl T45 rfl (by simp only[length_map];omega) oz rfl) ?_;refine gc (by have h9:=tz _ qy oz;rw[<- l6]at h9;exact h9) ?_;refine gc (by have h9:=zO (s.take (2^i)) (cE (s.drop (2^i))) (2^i) oz (by rw[ic];omega) oz;rw[<- lI]at h9;exact h9) ?_;refine gc hL ?_;refine gc hti ?_;refine gD ?_;refine ae ?_;rfl
theorem JU{ts:LL}{m r:Nat}(ht:iG ts m r)(hp:fe (aj ts) m)(hm:m<=5)(hml:m<=ts.length)(j:Nat):∀(a:List Rat)(e:Nat),j<=m->Nl j a->Cb e a->T.sgn (aj ts) j (ad j a)≠0 ->
  sB r j e<4398046511104->iB r j e<4398046511104->∃L,FP 356 [aL ts,nA a] (nA L)/\Nl j L/\Cb (iB r j e) L/\ad j L=T.inv (aj ts) j (ad j a):=by
 induction j using Nat.strongRecOn
 rename_i j ih;intro a e hj ha ca h0 hs hi;have hse:=oJ r j e;have cs:=ca.sh ha;have hsn:=eg j (ad j a);have hsd:=aZ j (ad j a);have hle:=xt r j e;obtain⟨s,hsa⟩:∃s,sh j (ad j a)=s:=⟨_,rfl⟩
 rcases ot hsn with h |h |⟨i,hij,h⟩
 ·exfalso;have h1:=List.length_eq_zero_iff.1 h;rw[h1,gp]at hsd;rw[<- hsd,T.sgn_zero]at h0;exact h0 rfl
 ·obtain ⟨q, hq⟩:=List.length_eq_one_iff.1 h;rw [hq,kE] at hsd;rw [<- hsd,T.sgn_ofQ] at h0;have q0:q ≠ 0:=by rintro rfl; exact h0 rfl
  refine⟨[1/q],Vl oz ha ca oz hq q0,.inr ⟨0,by omega,rfl⟩,(Cb.inv1 (hq▸cs) q0).mono hle,?_⟩;rw[<- hsd,<- kE j q];exact wI (aj ts) (i:=0) (s:=[q]) (L:=[1/q]) (by simp) (by simp) rfl oz
 ·have hz:=FH h hij;rw [hsa] at h cs hsd hsn hz;obtain ⟨nn,dn,cn⟩:=xa ht oz h cs;have hsl:s.length <= 2 ^ (i + 1):=by omega
  have b1:sB r i (4*e+3*eB r i+r+1)<=sB r j e:=tH r e hij;have b2:=oJ r i (4*e+3*eB r i+r+1);have b3:iB r (i+1) e<=iB r j e:=yy r e hij;have b4:iB r (i+1) e=e+iB r i (4*e+3*eB r i+r+1)+eB r (i+1):=rfl;have lx:(s.take (2^i)).length=2^i:=fD h;have ly:(s.drop (2^i)).length=2^i:=f0 h;have hpi:2^i<=2^(i+1):=Nat.pow_le_pow_right oz oz;rw[<- hsd]at h0 ⊢
  by_cases hN:T.sgn (aj ts) i (ad i (ip ts i s))=0
  ·have hS:=gG (aj ts) i (fun k hk=>hp k oz)
   have hx:T.sgn (aj ts) i (ad i (b9 (s.take (2^i)) (s.take (2^i))))≠0:=by
    rw[iW];rw[sk (aj ts) hsl hij]at h0;rw[dn]at hN;exact I0 hS (hp i oz) (x:=ad i (s.take (2^i))) (y:=ad i (s.drop (2^i))) h0 hN
   have np:Nl i (b9 (s.take (2^i)) (s.take (2^i))):=.inr ⟨i,le_refl _,by rw[dW];omega⟩;have b5:=oU r i (e:=e+e+1) (f:=4*e+3*eB r i+r+1) oz;have b6:=xn r i (e:=e+e+1) (f:=4*e+3*eB r i+r+1) oz;obtain⟨L,k1,k2,k3,k4⟩:=ih i oz _ _ oz np (cs.take.plus cs.take) hx oz oz;refine⟨L,Rg ht hm hml oz ha ca oz hsa oz h oz hN k1,k2.mono oz,k3.mono oz,?_⟩;refine wI (aj ts) (i:=i+1) hsl (le_trans k2.le hpi) ?_ hij;rw[IA (aj ts) hz (by rw[<- dn];exact hN),fP k2.le,k4,iW];rfl
  ·obtain⟨L,k1,k2,k3,k4⟩:=ih i oz _ _ oz nn cn hN oz oz;have nj:Nl (i+1) (eQ (s.take (2^i)) (cE (s.drop (2^i))) (2^i)):=.inr ⟨i+1,le_refl _,by rw[oB oz (by rw[ic];omega),Nat.pow_succ];omega⟩;have s1:=fW ts m ht.1 (i+1) (i+1) _ _ oz (le_refl _) nj (k2.mono oz);have c1:=Cb.mul ht (k:=i+1) (show i+1<=m by omega) (le_refl _) nj (k2.mono oz) (E3 cs) k3;refine⟨_,Km ht hm hml oz ha ca oz hsa oz h oz hN k1 k2 k3 oz,s1.1.mono hij,c1.mono oz,?_⟩;refine wI (aj ts) (i:=i+1) hsl s1.1.le ?_ hij;rw[Ex (aj ts) hz (by rw[<- dn];exact hN),s1.2,wX oz,fP k2.le,mul_low,l7,k4,dn];rfl
theorem PJ{ts:LL}{r e f:Nat}(tw:Tw ts r){a b:List Rat}(ha:Nm ts.length e a)(hb:Nm ts.length f b)(he:e<=4398046511103)(hf:f<=4398046511103):FP 243 [aL ts,.lst 1 [nA a,nA b]] (.v .nilIface):=by
 have hck:=lY (ts.map (List.map rt)) r tw.tr [a.map rt,b.map rt] (q7 (Bw ha he) (Bw hb hf)) (by simp);have hc0:bn (ts.map (List.map rt)) [a.map rt,b.map rt]=0:=re tw ha hb;rw[hc0,jC]at hck;rw[show[nA a,nA b]=[a.map rt,b.map rt].map nR by simp[eA]];exact hck
theorem xU{ts:LL}{r f j:Nat}(tw:Tw ts r){b:List Rat}(hb:Nm ts.length f b)(hj:j<=ts.length)(nb:Nl j b)(h0:T.sgn (aj ts) ts.length (ad ts.length b)≠0)(hf:f<=lm ts.length)(hi:iB r j f<4398046511104) :
  ∃L,FP 356 [aL ts,nA b] (nA L)/\Nl ts.length L/\Cb (iB r j f) L/\ad ts.length L=T.inv (aj ts) ts.length (ad ts.length b):=by
 rw[sk (aj ts) nb.le hj]at h0;obtain⟨L,k1,k2,k3,k4⟩:=JU tw.ok tw.pos tw.five (le_refl _) j b f hj nb hb.cb h0 (mJ hj tw.three tw.le hf) hi;exact⟨L,k1,k2.mono hj,k3,wI (aj ts) nb.le k2.le k4 hj⟩
theorem AT{ts:LL}{r e f j:Nat}(tw:Tw ts r){a b:List Rat}(ha:Nm ts.length e a)(hb:Nm ts.length f b)(hj:j<=ts.length)(nb:Nl j b)(h0:T.sgn (aj ts) ts.length (ad ts.length b)≠0)(hf:f<=lm ts.length)(he:e+iB r j f+eB r ts.length<=200000000000) :
  FP 271 [aL ts,nA a,nA b] (.tup [nA (sh ts.length (T.mul (aj ts) ts.length (ad ts.length a) (T.inv (aj ts) ts.length (ad ts.length b)))),.v .nilIface]):=by
 have hlm:=kg ts.length;have h5:=tw.five;have h3:=tw.three;have hfe:=xt r j f;have hsB:=mJ (le_refl ts.length) h3 tw.le hf;have hsg:=oe ts ts.length r tw.ok h5 (le_refl _) ts.length _ _ (le_refl _) hb.nl hb.cb hsB;obtain⟨L,k1,k2,k3,k4⟩:=xU tw hb hj nb h0 hf oz;have hti:=pW ts ts.length r tw.ok h5 (le_refl _) ts.length ts.length _ _ _ _ (le_refl _) (le_refl _) ha.nl k2 ha.cb k3 oz;have s1:=fW ts ts.length tw.ok.1 ts.length ts.length _ _ (le_refl _) (le_refl _) ha.nl k2;have c1:=Cb.mul tw.ok (k:=ts.length) (le_refl _) (le_refl _) ha.nl k2 ha.cb k3;have hsh:=lC _ h5 s1.1 (fun q hq=>c1.qs oz hq);rw[s1.2,k4]at hsh;refine ah func271 ?_;refine gc (PJ tw ha hb oz oz) ?_;refine gC (fun t15=>?_) (fun t15=>?_) (st1:=(3,0));cases t15;refine gc hsg ?_;refine gC (fun t20=>?_) (fun t20=>?_) (st1:=(5,0));exact absurd t20 (by simp only[aa,beq_iff_eq];omega);refine gc k1 ?_;refine gc hti ?_;refine gc hsh ?_;refine gD ?_;refine ba ?_;rfl
theorem yR{ts:LL}{r e f j:Nat}(tw:Tw ts r){a b:List Rat}(ha:Nm ts.length e a)(hb:Nm ts.length f b)(hj:j<=ts.length)(nb:Nl j b)(h0:T.sgn (aj ts) ts.length (ad ts.length b)≠0)(hf:f<=lm ts.length)(he:e+iB r j f+eB r ts.length<=200000000000) :
  Nm ts.length (e+iB r j f+eB r ts.length) (sh ts.length (T.mul (aj ts) ts.length (ad ts.length a) (T.inv (aj ts) ts.length (ad ts.length b)))):=by
 obtain⟨L,k1,k2,k3,k4⟩:=xU tw hb hj nb h0 hf oz;have s1:=fW ts ts.length tw.ok.1 ts.length ts.length _ _ (le_refl _) (le_refl _) ha.nl k2;have c1:=Cb.mul tw.ok (k:=ts.length) (le_refl _) (le_refl _) ha.nl k2 ha.cb k3;refine⟨tw.five,eg _ _,?_⟩;rw[<- k4,<- s1.2];exact c1.sh s1.1
def cc(k:Nat):List Rat:=(List.replicate (2^(k+1)) 0).set (2^k) 1
def aH(ts:LL)(a:List Rat):LL:=ts++[aP a (2^ts.length)]
theorem Jk(k:Nat):BlkSub (.row 3 ((List.replicate (2^(k+1)) (.agg [.v (.bool false),nS,nS])).set (2^k) (qA 1))) (.row 3 ((cc k).map qA)):=by
 unfold cc;refine .row ?_ ?_
 ·simp
 ·intro i e e' he he';rw[map_set,map_replicate]at he';rw[List.getElem?_set]at he he';split at he
  ·rename_i h1;rw[if_pos h1]at he';split at he
   ·rename_i h2;rw[length_replicate]at h2;rw[length_replicate,if_pos h2]at he';cases he;cases he'
    exact il.refl (yp 1)
   ·cases he
  ·rename_i h1;rw[if_neg h1]at he';rw[getElem?_replicate]at he he';split at he
   ·rename_i h2;rw[if_pos h2]at he';cases he;cases he'
    exact qZ
   ·cases he
theorem xN(k:Nat):(cc k).length=2^(k+1):=by simp[cc]
theorem Oy{k:Nat}(hk:k<=5):IntKind.i64.wrap ((2:Int)*2^(min (k:Int).toNat IntKind.i64.bits))=((2^(k+1):Nat):Int):=by
 have h:k=0\/k=1\/k=2\/k=3\/k=4\/k=5:=by omega
 rcases h with rfl |rfl |rfl |rfl |rfl |rfl <;> rfl
theorem L7(d:Nat)(hd:Nat.blt d 1000=true)(k:Nat)(hk:k<=5):Con prog 270 [i64 k] [] (.ms d 3 0 (2^(k+1))) [(d,some (.row 3 ((cc k).map qA)))]:=by
 have hp:2^(k+1)<=64:=bK (b:=6) oz;have hp2:2^k<2^(k+1):=Nat.pow_lt_pow_right oz oz;have hp0:=Nat.two_pow_pos k;refine gF func270 (fun k z h=>by cases h) ?_;refine gs (gI (.const _) (.tmp rfl) oz (Oy hk) rfl) ?_;refine gs (gS (.tmp rfl) T67 rfl T45 rfl rfl oz (by dsimp only;omega) rfl) ?_;refine gs (gI (.const _) (.tmp rfl) oz (ol oz) rfl) ?_;refine gc (lh 1 oz) ?_;refine gs (bR (n:=2^k) (.tmp rfl) (.tmp rfl) T67 rfl T45 rfl oz oz rfl) ?_;refine gs (dG (.tmp rfl) rfl (by rw[getElem?_replicate,if_pos oz]) rfl (.tmp rfl) rfl rfl T45 rfl rfl) ?_;refine gD ?_ (3,0);refine gW (Wk.of (sl:=[(3,some (.ms 6 3 0 (2^(k+1))))]) (hp:=[(6,some (.row 3 ((cc k).map qA)))]) (.cons rfl (Sub.of (congrArg (AV.ms 6 3 0) (toNat_natCast _))) .nil) (.cons rfl (Jk k) .nil)) ?_;refine gR ?_;exact aq.own1 rfl hd rfl
theorem Vx(k:Nat)(hk:k<=5):FP 270 [i64 k] (nA (cc k)):=by
 have h:=Con.freeze (by rw[length_map,xN];omega) (L7 0 rfl k hk);rw[drop_zero,take_of_length_le (by rw[length_map,xN];exact le_refl _)]at h;exact h
theorem R4{ts:LL}{r e:Nat}(tw:Tw ts r){a:List Rat}(ha:Nm ts.length e a)(he:e<=4398046511103):FP 243 [aL ts,.lst 1 [nA a]] (.v .nilIface):=by
 have hx:=Bw ha he;have hck:=lY (ts.map (List.map rt)) r tw.tr [a.map rt] (fun x h=>by rw[List.mem_singleton.1 h];exact⟨hx.ok,hx.len⟩) (by simp);have hc0:bn (ts.map (List.map rt)) [a.map rt]=0:=Ak tw ha;rw[hc0,jC]at hck;rw[show[nA a]=[a.map rt].map nR by simp[eA]];exact hck
theorem LH{ts:LL}{r e:Nat}(tw:Tw ts r){a:List Rat}(ha:Nm ts.length e a)(he:e<=4398046511103):FP 268 [aL ts,nA a] (.tup [nA (aP a (2^ts.length)),.v .nilIface]):=by
 have h5:=tw.five;have hl:=ha.nl.le;have hp:2^ts.length<=32:=bK (b:=5) oz;have qa:∀q∈a,Qs q:=fun q hq=>ha.cb.qs oz hq
 refine ah func268 ?_;refine gc (R4 tw ha he) ?_;refine gC (fun t12=>?_) (fun t12=>?_) (st1:=(3,0));cases t12;refine gc (yw a qa oz) ?_;refine gl ?_;refine gs (gI (.const _) (.tmp rfl) oz (ol oz) rfl) ?_;refine gc (Bn a (2^ts.length) hl oz) ?_;refine gD ?_;refine ba ?_;rfl
theorem DV{ts:LL}{r e:Nat}(tw:Tw ts r){a:List Rat}(ha:Nm ts.length e a)(he:e<=lm ts.length)(hs:0<=T.sgn (aj ts) ts.length (ad ts.length a)) :
  FP 151 [aL ts,nA a] (.tup [aL (aH ts a),nA (cc ts.length),.v .nilIface]):=by
 have h3:=tw.three;have h5:=tw.five;have hlm:=kg ts.length;have hl:=ha.nl.le;have nw:Nl ts.length (aP a (2^ts.length)):=.inr ⟨_,le_refl _,dC hl⟩;have hsg:=oe ts ts.length r tw.ok h5 (le_refl _) ts.length _ _ (le_refl _) nw ha.cb.wide (mJ (le_refl ts.length) h3 tw.le he);rw[oL]at hsg;have hqs:=tw.rb.qs tw.le;refine ah func151 ?_;refine gc (LH tw ha oz) ?_;refine gC (fun t18=>?_) (fun t18=>?_) (st1:=(3,0));cases t18;refine gc hsg ?_;refine gC (fun t23=>?_) (fun t23=>?_) (st1:=(5,0));exact absurd t23 (by simp only[aa,decide_eq_true_eq];omega);refine gl ?_;refine gC (fun t30=>?_) (fun t30=>?_) (st1:=(7,0));exact absurd t30 (by simp only[aa,decide_eq_true_eq];omega);refine gl ?_;refine gW (Wk.virt 900 1 rfl) ?_;refine aI [2,4,7,9,38,39] [2,4] (fun(i:Nat)=>[(40,some (i64 i))]) (fun i=>[(9,some (.box [.ms 900 1 0 i])),(900,some (.row 1 ((ts.take i).map nA)))]) (fun i=>i<=ts.length) (fun i=>ts.length-i) 0 (zero_le _) ?_ (h2:=(.cons rfl (BlkSub.bL (.cons (.nM _ _ _) .nil) rfl) (.k .nil)));rintro i hi K1 J1;refine gC (fun t41=>?_) (fun t41=>?_)
 ·have hin:=aQ t41;obtain⟨d,hd⟩:=au hin
  have hdl:d.length<=32:=by
   have h9:=tw.len i hin;rw[aC hd]at h9;have:2^i<=32:=bK (b:=5) oz;omega
  refine gi (ax hd) ?_;refine gc (yw d (hqs d (mem_of_getElem? hd)) oz) ?_;refine gs (cf (.tmp rfl) rfl (by rw[length_map,length_take];omega) (.tmp rfl) T35 rfl T67 rfl rfl (by simp only[length_cons,length_nil];omega) rfl rfl) ?_;refine gD ?_ (13,0);refine gW (Wk.of (sl:=[(2,some (.ptr 2 0)),(4,some (.ptr 4 0)),(7,some (nA (aP a (2^ts.length)))),(9,some (.ptr 9 0)),(38,some (.lst 1 (ts.map nA))),(39,some (i64 ts.length)),(40,some (i64 i))]) (hp:=[(2,some (.box [.lst 1 (ts.map nA)])),(4,some (.box [nS])),(9,some (.box [.ms 49 1 0 (i+1)])),(49,some (.row 1 ((ts.take (i+1)).map nA)))]) aV (.k (.k (.k (.cons rfl (BlkSub.of (by rw[dj hd,map_append];rfl)) .nil))))) ?_ (13,0)
  refine gW (Wk.rk (k:=49) (d:=900) rfl rfl) ?_;refine ga aF ?_;exact aE J1 (i+1) hin
 have hin:=a6 hi t41;subst hin;refine gs (cf (.tmp rfl) rfl (by rw[length_map,length_take];omega) (.tmp rfl) T35 rfl T67 rfl rfl (by simp only[length_cons,length_nil];omega) rfl rfl) ?_ (15,0);refine gW ((Wk.freeze (k:=56) rfl).trans<|Wk.of (sl:=[(2,some (.ptr 2 0)),(4,some (.ptr 4 0)),(9,some (.ptr 9 0))]) (hp:=[(2,some (.box [.lst 1 (ts.map nA)])),(4,some (.box [nS])),(9,some (.box [.lst 1 ((aH ts a).map nA)]))]) aV (.k (.k (.cons rfl (BlkSub.bL (.cons (Sub.of (by rw[bN (by simp)];unfold aH;simp)) .nil) rfl) .nil)))) ?_;refine gl ?_;refine gc (Vx ts.length oz) ?_;refine gD ?_;refine vY ?_;rfl
theorem BP{ts:LL}{r:Nat}(tw:Tw ts r):FP 144 [aL ts] (aL ts):=by
 have h3:=tw.three;have hqs:=tw.rb.qs tw.le;refine ah func144 ?_;refine gl ?_;refine gW (Wk.virt 900 1 rfl) ?_;refine aI [2,3,10,11] [2] (fun(i:Nat)=>[(12,some (i64 i))]) (fun i=>[(3,some (.box [.ms 900 1 0 i])),(900,some (.row 1 ((ts.take i).map nA)))]) (fun i=>i<=ts.length) (fun i=>ts.length-i) 0 (zero_le _) ?_ (h2:=(.cons rfl (BlkSub.bL (.cons (.nM _ _ _) .nil) rfl) (.k .nil)));rintro i hi K1 J1;refine gC (fun t13=>?_) (fun t13=>?_) (st2:=(13,0))
 ·have hin:=aQ t13;obtain⟨d,hd⟩:=au hin
  have hdl:d.length<=32:=by
   have h9:=tw.len i hin;rw[aC hd]at h9;have:2^i<=32:=bK (b:=5) oz;omega
  have hdq:=hqs d (mem_of_getElem? hd);refine gi (ax hd) ?_;refine gl ?_;refine gW (Wk.virt 901 3 rfl) ?_;refine aI [2,3,10,11,12,16,17] [2,3,900] (fun(j:Nat)=>[(6,some (.ms 901 3 0 j)),(18,some (i64 j))]) (fun j=>[(901,some (.row 3 ((d.take j).map qA)))]) (fun j=>j<=d.length) (fun j=>d.length-j) 0 (zero_le _) ?_;rintro j hj K2 J2;refine gC (fun t19=>?_) (fun t19=>?_) (st2:=(11,0))
  ·have hjn:=aQ t19;obtain ⟨q,hq⟩:=au hjn;have hadd:=oG (rt q) (rt 0) (hdq q (mem_of_getElem? hq)).ok Qs.zero.ok;rw [sF,bP] at hadd;refine gi (ax hq) ?_;refine gc (Con.sA (.cons (.refl _) (.cons jy .nil)) hadd) ?_;refine gs (cf (.tmp rfl) rfl (by rw [length_map,length_take]; omega) (.tmp rfl) T67 rfl T45 rfl rfl (by simp only [length_cons,length_nil]; omega) rfl rfl) ?_ (10,0);refine gW (Wk.of (sl:=[(2,some (.ptr 2 0)),(3,some (.ptr 3 0)),(10,some (.lst 1 (ts.map nA))),(11,some (i64 ts.length)),(12,some (i64 i)),(6,some (.ms 27 3 0 (j + 1))),(16,some (nA d)),(17,some (i64 d.length)),(18,some (i64 j))]) (hp:=[(2,some (.box [nS])),(3,some (.box [.ms 900 1 0 i])),(900,some (.row 1 ((ts.take i).map nA))),(27,some (.row 3 ((d.take (j + 1)).map qA)))]) aV (.k (.k (.k (.cons rfl (BlkSub.of (by rw [dj hq,map_append]; rfl)) .nil))))) ?_ (10,0)
   refine gW (Wk.rk (k:=27) (d:=901) rfl rfl) ?_;refine ga aF ?_;exact aE J2 (j+1) hjn
  have hjn:=a6 hj t19;subst hjn;refine gW ((Wk.freeze (k:=901) rfl).trans<|Wk.of (sl:=[(2,some (.ptr 2 0)),(3,some (.ptr 3 0)),(10,some (.lst 1 (ts.map nA))),(11,some (i64 ts.length)),(12,some (i64 i)),(6,some (nA d))]) (hp:=[(2,some (.box [nS])),(3,some (.box [.ms 900 1 0 i])),(900,some (.row 1 ((ts.take i).map nA)))]) (.k (.k (.k (.k (.k (.cons rfl (Sub.of (by rw[bN (by simp)];simp[nA])) .nil)))))) (.k (.k (.k .nil)))) ?_
  refine gs (cf (.tmp rfl) rfl (by rw[length_map,length_take];omega) (.tmp rfl) T35 rfl T67 rfl rfl (by simp only[length_cons,length_nil];omega) rfl rfl) ?_ (12,0);refine gW (Wk.of (sl:=[(2,some (.ptr 2 0)),(3,some (.ptr 3 0)),(10,some (.lst 1 (ts.map nA))),(11,some (i64 ts.length)),(12,some (i64 i))]) (hp:=[(2,some (.box [nS])),(3,some (.box [.ms 33 1 0 (i+1)])),(33,some (.row 1 ((ts.take (i+1)).map nA)))]) aV (.k (.k (.cons rfl (BlkSub.of (by rw[dj hd,map_append];rfl)) .nil)))) ?_ (12,0);refine gW (Wk.rk (k:=33) (d:=900) rfl rfl) ?_;refine ga aF ?_;exact aE J1 (i+1) hin
 have hin:=a6 hi t13;subst hin;refine gW ((Wk.freeze (k:=900) rfl).trans<|Wk.of (sl:=[(2,some (.ptr 2 0)),(3,some (.ptr 3 0))]) (hp:=[(2,some (.box [nS])),(3,some (.box [.lst 1 (ts.map nA)]))]) aV (.k (.cons rfl (BlkSub.bL (.cons (Sub.of (by rw[bN (by simp)];simp)) .nil) rfl) .nil))) ?_;refine ae ?_;rfl
abbrev dN(l:Li)(kw driven:List Bool)(r:List AV):List AV:=l.av.cells++(.lst 1 (kw.map bl) :: .lst 1 (driven.map bl)::r)
theorem QF(j:Jt)(b:Int):FP 415 [j.av,i64 b] (i64 (j4 j b)):=by
 refine ah func415 ?_;refine gC (fun t6=>?_) (fun t6=>?_)
 ·have h1:b=j.a:=da t6;refine ae ?_;unfold j4;rw[if_pos h1]
 have h1:b≠j.a:=dZ t6;refine gC (fun t12=>?_) (fun t12=>?_)
 ·have h2:b=j.b:=da t12;refine ae ?_;unfold j4;rw[if_neg h1,if_pos h2]
 have h2:b≠j.b:=dZ t12;refine ae ?_;unfold j4;rw[if_neg h1,if_neg h2];rfl
theorem R8(j:Jt)(kind body:Int)(f:FuncId)(pre caps:List AV)(p:Int->Bool)(hp:0<=j4 j body->FP f (pre++[i64 (j4 j body)]++caps) (bl (p (j4 j body)))) :
  FP 414 [j.av,.iptr [i64 body],.iptr [i64 kind],.iptr [.cl f pre caps]] (bl (u7 kind body p j)):=by
 refine ah func414 ?_;refine gc (QF j body) ?_;refine bJ (fun h=>(hp (SY h))) ?_;refine ae ?_;exact congrArg bl Se
theorem SK(bs:List Jt)(hl:bs.length<=281474976710656)(f:FuncId)(pre caps:List AV)(ok:Nat->Bool)
  (hf:∀(i:Nat)(b:Jt),bs[i]?=some b->(∀j,j<i->ok j=true)->FP f (pre++[b.av]++caps) (bl (!ok i))) :
  FP 413 [.lst 7 (bs.map Jt.av),.cl f pre caps] (i64 (jB (cq bs.length ok))):=by
 refine ah func413 ?_;refine gl ?_;refine aI [0,1,7] [] (fun(i:Nat)=>[(8,some (i64 i))]) (fun _=>[]) (fun i=>i<=bs.length/\∀j,j<i->ok j=true) (fun i=>bs.length-i) 0 ⟨zero_le _,fun j h=>by omega⟩ ?_;rintro i ⟨hi,hj⟩ K1 J1;refine gC (fun t9=>?_) (fun t9=>?_)
 ·have hin:=aQ t9;obtain⟨b,hb⟩:=au hin;refine gi (ax hb) ?_;refine gc (hf i b hb hj) ?_;refine gC (fun t16=>?_) (fun t16=>?_)
  ·have h2:=cS t16;refine ae ?_;rw[f9 hin hj h2];rfl
  have h2:=cT t16;refine ga aF ?_;exact aE J1 (i+1) ⟨hin,fun j h9=>by rcases lt_or_ge j i with g |g;exact hj j g;(have:j=i:=by omega);subst this;exact h2⟩
 have hin:=a6 hi t9;subst hin;refine ae ?_;rw[fC hj];rfl
theorem Iv(l:Li)(hl:l.ok)(hli:aB l=0)(Fd:List AV)(kind body:Int)(f:FuncId)(pre caps:List AV)(p:Int->Bool)
  (hp:∀o:Int,0<=o->o<l.bo.length->FP f (pre++[i64 o]++caps) (bl (p o))) :
  FP 405 [.iptr (l.av.cells++Fd),i64 kind,i64 body,.cl f pre caps] (i64 (gJ l kind body p)):=by
 refine ah func405 ?_ (1,0);refine gW ((Wk.freezeB (k:=7) rfl rfl).trans<|(Wk.freezeB (k:=5) rfl rfl).trans<|(Wk.freezeB (k:=6) rfl rfl).trans<|Wk.o (sl:=[(0,some (.iptr (l.av.cells++Fd))),(5,some (.iptr [i64 kind])),(6,some (.iptr [i64 body])),(7,some (.iptr [.cl f pre caps]))]) (hp:=[])) ?_;refine gc (Con.sA (.cons (.refl _) (.cons (uE rfl) .nil)) (SK l.jo hl.lj 414 [] [.iptr [i64 body],.iptr [i64 kind],.iptr [.cl f pre caps]] (fun i=>!u7 kind body p (l.jo.getD i default)) (fun i b hb hj=>by rw[Bool.not_not,aC hb];exact R8 b kind body f pre caps p (fun h=>hp _ h (Uz hli hb body))))) ?_;refine ae ?_;rfl
theorem Ph(l:Li)(kw driven:List Bool)(r:List AV)(b:Int)(h0:0<=b)(h1:b<kw.length):FP 411 [.iptr (dN l kw driven r),i64 b] (bl (kn kw b)):=by
 obtain⟨v,hv⟩:∃v,kw[b.toNat]?=some v:=au oz;have ev:kn kw b=v:=aC hv;refine ah func411 ?_;refine gi (ib (n:=b.toNat) oz hv) ?_;refine ae ?_;rw[ev]
theorem ID(l:Li)(hl:l.ok)(hli:aB l=0)(kw driven:List Bool)(hk:kw.length=l.bo.length)(r:List AV)(kind body:Int) :
  FP 403 [.iptr (dN l kw driven r),i64 kind,i64 body] (i64 (gJ l kind body (kn kw))):=by
 refine ah func403 ?_;refine gc (Iv l hl hli _ kind body 411 [.iptr (dN l kw driven r)] [] (kn kw) (fun o h0 h1=>Ph l kw driven r o h0 oz)) ?_;refine ae ?_;rfl
theorem VX(o j:Int):FP 406 [i64 o,.iptr [i64 j]] (bl (decide (o=j))):=by
 refine ah func406 ?_;refine ae ?_;exact congrArg bl pY
theorem Vm(l:Li)(kw driven:List Bool)(hd:driven.length=kw.length)(r:List AV)(b:Int)(h0:0<=b)(h1:b<kw.length) :
  FP 407 [.iptr (dN l kw driven r),i64 b] (bl (!kn kw b&&!kn driven b)):=by
 obtain⟨v,hv⟩:∃v,kw[b.toNat]?=some v:=au oz;have ev:kn kw b=v:=aC hv;obtain⟨u,hu⟩:∃u,driven[b.toNat]?=some u:=au oz;have eu:kn driven b=u:=aC hu;refine ah func407 ?_;refine gi (ib (n:=b.toNat) oz hv) ?_;refine nI (fun _=>(ib (n:=b.toNat) oz hu)) ?_;refine ae ?_;rw[ev,eu];exact congrArg bl (iO _ _)
theorem Ol(l:Li)(hl:l.ok)(hli:aB l=0)(kw driven:List Bool)(hk:kw.length=l.bo.length)(r:List AV) :
  FP 379 [.iptr (dN l kw driven r)] (.tup [((dm l kw).getD default).av,bl (dm l kw).isSome]):=by
 have hld:=hl.ld;refine ah func379 ?_;refine gl ?_;refine aI [0,2,11,12] [2] (fun(i:Nat)=>[(13,some (i64 i))]) (fun _=>[]) (fun i=>i<=l.dv.length/\∀j,j<i->(!fL l kw j)=true) (fun i=>l.dv.length-i) 0 ⟨zero_le _,fun j h=>by omega⟩ ?_;rintro i ⟨hi,hj⟩ K1 J1;refine gC (fun t14=>?_) (fun t14=>?_)
 ·have hin:=aQ t14;obtain⟨d,hd⟩:=au hin;have hdd:l.dv.getD i default=d:=aC hd;have hb:=dq (lr hli hd);obtain⟨v,hv⟩:∃v,kw[d.body.toNat]?=some v:=au oz;have ev:kn kw d.body=v:=aC hv;have ej:gJ l 0 d.body (kn kw)=bS l 0 d.body kw:=yz hli (fun o _ _=>rfl);refine gi (ax hd) ?_;refine gi (ib (n:=d.body.toNat) oz hv) ?_;refine gD ?_;refine gC (fun t25=>?_) (fun t25=>?_)
  ·have h2 : fL l kw i = false := by unfold fL; rw [hdd, ev, t25]; rfl
   refine ga aF ?_;exact aE J1 (i+1) ⟨hin,fun k h9=>by rcases lt_or_ge k i with g |g;exact hj k g;(have:k=i:=by omega);subst this;rw[h2];rfl⟩
  have hv0:v=false:=t25;refine gc (show iH _ _ _ (i64 (bS l 0 d.body kw)) by rw[<- ej];exact ID l hl hli kw driven hk r 0 d.body) ?_;refine gC (fun t31=>?_) (fun t31=>?_)
  ·have h2 : fL l kw i = true := by unfold fL; rw [hdd, ev, hv0, decide_eq_true (Gy t31)]; rfl
   have hg:dm l kw=some ⟨0,[d.body],[bS l 0 d.body kw],i⟩:=by unfold dm;rw[f9 hin hj (by rw[h2];rfl),<- hdd];rfl
   refine ba ?_;rw[hg];rfl
  have h2:fL l kw i=false:=by unfold fL;rw[hdd,decide_eq_false (Ir t31),Bool.and_false]
  refine ga aF ?_;exact aE J1 (i+1) ⟨hin,fun k h9=>by rcases lt_or_ge k i with g |g;exact hj k g;(have:k=i:=by omega);subst this;rw[h2];rfl⟩
 have hin:=a6 hi t14;subst hin;have hg:dm l kw=none:=by unfold dm;rw[fC hj];rfl
 refine gR ?_;exact aq.sub aq.pure (by rw[hg];exact Sub.tup (.cons pL (.cons (.refl _) .nil)))
theorem BD(l:Li)(hli:aB l=0)(kw:List Bool)(hk:kw.length=l.bo.length)(r:List AV)(b:Nat)(h1:b<l.bo.length) :
  FP 407 [.iptr (dN l kw (bV l) r),i64 b] (bl (en l kw b)):=by
 have h:=Vm l kw (bV l) (by rw[sT,hk]) r b oz oz;rw[JJ hli oz]at h;exact h
theorem uL(l:Li)(hl:l.ok)(hli:aB l=0)(kw:List Bool)(hk:kw.length=l.bo.length)(r:List AV)(kind body:Int) :
  FP 403 [.iptr (dN l kw (bV l) r),i64 kind,i64 body] (i64 (bS l kind body kw)):=by
 have h:=ID l hl hli kw (bV l) hk r kind body;rw[yz hli (fun o _ _=>rfl)]at h;exact h
theorem Qq(l:Li)(hl:l.ok)(hli:aB l=0)(kw:List Bool)(hk:kw.length=l.bo.length)(r:List AV) :
  FP 381 [.iptr (dN l kw (bV l) r)] (.tup [((dY l kw).getD default).av,bl (dY l kw).isSome]):=by
 have h8:=(cO hli).2.2.2.1;refine ah func381 ?_;refine gl ?_;refine aI [0,2,12,13] [2] (fun(i:Nat)=>[(14,some (i64 i))]) (fun _=>[]) (fun i=>i<=l.bo.length/\∀j,j<i->(!fw l kw j)=true) (fun i=>l.bo.length-i) 0 ⟨zero_le _,fun j h=>by omega⟩ ?_;rintro i ⟨hi,hj⟩ K1 J1;refine gC (fun t15=>?_) (fun t15=>?_)
 ·have hin:=aQ t15;refine gc (BD l hli kw hk r i hin) ?_;refine gC (fun t20=>?_) (fun t20=>?_)
  ·have h2 : fw l kw i = false := by unfold fw; rw [cS t20]; rfl
   refine ga aF ?_;exact aE J1 (i+1) ⟨hin,fun k h9=>by rcases lt_or_ge k i with g |g;exact hj k g;(have:k=i:=by omega);subst this;rw[h2];rfl⟩
  have hf:=cT t20;refine gc (uL l hl hli kw hk r 0 i) ?_;refine gc (uL l hl hli kw hk r 1 i) ?_;refine gC (fun t32=>?_) (fun t32=>?_)
  ·have h2 : fw l kw i = false := by unfold fw; rw [Fa t32, Bool.and_false]
   refine ga aF ?_;exact aE J1 (i+1) ⟨hin,fun k h9=>by rcases lt_or_ge k i with g |g;exact hj k g;(have:k=i:=by omega);subst this;rw[h2];rfl⟩
  obtain⟨p0,s0⟩:=Id t32;have s1:=(m9 (l:=l) (kind:=1) (body:=i) (oth:=kw)).2;have h2:fw l kw i=true:=by unfold fw;rw[hf,decide_eq_true p0,decide_eq_true s0];rfl
  obtain⟨j,hjt⟩:∃j,l.jo[(bS l 1 i kw).toNat]?=some j:=au oz;have hjd:l.jo.getD (bS l 1 i kw).toNat default=j:=aC hjt;have hg:dY l kw=some (hO l kw i):=by unfold dY;rw[f9 hin hj (by rw[h2];rfl),Option.map_some]
  refine gi (ib (n:=(bS l 1 i kw).toNat) oz hjt) ?_;refine gC (fun t43=>?_) (fun t43=>?_)
  ·have hji:j.a=i:=da t43;refine ba ?_;rw[hg];unfold hO;rw[hjd];simp only[Option.getD_some,if_pos hji];rfl
  have hji:j.a≠i:=dZ t43;refine ba ?_;rw[hg];unfold hO;rw[hjd];simp only[Option.getD_some,if_neg hji];rfl
 have hin:=a6 hi t15;subst hin;have hg:dY l kw=none:=by unfold dY;rw[fC hj];rfl
 refine gR ?_;exact aq.sub aq.pure (by rw[hg];exact Sub.tup (.cons pL (.cons (.refl _) .nil)))
theorem Um(Fd:List AV):FP 404 [.iptr Fd] (.fn 412 [.iptr [.iptr Fd]]):=by
 refine ah func404 ?_ (1,0);refine gW ((Wk.freezeB (k:=1) rfl rfl).trans<|Wk.o (sl:=[(1,some (.iptr [.iptr Fd]))]) (hp:=[])) ?_;refine ae ?_;rfl
def xm:Code->Option (Array Tmp×Code×Code)
  | .rangeFunc _ ps x y=>some (ps,x,y)
  | .seq a b=>match xm a with
    |some r=>some r
    |none=>xm b
  | .block _ c=>xm c
  |_=>none
def FB(n:Nat)(o:Option Code):LpD:=match o with
  |some c=>match xm c with
    |some (ps,x,y)=>⟨ps,x,y,n⟩
    |none=>⟨#[],.skip,.skip,0⟩
  |none=>⟨#[],.skip,.skip,0⟩
def G1(D:LpD)(Fd:List AV)(h:Bool):Blk:=.loop D (match h with |true=>.done |false=>.ready) (match h with |true=>some .ret |false=>none) [(1,some (.iptr [.iptr Fd])),(2,some (.ptr 1001 0)),(3,some (.ptr 1002 0))]
def Ad(g:Gr):Blk:=.box [i64 g.kind,.lst 1 (g.bo.map i64),.lst 1 (g.jo.map i64),i64 g.driver]
def xO(h:Bool):Blk:=.box [bl h]
def fq(D:LpD)(Fd:List AV)(h:Bool)(g:Gr):Hp:=[(1000,some (G1 D Fd h)),(1001,some (Ad g)),(1002,some (xO h))]
theorem DS{D:LpD}{Fd:List AV}{h:Bool}{g:Gr}{k:Nat}{z:Blk}(hz:lk (fq D Fd h g) k=some z):1000<=k:=by
 unfold fq at hz;simp only[aJ]at hz;split at hz
 ·omega
 ·split at hz
  ·omega
  ·split at hz
   ·omega
   ·cases hz
theorem N5{D:LpD}{Fd:List AV}{s:AS}(hs:∀k z,lk (fq D Fd false default) k=some z->s.blk k=some z) :
  ∀k∈(fq D Fd false default++dg (fq D Fd false default)).map (·.1),k∈(fq D Fd false default).map (·.1)/\lk (fq D Fd false default++dg (fq D Fd false default)) k=s.blk k:=by
 intro k hk
 have hk':k=1000\/k=1001\/k=1002:=by
  simp[fq,dg]at hk;omega
 rcases hk' with rfl |rfl |rfl
 ·exact⟨by simp[fq],(hs _ _ rfl).symm⟩
 ·exact⟨by simp[fq],(hs _ _ rfl).symm⟩
 ·exact⟨by simp[fq],(hs _ _ rfl).symm⟩
theorem CV{l:Li}{kw:List Bool}{i k:Nat}(h:cond (en l kw i) (en l kw k) false=false):dB l kw i k=false:=by
 rw[iO]at h;unfold dB;rw[h];rfl
theorem Js{H R:Hp}{k:Nat}{z:Blk}(h:lk H k=some z):lk (H++R) k=some z:=by rw[mN,if_pos (mw h)];exact h
theorem Ts{a b:Bool}(h:cond a b false=true):a=true:=by cases a <;> simp_all
theorem yh{a b:Bool}(h:cond a b false=true):b=true:=by cases a <;> simp_all
theorem V7(D:LpD)(l:Li)(hl:l.ok)(hli:aB l=0)(kw:List Bool)(hk:kw.length=l.bo.length)(r:List AV)
  (hy:∀i k:Nat,i<k->k<l.bo.length->en l kw i=true->en l kw k=true ->
   w8 prog 1000 [i64 i,i64 k] (fq D (dN l kw (bV l) r) false default) (bl (!dB l kw i k)) (fq D (dN l kw (bV l) r) (dB l kw i k) (cond (dB l kw i k) (gz l kw i k) default))) :
  Con prog 412 [.yl 1000,.iptr [.iptr (dN l kw (bV l) r)]] (fq D (dN l kw (bV l) r) false default) (.tup []) (fq D (dN l kw (bV l) r) (cM l kw).isSome ((cM l kw).getD default)):=by
 have h8:=(cO hli).2.2.2.1;refine gF func412 (fun k z h=>DS h) ?_;refine gl ?_;refine aI [0,1,10] [1000,1001,1002] (fun(i:Nat)=>[(11,some (i64 i))]) (fun _=>[]) (fun i=>i<=l.bo.length/\∀j,j<i->(f6 l kw j).isNone=true) (fun i=>l.bo.length-i) 0 ⟨zero_le _,fun j h=>by omega⟩ ?_;rintro i ⟨hi,hj⟩ K1 J1;refine gC (fun t12=>?_) (fun t12=>?_)
 ·have hin:=aQ t12;refine ga aF ?_;refine aI [0,1,3,10,11] [] (fun (k:Nat)=>[(4,some (i64 (i + 1 + k:Nat)))]) (fun _=>[(1000,some (G1 D (dN l kw (bV l) r) false)),(1001,some (Ad default)),(1002,some (xO false))]) (fun k=>i + 1 + k <= l.bo.length /\ ∀ j,j < k -> (!dB l kw i (i + 1 + j)) = true) (fun k=>l.bo.length - k) 0 ⟨by omega,fun j h=>by omega⟩ ?_;rintro k ⟨hkl,hkj⟩ K2 J2;refine gl ?_;refine gC (fun t23=>?_) (fun t23=>?_)
  ·have hkn:i + 1 + k < l.bo.length:=aQ t23;refine gc (BD l hli kw hk r i hin) ?_;refine bJ (fun _=>(BD l hli kw hk r (i + 1 + k) hkn)) ?_;refine gs (KU rfl rfl rfl (by intro hb; have h0:dB l kw i (i + 1 + k) = false:=CV (by simpa using hb); simp only [h0,cond_false]; exact N5 (by intro k z h; exact h)) (fun hb=>OF (k:=1000) (.opt rfl (by rw [hb]; rfl)) (hy i (i + 1 + k) oz hkn (Ts hb) (yh hb)) (.cons (.opt rfl (by rw [hb]; rfl)) (.cons (.opt rfl (by rw [hb]; rfl)) .nil)) (by intro k z h; exact h) rfl rfl)) ?_;refine gC (fun t40=>?_) (fun t40=>?_)
   ·have h2 : dB l kw i (i + 1 + k) = true := by have h9 := yh t40; rw [Bool.not_not] at h9; exact h9
    have hat:f6 l kw i=some (i+1+k):=by unfold f6;rw[f9 oz hkj (by rw[h2];rfl),Option.map_some];congr 1;omega
    have hg:cM l kw=some (gz l kw i (i+1+k)):=by unfold cM;rw[f9 hin hj (by rw[hat];rfl),Option.map_some,hat]
    refine gR ?_;simp only[hg,h2,Option.isSome_some,Option.getD_some,cond_true];exact aq.keep (fun k z h=>Js h)
   have h2:dB l kw i (i+1+k)=false:=by cases hc:cond (en l kw i) (en l kw ((i+1+k:Nat):Int)) false with |false=>exact CV hc |true=>rw[hc,Bool.not_not]at t40;exact t40
   refine ga aF ?_;exact aE J2 (k+1) ⟨by omega,fun j h9=>by rcases lt_or_ge j k with g |g;exact hkj j g;(have:j=k:=by omega);subst this;rw[h2];rfl⟩ (hw:=Wk.of aV (.cons rfl (BlkSub.of (by rw[h2])) (.cons rfl (BlkSub.of (by rw[h2];rfl)) (.cons rfl (BlkSub.of (by rw[h2])) .nil))))
  have hkn:¬i+1+k<l.bo.length:=fun h=>by have h1:=tP t23;omega
  have hat:f6 l kw i=none:=by unfold f6;rw[show l.bo.length-(i+1)=k by omega,fC hkj];rfl
  refine ga aF ?_;exact aE J1 (i+1) ⟨hin,fun j h9=>by rcases lt_or_ge j i with g |g;exact hj j g;(have:j=i:=by omega);subst this;rw[hat];rfl⟩
 have hin:=a6 hi t12;have hg:cM l kw=none:=by unfold cM;rw[<- hin,fC hj];rfl
 refine gR ?_;simp only[hg,Option.isSome_none,Option.getD_none];exact aq.keep (fun k z h=>h)
variable{P:Program}
mutual
def AV.pm(σ:Nat->Nat):AV->AV
  | .ms k sz off len=>.ms (σ k) sz off len
  | .ptr k off=>.ptr (σ k) off
  | .eptr k sz i off=>.eptr (σ k) sz i off
  | .yl k=>.yl (σ k)
  | .agg cs=>.agg (AV.pms σ cs)
  | .tup cs=>.tup (AV.pms σ cs)
  | .fn f cs=>.fn f (AV.pms σ cs)
  | .opt b x=>.opt b (AV.pm σ x)
  | .v x=>.v x
  | .lst sz l=>.lst sz l
  | .iptr l=>.iptr l
  | .cl f cs ds=>.cl f cs ds
def AV.pms(σ:Nat->Nat):List AV->List AV
  |[]=>[]
  |x::l=>AV.pm σ x::AV.pms σ l
end
theorem AV.pms_eq(σ:Nat->Nat):∀l,AV.pms σ l=l.map (AV.pm σ)
 |[]=>rfl
 |x::l=>by simp only[AV.pms,map_cons,AV.pms_eq σ l]
theorem AV.pm_one(σ:Nat->Nat)(x:AV)(h:x.one=true):(x.pm σ).one=true:=by
 cases x <;> simp only[AV.pm] <;> exact h
mutual
theorem AV.pm_pm{σ:Nat->Nat}(hσ:∀k,σ (σ k)=k):∀x:AV,(x.pm σ).pm σ=x
 | .ms k sz off len=>by simp only[AV.pm,hσ]
 | .ptr k off=>by simp only[AV.pm,hσ]
 | .eptr k sz i off=>by simp only[AV.pm,hσ]
 | .yl k=>by simp only[AV.pm,hσ]
 | .agg cs=>by simp only[AV.pm];rw[AV.pms_pms hσ cs]
 | .tup cs=>by simp only[AV.pm];rw[AV.pms_pms hσ cs]
 | .fn f cs=>by simp only[AV.pm];rw[AV.pms_pms hσ cs]
 | .opt b x=>by simp only[AV.pm];rw[AV.pm_pm hσ x]
 | .v x=>by simp only[AV.pm]
 | .lst sz l=>by simp only[AV.pm]
 | .iptr l=>by simp only[AV.pm]
 | .cl f cs ds=>by simp only[AV.pm]
theorem AV.pms_pms{σ:Nat->Nat}(hσ:∀k,σ (σ k)=k):∀l:List AV,AV.pms σ (AV.pms σ l)=l
 |[]=>by simp only[AV.pms]
 |x::l=>by simp only[AV.pms];rw[AV.pm_pm hσ x,AV.pms_pms hσ l]
end
theorem uy{g:Nat->Array Value->Prop}{S:Nat->Nat->Prop}{σ:Nat->Nat}(hσ:∀k,σ (σ k)=k){m:Nat->Option Nat}{v:Value}{x:AV}(h:Rep g S m v x):Rep g S (fun k=>m (σ k)) v (x.pm σ):=by
 induction h with
 |v x=>exact .v x
 |lst0 a cap sz'=>exact .lst0 a cap sz'
 |lst u hb hc hl hs ho hu hr _=>exact .lst u hb hc hl hs ho hu hr
 |iptr u hb ho hu hr _=>exact .iptr u hb ho hu hr
 |cl a b c d _ _=>exact .cl a b c d
 |ptr hm=>exact .ptr (by simp only[hσ];exact hm)
 |eptr hm=>exact .eptr (by simp only[hσ];exact hm)
 |yl hm=>exact .yl (by simp only[hσ];exact hm)
 |ms0 a k sz off=>exact .ms0 _ _ _ _
 |ms hm hc hS=>exact .ms (by simp only[hσ];exact hm) hc hS
 |opt h h' ih=>exact .opt ih h'
 |agg hn h1 hr ih =>
  simp only[AV.pm,AV.pms_eq];refine .agg (by simpa using hn) ?_ ?_
  ·intro j c hc;simp only[getElem?_map,map_eq_some_iff]at hc;obtain⟨y,hy,rfl⟩:=hc;exact AV.pm_one _ _ (h1 j y hy)
  ·intro j u c hu hc;simp only[getElem?_map,map_eq_some_iff]at hc;obtain⟨y,hy,rfl⟩:=hc;exact ih j u y hu hy
 |tup hn hr ih =>
  simp only[AV.pm,AV.pms_eq];refine .tup (by simpa using hn) ?_;intro j u c hu hc;simp only[getElem?_map,map_eq_some_iff]at hc;obtain⟨y,hy,rfl⟩:=hc;exact ih j u y hu hy
 |fn hn hr ih =>
  simp only[AV.pm,AV.pms_eq];refine .fn (by simpa using hn) ?_;intro j u c hu hc;simp only[getElem?_map,map_eq_some_iff]at hc;obtain⟨y,hy,rfl⟩:=hc;exact ih j u y hu hy
theorem Q1{g:Nat->Array Value->Prop}{S:Nat->Nat->Prop}{σ:Nat->Nat}(hσ:∀k,σ (σ k)=k){m:Nat->Option Nat}{w:World}{o:Option Nat}{x:Blk}(h:BlkRep g S m w o x) :
  BlkRep g S (fun k=>m (σ k)) w o (x.map (AV.pm σ)):=by
 cases x with
 |row sz es=>exact h.mono (fun _ _ h=>h) (fun _ _ h=>h) (fun _ _ hk=>hk.elim) rfl (fun _ _=>rfl)
 |vec vs=>exact h.mono (fun _ _ h=>h) (fun _ _ h=>h) (fun _ _ hk=>hk.elim) rfl (fun _ _=>rfl)
 |loop=>exact h.mapLoop _ (fun _ _ _ _ h=>uy hσ h)
 |box cs =>
  cases h with
  |box hw hn h1 hrr =>
   refine .box hw (by simpa using hn) ?_ ?_
   ·intro j x hx;simp only[getElem?_map,map_eq_some_iff]at hx;obtain⟨y,hy,rfl⟩:=hx;exact AV.pm_one _ _ (h1 j y hy)
   ·intro j u x hu hx;simp only[getElem?_map,map_eq_some_iff]at hx;obtain⟨y,hy,rfl⟩:=hx;exact uy hσ (hrr j u y hu hy)
theorem A5{σ:Nat->Nat}(hσ:∀k,σ (σ k)=k):∀sl:bE,jG (AV.pm σ) (jG (AV.pm σ) sl)=sl
 |[]=>rfl
 |(t,none)::l=>by simp only[jG,A5 hσ l]
 |(t,some x)::l=>by simp only[jG,A5 hσ l,AV.pm_pm hσ x]
theorem Blk.pm_pm{σ:Nat->Nat}(hσ:∀k,σ (σ k)=k)(x:Blk):(x.map (AV.pm σ)).map (AV.pm σ)=x:=by
 cases x with
 |row sz es=>rfl
 |vec vs=>rfl
 |loop d st pe sl=>simp only[Blk.map,A5 hσ]
 |box cs =>
  simp only[Blk.map];rw[<- AV.pms_eq,<- AV.pms_eq,AV.pms_pms hσ]
def jg(σ:Nat->Nat):Hp->Hp
  |[]=>[]
  |(k,x)::l=>(σ k,match x with |some b=>some (b.map (AV.pm σ)) |none=>none)::jg σ l
theorem lN{σ:Nat->Nat}(hσ:∀k,σ (σ k)=k):∀(H:Hp)(k:Nat),lk (jg σ H) k=(lk H (σ k)).map (Blk.map (AV.pm σ))
 |[],k=>rfl
 |(k',x)::l,k=>by
  simp only[jg,aJ,lN hσ l k]
  by_cases h:k=σ k'
  ·rw[if_pos h,if_pos (by rw[h,hσ])];cases x <;> rfl
  ·rw[if_neg h,if_neg (fun e=>h (by rw[<- e,hσ]))]
theorem yu{σ:Nat->Nat}(hσ:∀k,σ (σ k)=k)(H:Hp)(m:Nat->Option Nat):aW (jg σ H) (fun k=>m (σ k))=aW H m:=by
 funext b;apply propext;constructor
 ·rintro⟨k,z,hz,hb⟩;rw[lN hσ,map_eq_some_iff]at hz;obtain⟨y,hy,rfl⟩:=hz;exact⟨σ k,y,hy,hb⟩
 ·rintro⟨k,y,hy,hb⟩;exact⟨σ k,y.map (AV.pm σ),by rw[lN hσ,hσ,hy];rfl,by simp only[hσ];exact hb⟩
theorem IJ{σ:Nat->Nat}(hσ:∀k,σ (σ k)=k){ext:Nat->Prop}{H:Hp}{m:Nat->Option Nat}{w:World}(h:HeapRel ext H m w):HeapRel ext (jg σ H) (fun k=>m (σ k)) w:=by
 have e:Im ext (jg σ H) (fun k=>m (σ k)) w=Im ext H m w:=by funext b cs;simp only[Im,yu hσ]
 refine⟨?_,?_,?_⟩
 ·intro k z hz;rw[lN hσ,map_eq_some_iff]at hz;obtain⟨y,hy,rfl⟩:=hz;rw[e];exact Q1 hσ (h.blk _ y hy)
 ·intro k k' z z' b hz hz' hb hb';rw[lN hσ,map_eq_some_iff]at hz hz';obtain⟨y,hy,_⟩:=hz;obtain⟨y',hy',_⟩:=hz';have:=h.inj _ _ y y' b hy hy' hb hb';rw[<- hσ k,this,hσ]
 ·intro k z b hz hb;rw[lN hσ,map_eq_some_iff]at hz;obtain⟨y,hy,_⟩:=hz;exact h.sep _ y b hy hb
theorem Con.pm{σ:Nat->Nat}(hσ:∀k,σ (σ k)=k){f:FuncId}{args:List AV}{H H':Hp}{r:AV}(h:Con P f args H r H'):Con P f (args.map (AV.pm σ)) (jg σ H) (r.pm σ) (jg σ H'):=by
 refine⟨h.ok,?_⟩;intro ext m w vs hext hheap hvs hrep
 have hlk:∀k,lk (jg σ (jg σ H)) k=lk H k:=by
  intro k;rw[lN hσ,lN hσ,hσ];cases lk H k with
  |none=>rfl
  |some y=>simp only[Option.map_some,Blk.pm_pm hσ]
 have hh:=HeapRel.congr hlk (IJ hσ hheap);have em:(fun k=>(fun k=>m (σ k)) (σ k))=m:=by funext k;simp only[hσ]
 have eo:aW (jg σ H) m=aW H (fun k=>m (σ k)):=by
  have:=yu hσ H (fun k=>m (σ k));rw[em]at this;exact this
 have ei:Im ext (jg σ H) m w=Im ext H (fun k=>m (σ k)) w:=by funext b cs;simp only[Im,eo]
 refine Calls.mono (h.ret ext (fun k=>m (σ k)) w vs hext hh (by simpa using hvs) (fun j v x hv hx=>?_)) ?_
 ·have h1 := hrep j v (x.pm σ) hv (by simp[hx]);have h2:=uy hσ h1;rw[AV.pm_pm hσ,ei]at h2;exact h2
 ·rintro e w' ⟨v,m',rfl,hf,hh',hn,hk,hrr⟩;refine⟨v,fun k=>m' (σ k),rfl,eo▸hf,IJ hσ hh',?_,?_,?_⟩
  ·intro k x b hx hb;rw[lN hσ,map_eq_some_iff]at hx;obtain⟨y,hy,_⟩:=hx;rw[eo];exact hn _ y b hy hb
  ·intro k x y hx hy;rw[lN hσ,map_eq_some_iff]at hx hy;obtain⟨x',hx',_⟩:=hx;obtain⟨y',hy',_⟩:=hy;have:=hk _ x' y' hx' hy';simpa only[hσ]using this
  ·have e2 : Im ext (jg σ H') (fun k => m' (σ k)) w' = Im ext H' m' w' := by funext b cs; simp only [Im, yu hσ]
   rw[e2];exact uy hσ hrr
end Go.Lw
namespace Go.Lw
open Go.Proofs
theorem gZ{P:Program}{N:Nat}{Q:Exit->AS->Prop}{c:Code}{s:AS}(h:Gd P N Q (.code c [] s)):bF P N c Q s:=h
theorem MO{P:Program}{N:Nat}{Q:Exit->AS->Prop}{c:Code}{s s':AS}(hw:Wk s s')(h:jV P N c Q s'):jV P N c Q s:=by
 intro C m a w n hro hN hr;obtain⟨m',hr'⟩:=hw C m a w hr;exact h C m' a w n hro hN hr'
def vC(k:Nat):Nat:=bif Nat.beq k 1000 then 900 else bif Nat.beq k 900 then 1000 else bif Nat.beq k 1001 then 2 else bif Nat.beq k 2 then 1001 else bif Nat.beq k 1002 then 3 else bif Nat.beq k 3 then 1002 else k
theorem nb{a b:Nat}(h:¬a=b):Nat.beq a b=false:=by
 cases h1:Nat.beq a b
 ·rfl
 ·exact absurd (eq_of_beq_eq_true h1) h
theorem S7(k:Nat):vC (vC k)=k:=by
 by_cases h1:k=1000
 ·subst h1;rfl
 by_cases h2:k=900
 ·subst h2;rfl
 by_cases h3:k=1001
 ·subst h3;rfl
 by_cases h4:k=2
 ·subst h4;rfl
 by_cases h5:k=1002
 ·subst h5;rfl
 by_cases h6:k=3
 ·subst h6;rfl
 have e:vC k=k:=by simp only[vC,nb h1,nb h2,nb h3,nb h4,nb h5,nb h6,cond_false]
 rw[e,e]
theorem QT(l:Li)(hl:l.ok)(hli:aB l=0)(kw:List Bool)(hk:kw.length=l.bo.length)(r:List AV) :
  FP 380 [.iptr (dN l kw (bV l) r)] (.tup [((cM l kw).getD default).av,bl (cM l kw).isSome]):=by
 refine E7 (rs:=Tryz.f380.results.toList) func380 rfl rfl (by simp) rfl (fun k z h=>by cases h) ?_;refine AI (gZ (go ?_));refine MO (s':=⟨[(1,some (.iptr [.iptr (dN l kw (bV l) r)])),(2,some (.ptr 2 0)),(3,some (.ptr 3 0))],[(2,some (Ad default)),(3,some (xO false))]⟩) ((Wk.freezeB (k:=1) rfl rfl).trans (Wk.of (.k (.k (.k .nil))) (.cons rfl (BlkSub.bL (.cons (.refl _) (.cons (.nil _ _ _) (.cons (.nil _ _ _) (.cons (.refl _) .nil)))) rfl) (.k .nil)))) ?_;refine KK ?_;refine AI (gZ (go ?_));refine gc (Um (dN l kw (bV l) r)) ?_;refine NV ?_
 have hy:∀i k:Nat,i<k->k<l.bo.length->en l kw i=true->en l kw k=true ->
   w8 prog 1000 [i64 i,i64 k] (fq (FB Tryz.f380.ntmps Tryz.f380.body) (dN l kw (bV l) r) false default) (bl (!dB l kw i k)) (fq (FB Tryz.f380.ntmps Tryz.f380.body) (dN l kw (bV l) r) (dB l kw i k) (cond (dB l kw i k) (gz l kw i k) default)):=by
  intro i k hik hkn hfi hfk;refine Sc (k:=1000) (fun k z h=>DS h) rfl rfl (by intro p hp;have h9:p∈[11,12]:=hp;have h8:p=11\/p=12:=(by simpa using h9);show p<42;rcases h8 with h7 |h7 <;> (rw[h7];decide)) ?_;refine gZ (go ?_);refine⟨rfl,_,_,rfl,?_⟩;have hJ:gJ l 0 i (fun o=>decide (o=(k:Int)))=bS l 0 i (cz l.bo.length k):=yz hli (fun o h0 h1=>(nZ h0 oz oz).symm);refine gZ (go ?_);refine gc (uL l hl hli kw hk r 0 i) ?_;refine gc (uL l hl hli kw hk r 0 k) ?_;refine gD ?_ (5,0);refine gW (Wk.freezeB (k:=5) rfl rfl) ?_;refine gc (r:=i64 (bS l 0 i (cz l.bo.length k))) (by rw[<- hJ];exact Con.sA (.cons (.refl _) (.cons (.refl _) (.cons (.refl _) (.cons (uE rfl) .nil)))) (Iv l hl hli _ 0 i 406 [] [.iptr [i64 k]] (fun o=>decide (o=(k:Int))) (fun o h0 h1=>VX o k))) ?_;refine gC (fun ht=>?_) (fun ht=>?_)
  ·have h2 : dB l kw i k = true := by unfold dB; rw [hfi, hfk]; exact (wS.symm.trans ht)
   rw[h2];exact⟨_,_,rfl,aq.keep (by intro q z h;simp only[fq,aJ]at h;split at h;(subst_vars;exact h);split at h;(subst_vars;exact h);split at h;(subst_vars;exact h);cases h)⟩
  ·have h2 : dB l kw i k = false := by unfold dB; rw [hfi, hfk]; exact (wS.symm.trans ht)
   rw[h2];exact⟨_,_,rfl,aq.keep (by intro q z h;simp only[fq,aJ]at h;split at h;(subst_vars;exact h);split at h;(subst_vars;exact h);split at h;(subst_vars;exact h);cases h)⟩
 have hcon:=Con.pm S7 (V7 _ l hl hli kw hk r hy);cases hg:cM l kw with
 |none =>
  rw[hg]at hcon;refine Es (k:=900) (sl0:=[(1,some (.iptr [.iptr (dN l kw (bV l) r)])),(2,some (.ptr 2 0)),(3,some (.ptr 3 0))]) (.tmp rfl) (by intro t x h;simp only[aJ]at h;split at h;(subst_vars;exact h);split at h;(subst_vars;exact h);split at h;(subst_vars;exact h);cases h) rfl rfl hcon (fun k' z h=>h) rfl rfl rfl rfl (by intro h;cases h) (.inl ⟨rfl,?_⟩);refine AI (gZ (go ?_));refine bF.out (gZ (go ?_));refine gR ?_;exact aq.sub aq.pure (Sub.tup (.cons pL (.cons (.refl _) .nil)))
 |some g =>
  rw[hg]at hcon;refine Es (k:=900) (sl0:=[(1,some (.iptr [.iptr (dN l kw (bV l) r)])),(2,some (.ptr 2 0)),(3,some (.ptr 3 0))]) (.tmp rfl) (by intro t x h;simp only[aJ]at h;split at h;(subst_vars;exact h);split at h;(subst_vars;exact h);split at h;(subst_vars;exact h);cases h) rfl rfl hcon (fun k' z h=>h) rfl rfl rfl rfl (by intro h;cases h) (.inr ⟨rfl,?_⟩);exact(ba (P:=prog) (N:=Tryz.f380.ntmps) (e:=.ret) rfl)
theorem Ao{α:Type}{o:Option α}(h:o.isSome=true):∃x,o=some x:=by cases o <;> simp_all
theorem An{α:Type}{o:Option α}(h:o.isSome=false):o=none:=by cases o <;> simp_all
theorem MY(l:Li)(hl:l.ok)(hli:aB l=0)(kw:List Bool)(hk:kw.length=l.bo.length)(r:List AV) :
  FP 334 [.iptr (dN l kw (bV l) r)] (.tup [((bY l kw).getD default).av,bl (bY l kw).isSome]):=by
 refine ah func334 ?_;refine gc (Ol l hl hli kw (bV l) hk r) ?_;refine gC (fun t13=>?_) (fun t13=>?_)
 ·obtain⟨g,hg⟩:=Ao t13;refine ba ?_;unfold bY;rw[hg];rfl
 have hg:=An t13;refine gc (QT l hl hli kw hk r) ?_;refine gC (fun t20=>?_) (fun t20=>?_)
 ·obtain⟨g,hg2⟩:=Ao t20;refine ba ?_;unfold bY;rw[hg,hg2];rfl
 have hg2:=An t20;refine gc (Qq l hl hli kw hk r) ?_;refine ba ?_;unfold bY;rw[hg,hg2];rfl
theorem rJ{ts:LL}{r e:Nat}(tw:Tw ts r){a b c d:List Rat}(ha:Nm ts.length e a)(hb:Nm ts.length e b)(hc:Nm ts.length e c)(hd:Nm ts.length e d)(he:2*e<=lm ts.length) :
  Con prog 123 [.ptr 1000 0,aG a b,aG c d] [(1000,some (fS ts))] (aG (sh ts.length (subT ts (ad ts.length a) (ad ts.length c))) (sh ts.length (subT ts (ad ts.length b) (ad ts.length d)))) [(1000,some (fS ts))]:=by
 refine gF func123 (fun k z h=>br h) ?_;refine gt (ay (vM tw ha hc oz) (aA rfl rfl rfl) az rfl rfl) ?_;refine gt (ay (vM tw hb hd oz) (aA rfl rfl rfl) az rfl rfl) ?_;refine gD ?_;refine gR ?_;exact aq.keep (a8 rfl)
theorem ve(R:List AV)(a:List Rat):Con prog 124 [.ptr 1000 0,nA a] [(1000,some (.box [.lst 1 R,.v .nilIface]))] (.tup [nA a,.v .nilIface]) [(1000,some (.box [.lst 1 R,.v .nilIface]))]:=by
 refine gF func124 (fun k z h=>br h) ?_;refine gC (fun t10=>?_) (fun t10=>?_) (st1:=(2,0));cases t10;refine gR ?_;show aq _ (AV.tup [nA a,.v .nilIface]) _ _;exact aq.keep (a8 rfl)
theorem vA(R:List AV)(a b:List Rat):Con prog 160 [.ptr 1000 0,aG a b] [(1000,some (.box [.lst 1 R,.v .nilIface]))] (.tup [aG a b,.v .nilIface]) [(1000,some (.box [.lst 1 R,.v .nilIface]))]:=by
 refine gF func160 (fun k z h=>br h) ?_;refine gC (fun t10=>?_) (fun t10=>?_) (st1:=(2,0));cases t10;refine gR ?_;show aq _ (AV.tup [aG a b,.v .nilIface]) _ _;exact aq.keep (a8 rfl)
theorem Rj{ts:LL}{r e:Nat}(tw:Tw ts r){a b c d p q:List Rat}(ha:Nm ts.length e a)(hb:Nm ts.length e b)(hc:Nm ts.length e c)(hd:Nm ts.length e d)(hp:Nm ts.length e p)(hq:Nm ts.length e q)
  (he:8*e+4+2*kB r ts.length<=lm ts.length) :
  Con prog 375 [.ptr 1000 0,aG a b,aG c d,aG p q] [(1000,some (fS ts))] (nA (sh ts.length (tJ ts (ad ts.length a) (ad ts.length b) (ad ts.length c) (ad ts.length d) (ad ts.length p) (ad ts.length q)))) [(1000,some (fS ts))]:=by
 refine gF func375 (fun k z h=>br h) ?_;refine gt (ay (rJ tw hc hd ha hb oz) (aA rfl rfl rfl) az rfl rfl) ?_;refine gt (ay (rJ tw hp hq ha hb oz) (aA rfl rfl rfl) az rfl rfl) ?_;refine gt (ay (BX▸Dp tw (hc.sub ha) (hd.sub hb) (hp.sub ha) (hq.sub hb) oz) (aA rfl rfl rfl) az rfl rfl) ?_;refine gD ?_;refine gR ?_;exact aq.keep (a8 rfl)
theorem Ey{ts:LL}{r e:Nat}(tw:Tw ts r){a b c d:List Rat}(ha:Nm ts.length e a)(hb:Nm ts.length e b)(hc:Nm ts.length e c)(hd:Nm ts.length e d)(he:e<=lm ts.length)(f:FuncId)(v:List Rat)
  (hf:Con prog f [.ptr 1000 0,aG a b,aG c d] [(1000,some (fS ts))] (nA v) [(1000,some (fS ts))]) :
  FP 161 [aL ts,aG a b,aG c d,.fn f []] (.tup [nA v,.v .nilIface]):=by
 refine ah func161 ?_;refine gc (mL (e:=e) tw [(a,b),(c,d)] (by simp only[mem_cons,not_mem_nil,or_false];rintro p (rfl |rfl);exact⟨ha,hb⟩;exact⟨hc,hd⟩) he (by simp)) ?_;refine gC (fun t18=>?_) (fun t18=>?_) (st1:=(3,0));cases t18;refine gs (vp (.tmp rfl) (show Con prog f ([.ptr 22 0,aG a b,aG c d]++[]) [(22,some (fS ts))] (nA v) [(22,some (fS ts))]from Con.rB 22 rfl rfl rfl rfl hf) (aA rfl rfl rfl) az rfl rfl) ?_;refine gt (ay (Con.rB 22 rfl rfl rfl rfl (ve _ _)) (bm rfl rfl) az rfl rfl) ?_;refine ba ?_;rfl
theorem xh{ts:LL}{r e:Nat}(tw:Tw ts r){a b c d:List Rat}(ha:Nm ts.length e a)(hb:Nm ts.length e b)(hc:Nm ts.length e c)(hd:Nm ts.length e d)(he:2*(e+e+kB r ts.length)<=lm ts.length) :
  FP 77 [aL ts,aG a b,aG c d] (.tup [nA (sh ts.length (oE ts (ad ts.length a) (ad ts.length b) (ad ts.length c) (ad ts.length d))),.v .nilIface]):=by
 refine ah func77 ?_;refine gc (Con.sA (.cons (.refl _) (.cons (.refl _) (.cons (.refl _) (.cons (Sub.fn0 _) .nil)))) (Ey tw ha hb hc hd oz _ _ (yx tw ha hb hc hd he))) ?_;refine ba ?_
 first |rfl |(simp;done)
theorem VV{ts:LL}{r e:Nat}(tw:Tw ts r){a b c d p q:List Rat}(ha:Nm ts.length e a)(hb:Nm ts.length e b)(hc:Nm ts.length e c)(hd:Nm ts.length e d)(hp:Nm ts.length e p)(hq:Nm ts.length e q)
  (he:8*e+10+2*kB r ts.length<=lm ts.length) :
  FP 325 [aL ts,aG a b,aG c d,aG p q] (.tup [i64 (T.sgn (aj ts) ts.length (tJ ts (ad ts.length a) (ad ts.length b) (ad ts.length c) (ad ts.length d) (ad ts.length p) (ad ts.length q))),.v .nilIface]):=by
 have ho:=K9 tw ha hb hc hd hp hq;refine ah func325 ?_;refine gc (mL (e:=e) tw [(a,b),(c,d),(p,q)] (by simp only[mem_cons,not_mem_nil,or_false];rintro x (rfl |rfl |rfl);exact⟨ha,hb⟩;exact⟨hc,hd⟩;exact⟨hp,hq⟩) oz (by simp)) ?_;refine gC (fun t21=>?_) (fun t21=>?_) (st1:=(3,0));cases t21;refine gt (ay (Con.rB 25 rfl rfl rfl rfl (Rj tw ha hb hc hd hp hq oz)) (.cons (.tmp rfl) (aA rfl rfl rfl)) az rfl rfl) ?_;refine gt (ay (Con.rB 25 rfl rfl rfl rfl (ve _ _)) (bm rfl rfl) az rfl rfl) ?_;refine gC (fun t37=>?_) (fun t37=>?_) (st1:=(7,0));cases t37;refine gc (yP tw ho oz) ?_;refine ba ?_;rw[aZ]
theorem Qw{ts:LL}{r e:Nat}(tw:Tw ts r){a b c d:List Rat}(ha:Nm ts.length e a)(hb:Nm ts.length e b)(hc:Nm ts.length e c)(hd:Nm ts.length e d)(he:2*e+1<=lm ts.length) :
  FP 324 [aL ts,aG a b,aG c d] (.tup [bl (decide (T.sgn (aj ts) ts.length (subT ts (ad ts.length a) (ad ts.length c))=0/\T.sgn (aj ts) ts.length (subT ts (ad ts.length b) (ad ts.length d))=0)),.v .nilIface]):=by
 refine ah func324 ?_;refine gc (mL (e:=e) tw [(a,b),(c,d)] (by simp only[mem_cons,not_mem_nil,or_false];rintro p (rfl |rfl);exact⟨ha,hb⟩;exact⟨hc,hd⟩) oz (by simp)) ?_;refine gC (fun t18=>?_) (fun t18=>?_) (st1:=(3,0));cases t18;refine gc (uD tw ha hc oz) ?_;refine gC (fun t30=>?_) (fun t30=>?_) (st1:=(6,0));cases t30;refine gc (uD tw hb hd oz) ?_;refine ba ?_;rw[<- Vt];rfl
theorem Gz{ts:LL}{r e:Nat}(tw:Tw ts r){a b c d:List Rat}(ha:Nm ts.length e a)(hb:Nm ts.length e b)(hc:Nm ts.length e c)(hd:Nm ts.length e d)(he:2*(e+e+kB r ts.length)<=lm ts.length) :
  FP 178 [aL ts,nA a,nA b,aG c d] (.tup [aG (sh ts.length (rP ts (ad ts.length a) (ad ts.length b) (ad ts.length c) (ad ts.length d))) (sh ts.length (rz ts (ad ts.length a) (ad ts.length b) (ad ts.length c) (ad ts.length d))),.v .nilIface]):=by
 refine ah func178 ?_;refine gc (vF (e:=e) tw [a,b,c,d] (by simp only[mem_cons,not_mem_nil,or_false];rintro x (rfl |rfl |rfl |rfl) <;> assumption) oz (by simp)) ?_;refine gC (fun t22=>?_) (fun t22=>?_) (st1:=(3,0));cases t22;refine gt (ay (Con.rB 27 rfl rfl rfl rfl (kS tw ha hc oz)) (aA rfl rfl rfl) az rfl rfl) ?_;refine gt (ay (Con.rB 27 rfl rfl rfl rfl (kS tw hb hd oz)) (aA rfl rfl rfl) az rfl rfl) ?_;refine gt (ay (Con.rB 27 rfl rfl rfl rfl (Bg▸vM tw (ha.mul tw rfl hc) (hb.mul tw rfl hd) oz)) (aA rfl rfl rfl) az rfl rfl) ?_;refine gt (ay (Con.rB 27 rfl rfl rfl rfl (kS tw hb hc oz)) (aA rfl rfl rfl) az rfl rfl) ?_;refine gt (ay (Con.rB 27 rfl rfl rfl rfl (kS tw ha hd oz)) (aA rfl rfl rfl) az rfl rfl) ?_;refine gt (ay (Con.rB 27 rfl rfl rfl rfl (yk▸uJ tw (hb.mul tw rfl hc) (ha.mul tw rfl hd) oz)) (aA rfl rfl rfl) az rfl rfl) ?_;refine gt (ay (Con.rB 27 rfl rfl rfl rfl (vA _ _ _)) (bm rfl rfl) az rfl rfl) ?_;refine gD ?_;refine ba ?_;rfl
theorem OK{ts:LL}{r e:Nat}(tw:Tw ts r){a b c d:List Rat}(ha:Nm ts.length e a)(hb:Nm ts.length e b)(hc:Nm ts.length e c)(hd:Nm ts.length e d)(he:2*e<=lm ts.length) :
  FP 179 [aL ts,aG a b,aG c d] (.tup [aG (sh ts.length (T.add ts.length (ad ts.length a) (ad ts.length c))) (sh ts.length (T.add ts.length (ad ts.length b) (ad ts.length d))),.v .nilIface]):=by
 refine ah func179 ?_;refine gc (mL (e:=e) tw [(a,b),(c,d)] (by simp only[mem_cons,not_mem_nil,or_false];rintro p (rfl |rfl);exact⟨ha,hb⟩;exact⟨hc,hd⟩) oz (by simp)) ?_;refine gC (fun t16=>?_) (fun t16=>?_) (st1:=(3,0));cases t16;refine gt (ay (Con.rB 21 rfl rfl rfl rfl (uJ tw ha hc oz)) (aA rfl rfl rfl) az rfl rfl) ?_;refine gt (ay (Con.rB 21 rfl rfl rfl rfl (uJ tw hb hd oz)) (aA rfl rfl rfl) az rfl rfl) ?_;refine gt (ay (Con.rB 21 rfl rfl rfl rfl (vA _ _ _)) (bm rfl rfl) az rfl rfl) ?_;refine gD ?_;refine ba ?_;rfl
theorem ud{x y:Rat}(hx:Qs x)(hy:Qs y):FP 54 [qA x,qA y] (aG (sh 0 (x:Rat)) (sh 0 (y:Rat))):=by
 refine ah func54 ?_;refine gc (lD hx) ?_;refine gc (lD hy) ?_;refine gD ?_;refine ae ?_
 first |rfl |(simp;done)
theorem Ae{ts:LL}{r e:Nat}(tw:Tw ts r){a b c d:List Rat}(ha:Nm ts.length e a)(hb:Nm ts.length e b)(hc:Nm ts.length e c)(hd:Nm ts.length e d){x y:Rat}(hx:Qb e x)(hy:Qb e y)(he:8*e+4*kB r ts.length+4<=lm ts.length) :
  FP 86 [aL ts,.agg [nA a,nA b,nA c,nA d],qA x,qA y] (.tup [aG (sh ts.length (uX ts (ad ts.length a) (ad ts.length b) (ad ts.length c) x y)) (sh ts.length (wV ts (ad ts.length a) (ad ts.length b) (ad ts.length d) x y)),.v .nilIface]):=by
 have hlm:=kg ts.length;have nx:=Nm.ofQ ha.five (Cb.one hx);have ny:=Nm.ofQ ha.five (Cb.one hy);have nX:=xc tw ha hb nx ny;have nY:=uK tw ha hb nx ny;have z1:e<=2*(e+e+kB r ts.length)+1:=by omega
 have z2:2*(2*(e+e+kB r ts.length)+1)<=lm ts.length:=KQ he;have hadd:=OK tw nX nY (hc.mono z1) (hd.mono z1) z2;refine ah func86 ?_;refine gc (vF (e:=e) tw [a,b,c,d] (by simp only[mem_cons,not_mem_nil,or_false];rintro x (rfl |rfl |rfl |rfl) <;> assumption) oz (by simp)) ?_;refine gC (fun t25=>?_) (fun t25=>?_) (st1:=(3,0));cases t25;refine gc (ud (hx.qs oz) (hy.qs oz)) ?_;refine gc (Gz tw ha hb nx ny oz) ?_;refine gD ?_;refine gC (fun t41=>?_) (fun t41=>?_) (st1:=(6,0));cases t41;refine gc hadd ?_;refine ba ?_;rw[yX,Bx];rfl
theorem MI{ts:LL}{r e f:Nat}(tw:Tw ts r){a b:List Rat}(ha:Nm ts.length e a)(hb:Nm ts.length f b)(he:e+f+1<=lm ts.length):FP 23 [aL ts,nA a,nA b] (bl (fK ts (ad ts.length a) (ad ts.length b))):=by
 refine ah func23 ?_;refine gc (Kv tw ha hb he) ?_;refine ae ?_;exact congrArg bl (Bo _)
theorem VN:FP 36 [] (.agg [nA [1],nA [],nA [],nA []]):=by
 refine ah func36 ?_;refine gc (xP 1 oz) ?_;refine gc (Ka (qT (n:=1) oz)) ?_;refine gR ?_;exact jr (.agg (.cons (.refl _) (.cons (.nil _ _ _) (.cons (.nil _ _ _) (.cons (.nil _ _ _) .nil)))) rfl)
def u8(n:Nat):AV:=.v (.int .u8 n)
theorem rK{p q:Bool}{a b:Nat}{c:Nat}(hp:p=decide (a<=c))(hq:q=decide (c<=b)):cond p q false=decide (a<=c/\c<=b):=by
 subst hp;subst hq
 by_cases h:a<=c
 ·simp[h]
 ·simp[h]
theorem sN(c k:Nat):aa .geq (c:Int) (k:Int)=decide (k<=c):=by simp only[aa,decide_eq_decide];omega
theorem tt(c k:Nat):aa .leq (c:Int) (k:Int)=decide (c<=k):=by simp only[aa,decide_eq_decide];omega
theorem Vo(c:Nat):cond (cond (aa .geq (c:Int) 97) (aa .leq (c:Int) 122) false) true (cond (aa .geq (c:Int) 65) (aa .leq (c:Int) 90) false)=eM c:=by
 have e1:cond (aa .geq (c:Int) 97) (aa .leq (c:Int) 122) false=decide (97<=c/\c<=122):=rK (sN c 97) (tt c 122);have e2:cond (aa .geq (c:Int) 65) (aa .leq (c:Int) 90) false=decide (65<=c/\c<=90):=rK (sN c 65) (tt c 90);rw[e1,e2];unfold eM;cases decide (97<=c/\c<=122) <;> rfl
theorem Ko(c:Nat):cond (cond (aa .geq (c:Int) 65) (aa .leq (c:Int) 90) false) true (cond (aa .geq (c:Int) 97) (aa .leq (c:Int) 122) false)=eM c:=by
 have e1:cond (aa .geq (c:Int) 97) (aa .leq (c:Int) 122) false=decide (97<=c/\c<=122):=rK (sN c 97) (tt c 122);have e2:cond (aa .geq (c:Int) 65) (aa .leq (c:Int) 90) false=decide (65<=c/\c<=90):=rK (sN c 65) (tt c 90);rw[e1,e2];unfold eM;cases decide (97<=c/\c<=122) <;> cases decide (65<=c/\c<=90) <;> rfl
theorem Ca(c:Nat):cond (aa .geq (c:Int) 48) (aa .leq (c:Int) 57) false=pK c:=rK (sN c 48) (tt c 57)
theorem BM(c:Nat):cond (cond (eM c) true (pK c)) true (aa .eql (c:Int) 95)=kt c:=by
 unfold kt
 have:aa .eql (c:Int) 95=decide (c=95):=by
  rw[Bool.eq_iff_iff];simp only[aa,beq_iff_eq,decide_eq_true_eq];omega
 rw[this];cases eM c <;> cases pK c <;> rfl
theorem IE(c:Nat):FP 368 [u8 c] (bl (eM c)):=by
 refine ah func368 ?_;refine ae ?_;exact congrArg bl (Vo c)
theorem KS(c:Nat):FP 395 [u8 c] (bl (pK c)):=by
 refine ah func395 ?_;refine ae ?_;exact congrArg bl (Ca c)
theorem Wd(c:Nat):FP 369 [u8 c] (bl (kt c)):=by
 refine ah func369 ?_;refine gc (IE c) ?_;refine bJ (fun _=>(KS c)) ?_;refine ae ?_;exact congrArg bl (BM c)
theorem EF(c:Nat):FP 284 [u8 c] (bl (eM c)):=by
 refine ah func284 ?_;refine ae ?_;exact congrArg bl (Ko c)
theorem Vs(c:Nat):FP 286 [u8 c] (bl (pK c)):=by
 refine ah func286 ?_;refine ae ?_;exact congrArg bl (Ca c)
theorem NM(s:ByteArray)(hs:s.size<=281474976710656):FP 313 [.v (.string s)] (i64 (eZ s)):=by
 refine ah func313 ?_;refine gs (ee rfl rfl rfl (fun h=>vP (.opt rfl (o1 h)) (.const _) T9 rfl oz (by have:=FZ h;omega) rfl)) ?_;refine bJ (fun _=>(IE (dS s 0))) ?_;refine gC (fun t11=>?_) (fun t11=>?_)
 ·have h0:eZ s=0:=Ow t11;refine ae ?_;rw[h0];rfl
 obtain⟨h0,h1⟩:=Pt t11;refine aI [0] [] (fun(n:Nat)=>[(3,some (i64 n))]) (fun _=>[]) (fun n=>1<=n/\n<=s.size/\fh s 1 (s.size-1)=fh s n (s.size-n)) (fun n=>s.size-n) 1 ⟨le_refl _,h0,rfl⟩ ?_;rintro n ⟨hn1,hn,hw⟩ K1 J1;refine gs (ee rfl rfl rfl (fun h=>vP (.opt rfl (o1 h)) (.opt rfl (o1 h)) T9 rfl oz (by have:=aQ h;omega) rfl)) ?_;refine bJ (fun _=>(Wd (dS s n))) ?_;refine gC (fun t21=>?_) (fun t21=>?_)
 ·have h2:n<s.size/\kt (dS s n)=true:=KN t21;refine ga aF ?_;exact aE J1 (n+1) ⟨by omega,by omega,by rw[hw,show s.size-n=(s.size-(n+1))+1 by omega];simp only[fh,h2.2,if_true]⟩
 have h2:n<s.size->kt (dS s n)=false:=V1 t21
 have h3:eZ s=n:=by
  unfold eZ;rw[if_pos ⟨h0,h1⟩,hw];rcases lt_or_ge n s.size with h |h
  ·rw[show s.size-n=(s.size-(n+1))+1 by omega];simp only[fh,h2 h,Bool.false_eq_true,if_false]
  ·rw[show s.size-n=0 by omega];rfl
 refine ae ?_;rw[h3]
theorem tU(s:ByteArray)(hs:s.size<=281474976710656):FP 211 [.v (.string s)] (bl (iw s)):=by
 refine ah func211 ?_;refine gc (NM s hs) ?_;refine ae ?_;exact congrArg bl (NO s)
theorem vf(s:ByteArray)(i:Nat):FP 285 [.v (.string s),i64 i] (u8 (dS s i)):=by
 refine ah func285 ?_;refine gC (fun t8=>?_) (fun t8=>?_)
 ·have h0:=aQ t8;refine gs (vP (.tmp rfl) (.tmp rfl) T9 rfl oz oz rfl) ?_;refine ae ?_;rfl
 have h0:=tP t8;refine ae ?_;rw[IG oz];rfl
theorem KL(s:ByteArray)(hs:s.size<=281474976710656):FP 185 [.v (.string s),i64 0] (i64 ((if eM (dS s 0)then fh s 0 s.size else 0:Nat))):=by
 refine ah func185 ?_;refine gc (vf s 0) ?_;refine gc (EF (dS s 0)) ?_;refine gC (fun t9=>?_) (fun t9=>?_)
 ·have h0 : eM (dS s 0) = false := by simpa using t9
  refine ae ?_;rw[h0];rfl
 have h0:eM (dS s 0)=true:=by simpa using t9
 refine aI [0] [] (fun(n:Nat)=>[(1,some (i64 n))]) (fun _=>[]) (fun n=>n<=s.size/\fh s 0 s.size=fh s n (s.size-n)) (fun n=>s.size-n) 0 ⟨zero_le _,rfl⟩ ?_;rintro n ⟨hn,hw⟩ K1 J1;refine gc (vf s n) ?_;refine gc (EF (dS s n)) ?_;refine bJ (fun _=>(vf s n)) ?_;refine bJ (fun _=>(Vs (dS s n))) ?_;refine bJ (fun _=>(vf s n)) ?_;refine gC (fun t26=>?_) (fun t26=>?_)
 ·have h1:kt (dS s n)=true:=(BM _).symm.trans t26
  have h2:n<s.size:=by
   rcases lt_or_ge n s.size with h |h
   ·exact h
   ·rw[IG h]at h1;cases h1
  refine ga aF ?_;exact aE J1 (n+1) ⟨by omega,by rw[hw,show s.size-n=(s.size-(n+1))+1 by omega];simp only[fh,h1,if_true]⟩
 have h1:kt (dS s n)=false:=(BM _).symm.trans t26
 have h2:fh s 0 s.size=n:=by
  rw[hw];rcases lt_or_ge n s.size with h |h
  ·rw[show s.size-n=(s.size-(n+1))+1 by omega];simp only[fh,h1,Bool.false_eq_true,if_false]
  ·rw[show s.size-n=0 by omega];rfl
 refine ae ?_;rw[h0,h2];rfl
theorem tG(s:ByteArray)(hs:s.size<=281474976710656):FP 95 [.v (.string s)] (bl (iw s)):=by
 refine ah func95 ?_;refine bJ (fun _=>(KL s hs)) ?_;refine ae ?_;exact congrArg bl (NF s)
theorem qe(i:Int)(n:Nat):FP 315 [i64 i,i64 n] (bl (bq i n)):=by
 refine ah func315 ?_;refine ae ?_;exact congrArg bl (HH i n)
theorem M2(bs:List Bd)(hbs:∀b∈bs,b.ok)(hl:bs.length<=281474976710656):FP 212 [.lst 2 (bs.map Bd.av)] (bj (eW bs.length (ek bs))):=by
 refine ah func212 ?_;refine gl ?_;refine aI [0,11,12] [] (fun(i:Nat)=>[(13,some (i64 i))]) (fun _=>[]) (fun i=>i<=bs.length/\∀j,j<i->ek bs j=0) (fun i=>bs.length-i) 0 ⟨zero_le _,fun j h=>by omega⟩ ?_;rintro i ⟨hi,hj⟩ K1 J1;refine gC (fun t14=>?_) (fun t14=>?_)
 ·have hin:=aQ t14;obtain⟨b,hb⟩:=au hin;have hbd:bs.getD i default=b:=aC hb;have hbo:=hbs b (mem_of_getElem? hb);have hbdup:=mS Bd.name hb;refine gi (ax hb) ?_;refine gc (tU b.name hbo.name) ?_;refine gC (fun t21=>?_) (fun t21=>?_)
  ·have h1:=cS t21;have e1:ek bs i = 5:=by unfold ek; rw [hbd,if_pos h1]
   refine ae ?_;rw[d8 hin hj (by rw[e1];decide),e1];rfl
  have h1:=cT t21;refine gs (cV (.tmp rfl) (.none _) (.some _ (.tmp rfl) oz) T22 rfl T120 rfl oz (by simp only[length_map];omega) rfl) ?_;refine ge rfl ?_;refine aI [0,3,4,11,12,13] [4] (fun(k:Nat)=>[(25,some (.lst 2 ((bs.take i).map Bd.av))),(26,some (i64 i)),(27,some (i64 k))]) (fun _=>[]) (fun k=>k<=i/\(bs.take k).any (fun y=>dQ y.name b.name)=false) (fun k=>i-k) 0 ⟨zero_le _,rfl⟩ ?_ (h1:=(.cons rfl (Sub.of (sG 2 Bd.av bs i)) (.cons rfl (Sub.int (by simp;omega)) (.k .nil))));rintro k ⟨hk,hd⟩ K2 J2;refine gC (fun t28=>?_) (fun t28=>?_)
  ·have hkn:=aQ t28;obtain ⟨y,hy'⟩:∃ y,(bs.take i)[k]? = some y:=au (by simp; omega);have hy:=(tx hy').1;refine gi (ax hy') ?_;refine gC (fun t35=>?_) (fun t35=>?_)
   ·have h2:dQ y.name b.name = true:=t35;have e1:ek bs i = 6:=by unfold ek; rw [hbd,if_neg (by rw [h1]; decide),if_pos (by rw [hbdup]; exact kU hy hkn h2)]
    refine ae ?_;rw[d8 hin hj (by rw[e1];decide),e1];rfl
   have h2:dQ y.name b.name=false:=t35;refine ga aF ?_;exact aE J2 (k+1) ⟨hkn,ki hy hd h2⟩
  have hkn:=a6 hk t28;subst hkn;have hnd:¬gw (bs.map Bd.name) k=true:=by rw[hbdup,hd];decide
  refine gl ?_;refine gC (fun t41=>?_) (fun t41=>?_)
  ·have h3:8 < b.pts.length:=jf t41;have e1:ek bs k = 4:=by unfold ek; rw [hbd,if_neg (by rw [h1]; decide),if_neg hnd,if_pos h3]
   refine ae ?_;rw[d8 hin hj (by rw[e1];decide),e1];rfl
  have h3:b.pts.length<=8:=gH t41;have e1:ek bs k=eW b.pts.length (d6 b.pts):=by unfold ek;rw[hbd,if_neg (by rw[h1];decide),if_neg hnd,if_neg oz]
  refine gl ?_;refine aI [0,4,11,12,13,44,45] [4] (fun(p:Nat)=>[(46,some (i64 p))]) (fun _=>[]) (fun p=>p<=b.pts.length/\∀j,j<p->d6 b.pts j=0) (fun p=>b.pts.length-p) 0 ⟨zero_le _,fun j h=>by omega⟩ ?_;rintro p ⟨hp,hpj⟩ K3 J3;refine gC (fun t47=>?_) (fun t47=>?_)
  ·have hpn:=aQ t47;obtain⟨m,hm⟩:=au hpn;have hmd:b.pts.getD p default=m:=aC hm;have hmm:=mem_of_getElem? hm;have hmdup:=mS Mk.name hm;have hmo:=hbo.pts m hmm;refine gi (ax hm) ?_;refine gc (tU m.name (hbo.names m hmm)) ?_;refine gC (fun t54=>?_) (fun t54=>?_)
   ·have h4:=cS t54;have e2:d6 b.pts p = 5:=by unfold d6; rw [hmd,if_pos h4]
    have e3:ek bs k=5:=by rw[e1,d8 hpn hpj (by rw[e2];decide),e2]
    refine ae ?_;rw[d8 hin hj (by rw[e3];decide),e3];rfl
   have h4:=cT t54;refine gs (cV (.tmp rfl) (.none _) (.some _ (.tmp rfl) oz) T118 rfl T122 rfl oz (by simp only[length_map];omega) rfl) ?_;refine ge rfl ?_;refine aI [0,4,8,11,12,13,44,45,46] [4,8] (fun(q:Nat)=>[(59,some (.lst 7 ((b.pts.take p).map Mk.av))),(60,some (i64 p)),(61,some (i64 q))]) (fun _=>[]) (fun q=>q<=p/\(b.pts.take q).any (fun y=>dQ y.name m.name)=false) (fun q=>p-q) 0 ⟨zero_le _,rfl⟩ ?_ (h1:=(.cons rfl (Sub.of (sG 7 Mk.av b.pts p)) (.cons rfl (Sub.int (by simp;omega)) (.k .nil))));rintro q ⟨hq,hqd⟩ K4 J4;refine gC (fun t62=>?_) (fun t62=>?_)
   ·have hqn:=aQ t62;obtain ⟨y,hy'⟩:∃ y,(b.pts.take p)[q]? = some y:=au (by simp; omega);have hy:=(tx hy').1;refine gi (ax hy') ?_;refine gC (fun t69=>?_) (fun t69=>?_)
    ·have h5:dQ y.name m.name = true:=t69;have e2:d6 b.pts p = 6:=by unfold d6; rw [hmd,if_neg (by rw [h4]; decide),if_pos (by rw [hmdup]; exact kU hy hqn h5)]
     have e3:ek bs k=6:=by rw[e1,d8 hpn hpj (by rw[e2];decide),e2]
     refine ae ?_;rw[d8 hin hj (by rw[e3];decide),e3];rfl
    have h5:dQ y.name m.name=false:=t69;refine ga aF ?_;exact aE J4 (q+1) ⟨hqn,ki hy hqd h5⟩
   have hqn:=a6 hq t62;subst hqn;have hmnd:¬gw (b.pts.map Mk.name) q=true:=by rw[hmdup,hqd];decide
   refine gc (oQ m.x hmo.x) ?_;refine bJ (fun _=>(oQ m.y hmo.y)) ?_;refine gC (fun t81=>?_) (fun t81=>?_)
   ·have h6:=n6 t81;have e2:d6 b.pts q = 3:=by unfold d6; rw [hmd,if_neg (by rw [h4]; decide),if_neg hmnd,if_neg (by rintro ⟨g1,g2⟩; rcases h6 with g | g; (rw [g1] at g; cases g); (rw [g2] at g; cases g))]
    have e3:ek bs k=3:=by rw[e1,d8 hpn hpj (by rw[e2];decide),e2]
    refine ae ?_;rw[d8 hin hj (by rw[e3];decide),e3];rfl
   have h6:=oW t81;have e2:d6 b.pts q=0:=by unfold d6;rw[hmd,if_neg (by rw[h4];decide),if_neg hmnd,if_pos h6]
   refine ga aF ?_;exact aE J3 (q+1) ⟨hpn,fun j h9=>by rcases lt_or_ge j q with g |g;exact hpj j g;(have:j=q:=by omega);subst this;exact e2⟩
  have hpn:=a6 hp t47;subst hpn;have e2:ek bs k=0:=e1.trans (m8 hpj);refine ga aF ?_;exact aE J1 (k+1) ⟨hin,fun j h9=>by rcases lt_or_ge j k with g |g;exact hj j g;(have:j=k:=by omega);subst this;exact e2⟩
 have hin:=a6 hi t14;subst hin;refine ae ?_;rw[m8 hj];rfl
theorem PA(l:Li)(hl:l.ok)(j:Jt):FP 314 [l.av,j.av] (bj (ep l j)):=by
 refine ah func314 ?_;refine gC (fun t15=>?_) (fun t15=>?_)
 ·have h1:=DI t15;refine ae ?_;unfold ep;rw[if_pos h1];rfl
 have h1:=CW t15;refine gl ?_;refine gc (qe j.a l.bo.length) ?_;refine ci ?_;refine bJ (fun _=>(qe j.b l.bo.length)) ?_;refine gC (fun t32=>?_) (fun t32=>?_)
 ·have h2:=n6 t32;refine ae ?_;unfold ep;rw[if_neg h1,if_pos h2];rfl
 have h2:=oW t32;have h2n:¬(bq j.a l.bo.length=false\/bq j.b l.bo.length=false):=by rw[h2.1,h2.2];simp
 obtain⟨A,hA,pA,mA,zA0⟩:=qJ h2.1;obtain⟨B,hB,pB,mB,zB0⟩:=qJ h2.2;refine gC (fun t38=>?_) (fun t38=>?_)
 ·have h3:=da t38;refine ae ?_;unfold ep;rw[if_neg h1,if_neg h2n,if_pos h3];rfl
 have h3:=dZ t38;refine gi (ax hB) ?_;refine gi (ax hA) ?_;refine gl ?_;refine gc (qe j.point A.pts.length) ?_;refine ci ?_;refine bJ (fun _=>(qe j.on B.pts.length)) ?_;refine gD ?_;refine gC (fun t66=>?_) (fun t66=>?_)
 ·have h4:=n6 t66;refine ae ?_;unfold ep;rw[if_neg h1,if_neg h2n,if_neg h3,pA,pB,if_pos h4];rfl
 have h4:=oW t66;have h4n:¬(bq j.point A.pts.length=false\/bq j.on B.pts.length=false):=by rw[h4.1,h4.2];simp
 refine gC (fun t70=>?_) (fun t70=>?_)
 ·have h5:=da t70;refine gC (fun t73=>?_) (fun t73=>?_)
  ·have h6:=mo t73;refine ae ?_;unfold ep;rw[if_neg h1,if_neg h2n,if_neg h3,pA,pB,if_neg h4n,if_pos h5,if_pos h6];rfl
  have h6:=qf t73;refine ae ?_;unfold ep;rw[if_neg h1,if_neg h2n,if_neg h3,pA,pB,if_neg h4n,if_pos h5,if_neg (by rw[h6];simp)];rfl
 have h5:=dZ t70;refine gl ?_;refine gc (qe j.to B.pts.length) ?_;refine gC (fun t80=>?_) (fun t80=>?_)
 ·have h6:=cS t80;refine ae ?_;unfold ep;rw[if_neg h1,if_neg h2n,if_neg h3,pA,pB,if_neg h4n,if_neg h5,if_pos h6];rfl
 have h6:=cT t80;obtain⟨m1,g1,d1,mm1,z1⟩:=tu h4.2;obtain⟨m2,g2,d2,mm2,z2⟩:=tu h6;have mo1:=(hl.bo B mB).pts m1 mm1;have mo2:=(hl.bo B mB).pts m2 mm2;refine gi (ax g1) ?_;refine gi (ax g2) ?_;refine gD ?_;refine gc (FD m1.x m2.x mo1.x mo2.x) ?_;refine bJ (fun _=>(FD m1.y m2.y mo1.y mo2.y)) ?_;refine gC (fun t105=>?_) (fun t105=>?_)
 ·have h7:=HV t105;refine ae ?_;unfold ep;rw[if_neg h1,if_neg h2n,if_neg h3,pA,pB,if_neg h4n,if_neg h5,if_neg (by rw[h6];decide),d1,d2,if_pos h7];rfl
 have h7:=ET t105;refine ae ?_;unfold ep;rw[if_neg h1,if_neg h2n,if_neg h3,pA,pB,if_neg h4n,if_neg h5,if_neg (by rw[h6];decide),d1,d2,if_neg h7];rfl
theorem Ul(l:Li)(hl:l.ok):FP 213 [l.av] (bj (eT l)):=by
 have hlj:=hl.lj;refine ah func213 ?_;refine gl ?_;refine gC (fun t11=>?_) (fun t11=>?_)
 ·have h0:16<l.jo.length:=jf t11;refine ae ?_;unfold eT;rw[if_pos h0];rfl
 have h0:l.jo.length<=16:=gH t11;have e0:eT l=eW l.jo.length (fM l):=by unfold eT;rw[if_neg oz]
 refine gl ?_;refine aI [1,14,15] [1] (fun(i:Nat)=>[(16,some (i64 i))]) (fun _=>[]) (fun i=>i<=l.jo.length/\∀j,j<i->fM l j=0) (fun i=>l.jo.length-i) 0 ⟨zero_le _,fun j h=>by omega⟩ ?_;rintro i ⟨hi,hj⟩ K1 J1;refine gC (fun t17=>?_) (fun t17=>?_)
 ·have hin:=aQ t17;obtain⟨b,hb⟩:=au hin;have hbd:l.jo.getD i default=b:=aC hb;have hbdup:=mS Jt.name hb;refine gi (ax hb) ?_;refine gc (tU b.name (hl.jnames b (mem_of_getElem? hb))) ?_;refine gC (fun t24=>?_) (fun t24=>?_)
  ·have h1:=cS t24;have e1:fM l i = 5:=by unfold fM; rw [hbd,if_pos h1]
   refine ae ?_;rw[e0,d8 hin hj (by rw[e1];decide),e1];rfl
  have h1:=cT t24;refine gs (cV (.tmp rfl) (.none _) (.some _ (.tmp rfl) oz) T23 rfl T75 rfl oz (by simp only[length_map];omega) rfl) ?_;refine ge rfl ?_;refine aI [1,3,4,14,15,16] [1,4] (fun(k:Nat)=>[(29,some (.lst 7 ((l.jo.take i).map Jt.av))),(30,some (i64 i)),(31,some (i64 k))]) (fun _=>[]) (fun k=>k<=i/\(l.jo.take k).any (fun y=>dQ y.name b.name)=false) (fun k=>i-k) 0 ⟨zero_le _,rfl⟩ ?_ (h1:=(.cons rfl (Sub.of (sG 7 Jt.av l.jo i)) (.cons rfl (Sub.int (by simp;omega)) (.k .nil))));rintro k ⟨hk,hd⟩ K2 J2;refine gC (fun t32=>?_) (fun t32=>?_)
  ·have hkn:=aQ t32;obtain ⟨y,hy'⟩:∃ y,(l.jo.take i)[k]? = some y:=au (by simp; omega);have hy:=(tx hy').1;refine gi (ax hy') ?_;refine gC (fun t39=>?_) (fun t39=>?_)
   ·have h2:dQ y.name b.name = true:=t39;have e1:fM l i = 6:=by unfold fM; rw [hbd,if_neg (by rw [h1]; decide),if_pos (by rw [hbdup]; exact kU hy hkn h2)]
    refine ae ?_;rw[e0,d8 hin hj (by rw[e1];decide),e1];rfl
   have h2:dQ y.name b.name=false:=t39;refine ga aF ?_;exact aE J2 (k+1) ⟨hkn,ki hy hd h2⟩
  have hkn:=a6 hk t32;subst hkn;have hnd:¬gw (l.jo.map Jt.name) k=true:=by rw[hbdup,hd];decide
  have e1:fM l k=ep l b:=by unfold fM;rw[hbd,if_neg (by rw[h1];decide),if_neg hnd]
  refine gc (PA l hl b) ?_;refine gC (fun t46=>?_) (fun t46=>?_)
  ·have h3:=cU t46;refine ae ?_;rw[e0,d8 hin hj (by rw[e1];exact h3),e1]
  have h3:=cP t46;refine ga aF ?_;exact aE J1 (k+1) ⟨hin,fun j h9=>by rcases lt_or_ge j k with g |g;exact hj j g;(have:j=k:=by omega);subst this;exact e1.trans h3⟩
 have hin:=a6 hi t17;subst hin;refine ae ?_;rw[e0,m8 hj];rfl
theorem Nd(l:Li)(hl:l.ok):FP 214 [l.av] (bj (gh l)):=by
 have hld:=hl.ld;refine ah func214 ?_;refine gl ?_;refine gC (fun t12=>?_) (fun t12=>?_)
 ·have h0:2<l.dv.length:=jf t12;refine ae ?_;unfold gh;rw[if_pos h0];rfl
 have h0:l.dv.length<=2:=gH t12;have e0:gh l=eW l.dv.length (dR l):=by unfold gh;rw[if_neg oz]
 refine gl ?_;refine aI [1,15,16] [1] (fun(i:Nat)=>[(17,some (i64 i))]) (fun _=>[]) (fun i=>i<=l.dv.length/\∀j,j<i->dR l j=0) (fun i=>l.dv.length-i) 0 ⟨zero_le _,fun j h=>by omega⟩ ?_;rintro i ⟨hi,hj⟩ K1 J1;refine gC (fun t18=>?_) (fun t18=>?_)
 ·have hin:=aQ t18;obtain⟨b,hb⟩:=au hin;have hbd:l.dv.getD i default=b:=aC hb;have hbdup:=mS Dr.name hb;refine gi (ax hb) ?_;refine gc (tU b.name (hl.dnames b (mem_of_getElem? hb))) ?_;refine gC (fun t25=>?_) (fun t25=>?_)
  ·have h1:=cS t25;have e1:dR l i = 5:=by unfold dR; rw [hbd,if_pos h1]
   refine ae ?_;rw[e0,d8 hin hj (by rw[e1];decide),e1];rfl
  have h1:=cT t25;refine gs (cV (.tmp rfl) (.none _) (.some _ (.tmp rfl) oz) T24 rfl T94 rfl oz (by simp only[length_map];omega) rfl) ?_;refine ge rfl ?_;refine aI [1,3,4,15,16,17] [1,4] (fun(k:Nat)=>[(30,some (.lst 2 ((l.dv.take i).map Dr.av))),(31,some (i64 i)),(32,some (i64 k))]) (fun _=>[]) (fun k=>k<=i/\(l.dv.take k).any (fun y=>dQ y.name b.name)=false) (fun k=>i-k) 0 ⟨zero_le _,rfl⟩ ?_ (h1:=(.cons rfl (Sub.of (sG 2 Dr.av l.dv i)) (.cons rfl (Sub.int (by simp;omega)) (.k .nil))));rintro k ⟨hk,hd⟩ K2 J2;refine gC (fun t33=>?_) (fun t33=>?_)
  ·have hkn:=aQ t33;obtain ⟨y,hy'⟩:∃ y,(l.dv.take i)[k]? = some y:=au (by simp; omega);have hy:=(tx hy').1;refine gi (ax hy') ?_;refine gC (fun t40=>?_) (fun t40=>?_)
   ·have h2:dQ y.name b.name = true:=t40;have e1:dR l i = 6:=by unfold dR; rw [hbd,if_neg (by rw [h1]; decide),if_pos (by rw [hbdup]; exact kU hy hkn h2)]
    refine ae ?_;rw[e0,d8 hin hj (by rw[e1];decide),e1];rfl
   have h2:dQ y.name b.name=false:=t40;refine ga aF ?_;exact aE J2 (k+1) ⟨hkn,ki hy hd h2⟩
  have hkn:=a6 hk t33;subst hkn;have hnd:¬gw (l.dv.map Dr.name) k=true:=by rw[hbdup,hd];decide
  refine gl ?_;refine gc (qe b.body l.bo.length) ?_;refine gC (fun t49=>?_) (fun t49=>?_)
  ·have h3:=cS t49;have e1:dR l k = 9:=by unfold dR; rw [hbd,if_neg (by rw [h1]; decide),if_neg hnd,if_pos h3]
   refine ae ?_;rw[e0,d8 hin hj (by rw[e1];decide),e1];rfl
  have h3:=cT t49;refine gC (fun t53=>?_) (fun t53=>?_)
  ·have h4:=da t53;have e1:dR l k = 7:=by unfold dR; rw [hbd,if_neg (by rw [h1]; decide),if_neg hnd,if_neg (by rw [h3]; decide),if_pos h4]
   refine ae ?_;rw[e0,d8 hin hj (by rw[e1];decide),e1];rfl
  have h4:=dZ t53;have e1:dR l k=if(l.dv.take k).any (fun d=>decide (d.body=b.body))=true then 6 else 0:=by unfold dR;rw[hbd,if_neg (by rw[h1];decide),if_neg hnd,if_neg (by rw[h3];decide),if_neg h4]
  refine gs (cV (.tmp rfl) (.none _) (.some _ (.tmp rfl) oz) T24 rfl T94 rfl oz (by simp only[length_map];omega) rfl) ?_;refine ge rfl ?_;refine aI [1,4,15,16,17] [1,4] (fun(q:Nat)=>[(58,some (.lst 2 ((l.dv.take k).map Dr.av))),(59,some (i64 k)),(60,some (i64 q))]) (fun _=>[]) (fun q=>q<=k/\(l.dv.take q).any (fun d=>decide (d.body=b.body))=false) (fun q=>k-q) 0 ⟨zero_le _,rfl⟩ ?_ (h1:=(.cons rfl (Sub.of (sG 2 Dr.av l.dv k)) (.cons rfl (Sub.int (by simp;omega)) (.k .nil))));rintro q ⟨hq,hqd⟩ K3 J3;refine gC (fun t61=>?_) (fun t61=>?_)
  ·have hqn:=aQ t61;obtain ⟨y,hy'⟩:∃ y,(l.dv.take k)[q]? = some y:=au (by simp; omega);have hy:=(tx hy').1;refine gi (ax hy') ?_;refine gC (fun t68=>?_) (fun t68=>?_)
   ·have h5:decide (y.body = b.body) = true:=decide_eq_true (da t68);have e2:dR l k = 6:=by rw [e1,if_pos (kU hy hqn h5)]
    refine ae ?_;rw[e0,d8 hin hj (by rw[e2];decide),e2];rfl
   have h5:decide (y.body=b.body)=false:=decide_eq_false (dZ t68);refine ga aF ?_;exact aE J3 (q+1) ⟨hqn,ki hy hqd h5⟩
  have hqn:=a6 hq t61;subst hqn;have e2:dR l q=0:=by rw[e1,hqd];rfl
  refine ga aF ?_;exact aE J1 (q+1) ⟨hin,fun j h9=>by rcases lt_or_ge j q with g |g;exact hj j g;(have:j=q:=by omega);subst this;exact e2⟩
 have hin:=a6 hi t18;subst hin;refine ae ?_;rw[e0,m8 hj];rfl
theorem Aa(l:Li)(hl:l.ok):FP 118 [l.av] (bj (aB l)):=by
 have hlb:=hl.lb;refine ah func118 ?_;refine gc (tU l.name hl.name) ?_;refine gC (fun t8=>?_) (fun t8=>?_)
 ·have h1:=cS t8;refine ae ?_;unfold aB;rw[if_pos h1];rfl
 have h1:=cT t8;refine gl ?_;refine gC (fun t13=>?_) (fun t13=>?_)
 ·have h2:=xw t13;refine ae ?_;unfold aB;rw[if_neg (by rw[h1];decide),if_pos h2];rfl
 have h2:=xT t13;refine gl ?_;refine gC (fun t18=>?_) (fun t18=>?_)
 ·have h3:8<l.bo.length:=jf t18;refine ae ?_;unfold aB;rw[if_neg (by rw[h1];decide),if_neg h2,if_pos h3];rfl
 have h3:l.bo.length<=8:=gH t18;have e0:aB l=if ik l≠0 then ik l else if eT l≠0 then eT l else gh l:=by unfold aB;rw[if_neg (by rw[h1];decide),if_neg h2,if_neg oz]
 refine gc (M2 l.bo hl.bo hlb) ?_;refine gC (fun t24=>?_) (fun t24=>?_)
 ·have h4:ik l≠0:=cU t24;refine ae ?_;rw[e0,if_pos h4];rfl
 have h4:ik l=0:=cP t24;refine gc (Ul l hl) ?_;refine gC (fun t29=>?_) (fun t29=>?_)
 ·have h5:=cU t29;refine ae ?_;rw[e0,if_neg (by rw[h4];simp),if_pos h5]
 have h5:=cP t29;refine gc (Nd l hl) ?_;refine ae ?_;rw[e0,if_neg (by rw[h4];simp),if_neg (by rw[h5];simp)]
theorem yU(d:Nat)(hd:Nat.blt d 1000=true)(l:Li)(hl:l.bo.length<=1000)(b:Nat)(hb:b<l.bo.length) :
  Con prog 131 [l.av,i64 b] [] (.ms d 1 0 l.bo.length) [(d,some (.row 1 ((cz l.bo.length b).map bl)))]:=by
 refine gF func131 (fun k z h=>by cases h) ?_;refine gl ?_;refine gs (gS (.tmp rfl) T218 rfl T4 rfl rfl oz (by dsimp only;omega) rfl) ?_;refine gs (mg (.tmp rfl) (.tmp rfl) T218 rfl T4 rfl oz oz rfl) ?_;refine gs (dG (.tmp rfl) rfl (by rw[getElem?_replicate,if_pos (by simp;omega)]) rfl (.const _) rfl rfl T4 rfl rfl) ?_ (3,0);refine gW (Wk.of (sl:=[(5,some (.ms 9 1 0 l.bo.length))]) (hp:=[(9,some (.row 1 ((cz l.bo.length b).map bl)))]) (.cons rfl (Sub.of (by rw[toNat_natCast])) .nil) (.cons rfl (BlkSub.of (by unfold cz;simp only[map_set,map_replicate,Nat.zero_add,toNat_natCast];rfl)) .nil)) ?_ (3,0);refine gW (Wk.rk (k:=9) (d:=900) rfl rfl) ?_;refine gR ?_;exact aq.own1 rfl hd rfl
theorem L6(l:Li)(hl:l.bo.length<=1000)(b:Nat)(hb:b<l.bo.length):FP 131 [l.av,i64 b] (.lst 1 ((cz l.bo.length b).map bl)):=by
 have h:=Con.freeze (by rw[length_map,gM];omega) (yU 0 rfl l hl b hb);rw[drop_zero,take_of_length_le (by rw[length_map,gM];exact le_refl _)]at h;exact h
theorem Lm(l:Li)(hl:l.ok)(b:Int):FP 333 [l.av,i64 b] (bl (mZ l b)):=by
 have hld:=hl.ld;refine ah func333 ?_;refine gl ?_;refine aI [1,8,9] [] (fun(i:Nat)=>[(10,some (i64 i))]) (fun _=>[]) (fun i=>i<=l.dv.length/\(l.dv.take i).any (fun d=>decide (d.body=b))=false) (fun i=>l.dv.length-i) 0 ⟨zero_le _,rfl⟩ ?_;rintro i ⟨hi,hj⟩ K1 J1;refine gC (fun t11=>?_) (fun t11=>?_)
 ·have hin:=aQ t11;obtain⟨d,hd⟩:=au hin;refine gi (ax hd) ?_;refine gC (fun t17=>?_) (fun t17=>?_)
  ·have h1:d.body=b:=da t17;refine ae ?_;unfold mZ;rw[List.any_eq_true.2 ⟨d,mem_of_getElem? hd,decide_eq_true h1⟩];rfl
  have h1:d.body≠b:=dZ t17;refine ga aF ?_;exact aE J1 (i+1) ⟨hin,ki hd hj (decide_eq_false h1)⟩
 have hin:=a6 hi t11;subst hin;rw[take_length]at hj;refine ae ?_;unfold mZ;rw[hj];rfl
theorem IQ(l:Li)(hl:l.ok)(hli:aB l=0)(kind body:Int)(oth:List Bool)(ho:oth.length=l.bo.length):FP 236 [l.av,i64 kind,i64 body,.lst 1 (oth.map bl)] (i64 (bS l kind body oth)):=by
 have hlj:=hl.lj;refine ah func236 ?_;refine gl ?_;refine aI [1,2,3,12,13] [] (fun(i:Nat)=>[(14,some (i64 i))]) (fun _=>[]) (fun i=>i<=l.jo.length/\∀j,j<i->(!lB kind body oth (l.jo.getD j default))=true) (fun i=>l.jo.length-i) 0 ⟨zero_le _,fun j h=>by omega⟩ ?_;rintro i ⟨hi,hj⟩ K1 J1;refine gC (fun t15=>?_) (fun t15=>?_)
 ·have hin:=aQ t15;obtain⟨j,hjt⟩:=au hin;have hjd:l.jo.getD i default=j:=aC hjt;obtain⟨i1,i2,_⟩:=d7 hli hjt;have b1:=dq i1;have b2:=dq i2;obtain⟨va,hva⟩:∃v,oth[j.a.toNat]?=some v:=au oz;obtain⟨vb,hvb⟩:∃v,oth[j.b.toNat]?=some v:=au oz;have ea:kn oth j.a=va:=aC hva;have eb:kn oth j.b=vb:=aC hvb;refine gi (ax hjt) ?_;refine nI (fun _=>(ib (n:=j.b.toNat) oz hvb)) ?_;refine nI (fun _=>(ib (n:=j.a.toNat) oz hva)) ?_;refine gC (fun t48=>?_) (fun t48=>?_)
  ·have h2 : lB kind body oth j = true := by rw [<- Fn (va := va) (vb := vb) ea eb]; exact t48
   refine ae ?_;unfold bS;rw[f9 hin hj (by rw[hjd,h2];rfl)];rfl
  have h2:lB kind body oth j=false:=by rw[<- Fn (va:=va) (vb:=vb) ea eb];exact t48
  refine ga aF ?_;exact aE J1 (i+1) ⟨hin,fun k h9=>by rcases lt_or_ge k i with g |g;exact hj k g;(have:k=i:=by omega);subst this;rw[hjd,h2];rfl⟩
 have hin:=a6 hi t15;subst hin;refine ae ?_;unfold bS;rw[fC hj];rfl
theorem OU(l:Li)(hl:l.ok)(kw:List Bool)(b:Nat)(hb:b<kw.length):FP 237 [l.av,.lst 1 (kw.map bl),i64 b] (bl (en l kw b)):=by
 obtain⟨v,hv⟩:=au hb;have ev:kn kw (b:Int)=v:=aC (by rw[toNat_natCast];exact hv);refine ah func237 ?_;refine gi (ax hv) ?_;refine bJ (fun _=>(Lm l hl b)) ?_;refine ae ?_;unfold en;rw[ev];exact congrArg bl (iO _ _)
theorem sR{l:Li}{kw:List Bool}(hl:l.ok)(hli:aB l=0)(kind body:Int)(hk:kw.length=l.bo.length) :
  Con prog 236 [l.av,i64 kind,i64 body,.ms 1000 1 0 kw.length] [(1000,some (.row 1 (kw.map bl)))] (i64 (bS l kind body kw)) [(1000,some (.row 1 (kw.map bl)))]:=by
 refine Con.borrow (args:=[l.av,i64 kind,i64 body,.lst 1 (kw.map bl)]) 1000 1 (kw.map bl) rfl rfl rfl ?_ rfl (fun k' x h=>by cases h) (IQ l hl hli kind body kw hk);intro j x' hj
 match j,hj with
 |0,hj=>cases hj;exact .inl rfl
 |1,hj=>cases hj;exact .inl rfl
 |2,hj=>cases hj;exact .inl rfl
 |3,hj=>cases hj;exact .inr ⟨0,kw.length,rfl,by simp,by rw[drop_zero,take_of_length_le (by simp)];rfl⟩
theorem BJ{l:Li}{kw:List Bool}(hl:l.ok)(b:Nat)(hb:b<kw.length) :
  Con prog 237 [l.av,.ms 1000 1 0 kw.length,i64 b] [(1000,some (.row 1 (kw.map bl)))] (bl (en l kw b)) [(1000,some (.row 1 (kw.map bl)))]:=by
 refine Con.borrow (args:=[l.av,.lst 1 (kw.map bl),i64 b]) 1000 1 (kw.map bl) rfl rfl rfl ?_ rfl (fun k' x h=>by cases h) (OU l hl kw b hb);intro j x' hj
 match j,hj with
 |0,hj=>cases hj;exact .inl rfl
 |1,hj=>cases hj;exact .inr ⟨0,kw.length,rfl,by simp,by rw[drop_zero,take_of_length_le (by simp)];rfl⟩
 |2,hj=>cases hj;exact .inl rfl
theorem No(l:Li)(hl:l.ok)(hli:aB l=0)(kw:List Bool)(hk:kw.length=l.bo.length):Con prog 132 [l.av,.ms 1000 1 0 kw.length] [(1000,some (.row 1 (kw.map bl)))] (.tup [((dm l kw).getD default).av,bl (dm l kw).isSome]) [(1000,some (.row 1 (kw.map bl)))]:=by
 have hld:=hl.ld;refine gF func132 (fun k z h=>br h) ?_;refine gl ?_;refine aI [2,4,10,11] [2,4,1000] (fun(i:Nat)=>[(1,some (.ms 1000 1 0 kw.length)),(12,some (i64 i))]) (fun _=>[]) (fun i=>i<=l.dv.length/\∀j,j<i->(!fL l kw j)=true) (fun i=>l.dv.length-i) 0 ⟨zero_le _,fun j h=>by omega⟩ ?_;rintro i ⟨hi,hj⟩ K1 J1;refine gC (fun t13=>?_) (fun t13=>?_)
 ·have hin:=aQ t13;obtain ⟨d,hd⟩:=au hin;have hdd:l.dv.getD i default = d:=aC hd;have hb:=dq (lr hli hd);obtain ⟨v,hv⟩:∃ v,kw[d.body.toNat]? = some v:=au oz;have ev:kn kw d.body = v:=aC hv;refine gi (ax hd) ?_;refine gs (mg (.tmp rfl) (.tmp rfl) T218 rfl T4 rfl oz oz rfl) ?_;refine gs (dX (.tmp rfl) rfl (by rw [Nat.zero_add,getElem?_map,hv]; rfl) T4 rfl rfl rfl) ?_;refine gC (fun t21=>?_) (fun t21=>?_)
  ·have h2 : fL l kw i = false := by unfold fL; rw [hdd, ev, t21]; rfl
   refine ga aF ?_;exact aE J1 (i+1) ⟨hin,fun k h9=>by rcases lt_or_ge k i with g |g;exact hj k g;(have:k=i:=by omega);subst this;rw[h2];rfl⟩
  have hv0:v=false:=t21;refine gt (mX (sR hl hli 0 d.body hk) (.cons (.tmp rfl) (.cons (.const _) (bm rfl rfl))) rfl rfl rfl) ?_;refine gC (fun t28=>?_) (fun t28=>?_)
  ·have h2 : fL l kw i = true := by unfold fL; rw [hdd, ev, hv0, decide_eq_true (Gy t28)]; rfl
   have hg:dm l kw=some ⟨0,[d.body],[bS l 0 d.body kw],i⟩:=by unfold dm;rw[f9 hin hj (by rw[h2];rfl),<- hdd];rfl
   refine gR ?_;rw[hg];exact aq.keep (a8 rfl)
  have h2:fL l kw i=false:=by unfold fL;rw[hdd,decide_eq_false (Ir t28),Bool.and_false]
  refine ga aF ?_;exact aE J1 (i+1) ⟨hin,fun k h9=>by rcases lt_or_ge k i with g |g;exact hj k g;(have:k=i:=by omega);subst this;rw[h2];rfl⟩
 have hin:=a6 hi t13;subst hin;have hg:dm l kw=none:=by unfold dm;rw[fC hj];rfl
 refine gR ?_;exact aq.sub (aq.keep (a8 rfl)) (by rw[hg];exact Sub.tup (.cons pL (.cons (.refl _) .nil)))
theorem Tt(l:Li)(hl:l.ok)(hli:aB l=0)(kw:List Bool)(hk:kw.length=l.bo.length):Con prog 133 [l.av,.ms 1000 1 0 kw.length] [(1000,some (.row 1 (kw.map bl)))] (.tup [((cM l kw).getD default).av,bl (cM l kw).isSome]) [(1000,some (.row 1 (kw.map bl)))]:=by
 have h8:=(cO hli).2.2.2.1;refine gF func133 (fun k z h=>br h) ?_;refine gl ?_;refine aI [2,4,12,13] [2,4,1000] (fun(i:Nat)=>[(1,some (.ms 1000 1 0 kw.length)),(14,some (i64 i))]) (fun _=>[]) (fun i=>i<=l.bo.length/\∀j,j<i->(f6 l kw j).isNone=true) (fun i=>l.bo.length-i) 0 ⟨zero_le _,fun j h=>by omega⟩ ?_;rintro i ⟨hi,hj⟩ K1 J1;refine gC (fun t15=>?_) (fun t15=>?_)
 ·have hin:=aQ t15;refine ga aF ?_;refine aI [2,4,6,12,13,14] [2,4,1000] (fun (k:Nat)=>[(1,some (.ms 1000 1 0 kw.length)),(7,some (i64 (i + 1 + k:Nat)))]) (fun _=>[]) (fun k=>i + 1 + k <= l.bo.length /\ ∀ j,j < k -> (!dB l kw i (i + 1 + j)) = true) (fun k=>l.bo.length - k) 0 ⟨by omega,fun j h=>by omega⟩ ?_;rintro k ⟨hkl,hkj⟩ K2 J2;refine gl ?_;refine gC (fun t23=>?_) (fun t23=>?_)
  ·have hkn:i+1+k<l.bo.length:=aQ t23;refine gt (mX (BJ hl i oz) (aA rfl rfl rfl) rfl rfl rfl) ?_;refine gu (ee rfl rfl rfl (fun h=>mX (BJ hl (i+1+k) oz) (.cons (.opt rfl (o1 h)) (.cons (.opt rfl (o1 h)) (.cons (.opt rfl (o1 h)) .nil))) rfl rfl rfl)) ?_;refine gC (fun t37=>?_) (fun t37=>?_)
   ·have h2 : dB l kw i (i + 1 + k) = false := by unfold dB; rw [show (en l kw i && en l kw ((i + 1 + k : Nat) : Int)) = false from by rcases n6 t37 with g | g; (rw [g]; rfl); (rw [g, Bool.and_false])]; rfl
    refine ga aF ?_;exact aE J2 (k+1) ⟨by omega,fun j h9=>by rcases lt_or_ge j k with g |g;exact hkj j g;(have:j=k:=by omega);subst this;rw[h2];rfl⟩
   have hff:=oW t37;refine gt (mX (sR hl hli 0 i hk) (.cons (.tmp rfl) (.cons (.const _) (bm rfl rfl))) rfl rfl rfl) ?_;refine gt (mX (sR hl hli 0 (i+1+k:Nat) hk) (.cons (.tmp rfl) (.cons (.const _) (bm rfl rfl))) rfl rfl rfl) ?_;refine gc (L6 l oz (i+1+k) hkn) ?_;refine gc (IQ l hl hli 0 i (cz l.bo.length ((i+1+k:Nat):Int)) (gM _ _)) ?_;refine gD ?_;refine gC (fun t61=>?_) (fun t61=>?_)
   ·have h2 : dB l kw i (i + 1 + k) = true := by unfold dB; rw [hff.1, hff.2]; exact (wS.symm.trans t61)
    have hat:f6 l kw i=some (i+1+k):=by unfold f6;rw[f9 oz hkj (by rw[h2];rfl),Option.map_some];congr 1;omega
    have hg:cM l kw=some (gz l kw i (i+1+k)):=by unfold cM;rw[f9 hin hj (by rw[hat];rfl),Option.map_some,hat]
    refine gR ?_;rw[hg];exact aq.keep (a8 rfl)
   have h2:dB l kw i (i+1+k)=false:=by unfold dB;rw[show(decide (0<=bS l 0 i kw)&&decide (0<=bS l 0 ((i+1+k:Nat):Int) kw)&&decide (0<=bS l 0 i (cz l.bo.length ((i+1+k:Nat):Int))))=false from wS.symm.trans t61,Bool.and_false]
   refine ga aF ?_;exact aE J2 (k+1) ⟨by omega,fun j h9=>by rcases lt_or_ge j k with g |g;exact hkj j g;(have:j=k:=by omega);subst this;rw[h2];rfl⟩
  have hkn:¬i+1+k<l.bo.length:=fun h=>by have h1:=tP t23;omega
  have hat:f6 l kw i=none:=by unfold f6;rw[show l.bo.length-(i+1)=k by omega,fC hkj];rfl
  refine ga aF ?_;exact aE J1 (i+1) ⟨hin,fun j h9=>by rcases lt_or_ge j i with g |g;exact hj j g;(have:j=i:=by omega);subst this;rw[hat];rfl⟩
 have hin:=a6 hi t15;have hg:cM l kw=none:=by unfold cM;rw[<- hin,fC hj];rfl
 refine gR ?_;exact aq.sub (aq.keep (a8 rfl)) (by rw[hg];exact Sub.tup (.cons pL (.cons (.refl _) .nil)))
theorem Qt(l:Li)(hl:l.ok)(hli:aB l=0)(kw:List Bool)(hk:kw.length=l.bo.length):Con prog 134 [l.av,.ms 1000 1 0 kw.length] [(1000,some (.row 1 (kw.map bl)))] (.tup [((dY l kw).getD default).av,bl (dY l kw).isSome]) [(1000,some (.row 1 (kw.map bl)))]:=by
 have h8:=(cO hli).2.2.2.1;refine gF func134 (fun k z h=>br h) ?_;refine gl ?_;refine aI [2,4,11,12] [2,4,1000] (fun(i:Nat)=>[(1,some (.ms 1000 1 0 kw.length)),(13,some (i64 i))]) (fun _=>[]) (fun i=>i<=l.bo.length/\∀j,j<i->(!fw l kw j)=true) (fun i=>l.bo.length-i) 0 ⟨zero_le _,fun j h=>by omega⟩ ?_;rintro i ⟨hi,hj⟩ K1 J1;refine gC (fun t14=>?_) (fun t14=>?_)
 ·have hin:=aQ t14;refine gt (mX (BJ hl i oz) (aA rfl rfl rfl) rfl rfl rfl) ?_;refine gC (fun t20=>?_) (fun t20=>?_)
  ·have h2 : fw l kw i = false := by unfold fw; rw [cS t20]; rfl
   refine ga aF ?_;exact aE J1 (i+1) ⟨hin,fun k h9=>by rcases lt_or_ge k i with g |g;exact hj k g;(have:k=i:=by omega);subst this;rw[h2];rfl⟩
  have hf:=cT t20;refine gt (mX (sR hl hli 0 i hk) (.cons (.tmp rfl) (.cons (.const _) (bm rfl rfl))) rfl rfl rfl) ?_;refine gt (mX (sR hl hli 1 i hk) (.cons (.tmp rfl) (.cons (.const _) (bm rfl rfl))) rfl rfl rfl) ?_;refine gD ?_;refine gC (fun t34=>?_) (fun t34=>?_)
  ·have h2 : fw l kw i = false := by unfold fw; rw [Fa t34, Bool.and_false]
   refine ga aF ?_;exact aE J1 (i+1) ⟨hin,fun k h9=>by rcases lt_or_ge k i with g |g;exact hj k g;(have:k=i:=by omega);subst this;rw[h2];rfl⟩
  obtain⟨p0,s0⟩:=Id t34;have s1:=(m9 (l:=l) (kind:=1) (body:=i) (oth:=kw)).2;have h2:fw l kw i=true:=by unfold fw;rw[hf,decide_eq_true p0,decide_eq_true s0];rfl
  obtain⟨j,hjt⟩:∃j,l.jo[(bS l 1 i kw).toNat]?=some j:=au oz;have hjd:l.jo.getD (bS l 1 i kw).toNat default=j:=aC hjt;have hg:dY l kw=some (hO l kw i):=by unfold dY;rw[f9 hin hj (by rw[h2];rfl),Option.map_some]
  refine gi (ib (n:=(bS l 1 i kw).toNat) oz hjt) ?_;refine gC (fun t42=>?_) (fun t42=>?_)
  ·have hji:j.a=i:=da t42;refine gR ?_;rw[hg];unfold hO;rw[hjd];simp only[Option.getD_some,if_pos hji]
   exact aq.keep (a8 rfl)
  have hji:j.a≠i:=dZ t42;refine gR ?_;rw[hg];unfold hO;rw[hjd];simp only[Option.getD_some,if_neg hji]
  exact aq.keep (a8 rfl)
 have hin:=a6 hi t14;have hg:dY l kw=none:=by unfold dY;rw[<- hin,fC hj];rfl
 refine gR ?_;exact aq.sub (aq.keep (a8 rfl)) (by rw[hg];exact Sub.tup (.cons pL (.cons (.refl _) .nil)))
theorem zg{k:List Bool}{bs:List Int}{q:Nat}{x:Int}(h:bs[q]?=some x):bi k (bs.drop q)=bi (k.set x.toNat true) (bs.drop (q+1)):=by
 have hi:=(List.getElem?_eq_some_iff.1 h).1;rw[List.drop_eq_getElem_cons hi,(List.getElem?_eq_some_iff.1 h).2];rfl
theorem QM{l:Li}{n:Nat}{kw:List Bool}{out:List Gr}{g:Gr}(h:bY l kw=some g):cm l (n+1) kw out=cm l n (bi kw g.bo) (out++[g]):=by
 show(match bY l kw with |none=>_ |some g=>_)=_;rw[h]
theorem JA{l:Li}{n:Nat}{kw:List Bool}{out:List Gr}(h:bY l kw=none):cm l n kw out=(kw,out):=by
 cases n with
 |zero=>rfl
 |succ n=>show(match bY l kw with |none=>_ |some g=>_)=_;rw[h]
theorem yZ{α:Type}{o:Option α}(h:o.isSome=false):o=none:=by cases o <;> simp_all
theorem Ed{α:Type}{a b:Option α}(h:a.isSome=true):a=a.or b:=by cases a <;> simp_all
theorem L3{l:Li}{kw:List Bool}(h:(dm l kw).or (cM l kw)=none):bY l kw=dY l kw:=by
 unfold bY;rw[<- Option.or_assoc,h];rfl
theorem Ss{l:Li}{kw:List Bool}(h:((dm l kw).or (cM l kw)).isSome=true):bY l kw=(dm l kw).or (cM l kw):=by
 unfold bY;rw[<- Option.or_assoc];exact(Ed h).symm
theorem Fu(l:Li)(hl:l.ok)(hli:aB l=0):FP 60 [l.av] (.lst 4 ((cr l).map Gr.av)):=by
 have h8:=(cO hli).2.2.2.1;have h0:=(cO hli).2.2.2.2;refine ah func60 ?_;refine gt (ay (yU 900 rfl l oz 0 oz) (.cons (.tmp rfl) (.cons (.const _) .nil)) az rfl rfl) ?_;refine gl ?_;refine gW (Wk.virt 901 4 rfl) ?_;refine iR [1,13] [1] (fun(i:Nat)(kw:List Bool)(out:List Gr)=>[(3,some (.ms 900 1 0 kw.length)),(4,some (.ms 901 4 0 out.length)),(14,some (i64 i))]) (fun _ kw out=>[(900,some (.row 1 (kw.map bl))),(901,some (.row 4 (out.map Gr.av)))]) (fun i kw out=>i<=l.bo.length/\kw.length=l.bo.length/\out.length<=i/\cm l (l.bo.length-i) kw out=cm l l.bo.length (cz l.bo.length 0) []) (fun i _ _=>l.bo.length-i) 0 (cz l.bo.length 0) ([]) ⟨zero_le _,gM _ _,le_refl _,rfl⟩ ?_ (h1:=(.cons rfl (Sub.of (by rw[gM])) (.k (.k .nil))))
 rintro i kw out ⟨hi,hk,hol,hff⟩ K1 J1;refine gC (fun t15=>?_) (fun t15=>?_) (st2:=(18,0))
 ·have hin:=aQ t15;have hd1:=Con.rekey1 900 rfl rfl rfl (No l hl hli kw hk);have hp1:=Con.rekey1 900 rfl rfl rfl (Tt l hl hli kw hk);have hs1:=Con.rekey1 900 rfl rfl rfl (Qt l hl hli kw hk);refine gt (ay hd1 (bm rfl rfl) az rfl rfl) ?_;refine BI [1,5,13,14] [1,900,901] (fun(o:Option Gr)=>[(3,some (.ms 900 1 0 kw.length)),(4,some (.ms 901 4 0 out.length)),(6,some (bl o.isSome))]) (fun o=>[(5,some (.box (o.getD default).av.cells))]) (fun o=>o=(dm l kw).or (cM l kw)) ?_ ?_
  ·intro K2 J2;refine gC (fun t23=>?_) (fun t23=>?_)
   ·refine gt (ay hp1 (bm rfl rfl) az rfl rfl) ?_;exact qV J2 (cM l kw) (by rw[yZ (cS t23)];rfl)
   exact qV J2 (dm l kw) (Ed (cT t23))
  rintro o ho;refine BI [1,5,13,14] [1,900,901] (fun(og:Option Gr)=>[(3,some (.ms 900 1 0 kw.length)),(4,some (.ms 901 4 0 out.length)),(6,some (bl og.isSome))]) (fun og=>[(5,some (.box (og.getD default).av.cells))]) (fun og=>og=bY l kw) ?_ ?_
  ·intro K3 J3;refine gC (fun t31=>?_) (fun t31=>?_)
   ·refine gt (ay hs1 (bm rfl rfl) az rfl rfl) ?_;exact qV J3 (dY l kw) (by have:=yZ (cS t31);rw[ho]at this;exact(L3 this).symm)
   exact qV J3 o (by rw[ho];exact(Ss (by rw[<- ho];exact cT t31)).symm)
  rintro og hog;refine gC (fun t39=>?_) (fun t39=>?_) (st1:=(18,0))
  ·have hn : bY l kw = none := by rw [<- hog]; exact yZ (cS t39)
   have hfin:cr l=out:=by unfold cr;rw[<- hff,JA hn]
   refine gW ((Wk.freeze (k:=901) rfl).trans<|Wk.of (sl:=[(4,some (.lst 4 ((cr l).map Gr.av)))]) (hp:=[]) (.cons rfl (Sub.of (by rw[hfin,bN (by rw[length_map])])) .nil) .nil) ?_;refine ae ?_;rfl
  obtain⟨g,hg⟩:∃g,og=some g:=Option.isSome_iff_exists.1 (cT t39);have hng:bY l kw=some g:=by rw[<- hog,hg]
  have hgo:=ur hli hng;subst hg;refine gs (cf (.tmp rfl) rfl (by rw[length_map]) (.tmp rfl) T32 rfl T53 rfl rfl (by dsimp only;simp only[length_cons,length_nil];omega) rfl rfl) ?_ (12,0);refine gW (Wk.of (sl:=[(1,some (.ptr 1 0)),(3,some (.ms 900 1 0 kw.length)),(4,some (.ms 43 4 0 (out++[g]).length)),(5,some (.ptr 5 0)),(13,some (i64 l.bo.length)),(14,some (i64 i))]) (hp:=[(1,some (.box l.av.cells)),(5,some (.box g.av.cells)),(900,some (.row 1 (kw.map bl))),(43,some (.row 4 ((out++[g]).map Gr.av)))]) (.k (.k (.cons rfl (Sub.of (by rw[length_append];rfl)) (.k (.k (.k .nil)))))) (.k (.k (.k (.cons rfl (BlkSub.of (by rw[map_append];rfl)) .nil))))) ?_ (12,0)
  refine gW (Wk.rk (k:=43) (d:=901) rfl rfl) ?_;refine gl ?_;refine gx [1,13,14,45,46] [1,901] (fun(q:Nat)(kk:List Bool)=>[(3,some (.ms 900 1 0 kk.length)),(4,some (.ms 901 4 0 (out++[g]).length)),(47,some (i64 q))]) (fun _ kk=>[(900,some (.row 1 (kk.map bl)))]) (fun q kk=>q<=g.bo.length/\kk.length=l.bo.length/\bi kk (g.bo.drop q)=bi kw g.bo) (fun q _=>g.bo.length-q) 0 kw ⟨zero_le _,hk,rfl⟩ ?_;rintro q kk ⟨hq,hkk,hmk⟩ K4 J4;refine gC (fun t48=>?_) (fun t48=>?_)
  ·have hqn:=aQ t48;obtain⟨x,hx⟩:=au hqn;have hxb:=hgo.b x (mem_of_getElem? hx);obtain⟨v,hv⟩:∃v,kk[x.toNat]?=some v:=au oz;refine gi (ax hx) ?_;refine gs (mg (.tmp rfl) (.tmp rfl) T218 rfl T4 rfl oz oz rfl) ?_;refine gs (dG (.tmp rfl) rfl (by rw[Nat.zero_add,getElem?_map,hv];rfl) rfl (.const _) rfl rfl T4 rfl rfl) ?_;refine ga (EO (by have:=hgo.lb;unfold aS;omega)) ?_;exact fY J4 (q+1) (kk.set x.toNat true) ⟨hqn,by rw[length_set];exact hkk,by rw[<- zg hx];exact hmk⟩ (hw:=Wk.of (.cons rfl (Sub.of (by rw[length_set])) (.k (.k (.k (.k (.k (.k (.k .nil)))))))) (.cons rfl (BlkSub.of (by rw[map_set,Nat.zero_add];rfl)) (.k (.k .nil))))
  have hqn:=a6 hq t48;have hmk2:kk=bi kw g.bo:=by rw[hqn,List.drop_length]at hmk;exact hmk
  refine ga aF ?_;exact gP J1 (i+1) kk (out++[g]) ⟨hin,hkk,by rw[length_append];simp only[length_cons,length_nil];omega,by rw[hmk2,<- QM hng,<- hff];congr 1;omega⟩
 have hin:=a6 hi t15;have hfin:cr l=out:=by unfold cr;rw[<- hff,show l.bo.length-i=0 by omega];rfl
 refine gW ((Wk.freeze (k:=901) rfl).trans<|Wk.of (sl:=[(4,some (.lst 4 ((cr l).map Gr.av)))]) (hp:=[]) (.cons rfl (Sub.of (by rw[hfin,bN (by rw[length_map])])) .nil) .nil) ?_;refine ae ?_;rfl
end Go.Lw
