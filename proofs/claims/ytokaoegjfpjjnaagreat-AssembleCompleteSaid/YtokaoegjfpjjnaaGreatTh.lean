/- AssembleComplete: for anything drawn the law returns true and leaves its arguments as they were. No other condition. Part 8 of 8: the statement -/
import Derived.Test.YtokaoegjfpjjnaaGreatTg
set_option linter.unusedVariables false
open List (all_cons foldl_cons nil_append append_nil map_nil all_append map_map)
open List renaming mem_of_getElem? → ank, mem_cons_of_mem → aom, mem_append → anz, map_cons → aow, mem_cons → an9, length_cons → an0, mem_cons_self → aok, length_append → aoe, length_nil → aoa, getD_eq_getElem?_getD → anm, all_eq_true → anx, getElem?_map → anr, append_assoc → aor, getElem?_eq_getElem → ano, map_append → aoc, length_take → an6, take_of_length_le → an1, take_length → an3, not_mem_nil → aob, length_map → anl, length_replicate → aon, any_eq_true → ald, contains_iff_mem → alf, mem_range → alh, getElem_mem → ali, getElem?_eq_some_iff → alj, countP_cons → alp, mem_singleton → alr, getElem?_of_mem → alt, mem_iff_getElem → alx, mem_map → al0
open Nat (le_of_lt)
open Nat renaming eq_of_beq_eq_true → anw, le_refl → anp, lt_or_ge → anu, le_trans → an4, mul_le_mul_right → aod, zero_le → ans, pow_add → aoo, lt_of_le_of_lt → aog, pow_succ → ajq, one_le_two_pow → ajr, mul_pos → aju, beq → ajx, succ_mul → aj9, pow_le_pow_right → akl, zero_add → akv, mul_le_mul → akw
open Option renaming map_eq_some_iff → ann
open Bool renaming and_eq_true → anq, or_eq_true → aos, not_eq_true' → amo, decide_and → amp, and_false → amr, false_eq_true → ams, not_eq_false' → amv, or_eq_false_iff → amw, eq_false_iff → amx, decide_or → amy
open Int renaming toNat_natCast → aol, natAbs_natCast → aoj, natAbs_mul → al3
open Rat renaming divInt_eq_div → amg, intCast_mul → ami, intCast_eq_zero_iff → amk, num_divInt_den → amm, div_mul_cancel → amn
open Decidable renaming not_not → anj
open Go renaming Value → ao9, TypeId → apa
open Go.Proofs.Tryz
namespace Go.Lw
open Go.Proofs
theorem vh(i:Int)(n:Nat):FP 166 [i64 i,i64 n] (bl (bT i n)):=by
 refine am func166 ?_;refine ai ?_;exact ao6 bl (Ot i n)
theorem Tf(p q:Mk)(hp:p.ok)(hq:q.ok):FP 167 [p.av,q.av] (bl (decide (p.x.q=q.x.q/\p.y.q=q.y.q))):=by
 refine am func167 ?_;refine gc (OX p.x q.x hp.x hq.x ((hp.qx.sub hq.qx).qs oz)) ?_;refine cm (fun _=>(OX p.y q.y hp.y hq.y ((hp.qy.sub hq.qy).qs oz))) ?_;refine ai ?_;exact ao6 bl TQ
theorem Xg(b:Bd)(o5:b.ok):FP 165 [b.av] (i64 (if 8<b.pts.length then 4 else it b.pts.length (fW b.pts):Nat)):=by
 have kI:=o5.ll;refine am func165 ?_;refine gl ?_;refine gC (fun z=>?_) (fun z=>?_)
 ·have h0:8<b.pts.length:=lY z;refine ai ?_;rw[aoz h0];rfl
 have h0:b.pts.length<=8:=jQ z;have e0:(if 8<b.pts.length then 4 else it b.pts.length (fW b.pts):Nat)=it b.pts.length (fW b.pts):=aoy oz;refine aY [1] [1] (fun(p:Nat)=>[pP 3 (i64 p)]) (fun _=>[]) (fun p=>p<=b.pts.length/\∀j,j<p->fW b.pts j=0) (fun p=>b.pts.length-p) 0 ⟨ans _,fun j h=>by omega⟩ ?_;rintro p ⟨hp,pv⟩ K1 J1;refine gl ?_;refine gC (fun z=>?_) (fun z=>?_)
 ·have iA:=bf z;obtain⟨m,hm⟩:=aB iA;have rz:b.pts.getD p default=m:=aw hm;have sW:=ank hm;have Ag:=sO Mk.name hm;have nH:=o5.pts m sW;refine gi (aL hm) ?_;refine gc (yb m.name (o5.names m sW)) ?_;refine gC (fun z=>?_) (fun z=>?_)
  ·have h4:=dP z;have e2:fW b.pts p=5:=by unfold fW; rw[rz,aoz h4]
   refine ai ?_;rw[e0,fU iA pv (by rw[e2];decide),e2];rfl
  have h4:=dN z;refine aY [1,3,4] [1,4] (fun(q:Nat)=>[pP 5 (i64 q)]) (fun _=>[]) (fun q=>q<=p/\(b.pts.take q).any (fun y=>fm y.name m.name)=false) (fun q=>p-q) 0 ⟨ans _,rfl⟩ ?_;rintro q ⟨hq,pz⟩ K2 J2;refine gC (fun z=>?_) (fun z=>?_)
  ·have dM:=bf z;obtain⟨y,hy⟩:∃y,b.pts[q]?=some y:=aB oz;refine gi (aL hy) ?_;refine gD ?_;refine gC (fun z=>?_) (fun z=>?_)
   ·have h5:fm y.name m.name=true:=z;have e2:fW b.pts p=6:=by unfold fW; rw[rz,aoy (by rw[h4]; decide),aoz (by rw[Ag]; exact pM hy dM h5)]
    refine ai ?_;rw[e0,fU iA pv (by rw[e2];decide),e2];rfl
   have h5:fm y.name m.name=false:=z;refine ga aU ?_;exact aS J2 (q+1) ⟨dM,oO hy pz h5⟩
  have dM:=bu hq z;subst dM;have Ah:¬jN (b.pts.map Mk.name) q=true:=by rw[Ag,pz];decide
  refine gc (tP m.x nH.x) ?_;refine cm (fun _=>(tP m.y nH.y)) ?_;refine gC (fun z=>?_) (fun z=>?_)
  ·have h6:=tC z;have e2:fW b.pts q=3:=by unfold fW; rw[rz,aoy (by rw[h4]; decide),aoy Ah,aoy (by rintro ⟨g1,g2⟩; rcases h6 with g | g; (rw[g1] at g; cases g); (rw[g2] at g; cases g))]
   refine ai ?_;rw[e0,fU iA pv (by rw[e2];decide),e2];rfl
  have h6:=tK z;have e2:fW b.pts q=0:=by unfold fW;rw[rz,aoy (by rw[h4];decide),aoy Ah,aoz h6]
  refine ga aU ?_;exact aS J1 (q+1) ⟨iA,fun j h9=>by rcases anu j q with g |g;exact pv j g;(have:j=q:=by omega);subst this;exact e2⟩
 have iA:=bu hp z;subst iA;refine ai ?_;rw[e0,rF pv];rfl
theorem Xi(l:Li)(hl:l.ok):FP 72 [l.av] (i64 (kS l)):=by
 have dU:=hl.lb;have e0:kS l=it l.bo.length (fZ l.bo):=rfl;refine am func72 ?_;refine aY [1] [1] (fun(i:Nat)=>[pP 3 (i64 i)]) (fun _=>[]) (fun i=>i<=l.bo.length/\∀j,j<i->fZ l.bo j=0) (fun i=>l.bo.length-i) 0 ⟨ans _,fun j h=>by omega⟩ ?_;rintro i ⟨hi,hj⟩ K1 J1;refine gl ?_;refine gC (fun z=>?_) (fun z=>?_)
 ·have ah:=bf z;obtain⟨b,hb⟩:=aB ah;have dX:l.bo.getD i default=b:=aw hb;have o5:=hl.bo b (ank hb);have ka:=sO Bd.name hb;refine gi (aL hb) ?_;refine gc (yb b.name o5.name) ?_;refine gC (fun z=>?_) (fun z=>?_)
  ·have h1:=dP z;have e1:fZ l.bo i=5:=by unfold fZ; rw[dX,aoz h1]
   refine ai ?_;rw[e0,fU ah hj (by rw[e1];decide),e1];rfl
  have h1:=dN z;refine aY [1,3] [1] (fun(k:Nat)=>[pP 4 (i64 k)]) (fun _=>[]) (fun k=>k<=i/\(l.bo.take k).any (fun y=>fm y.name b.name)=false) (fun k=>i-k) 0 ⟨ans _,rfl⟩ ?_;rintro k ⟨hk,hd⟩ K2 J2;refine gC (fun z=>?_) (fun z=>?_)
  ·have bw:=bf z;obtain⟨y,hy⟩:∃y,l.bo[k]?=some y:=aB oz;refine gi (aL hy) ?_;refine gi (aL hb) ?_;refine gD ?_;refine gC (fun z=>?_) (fun z=>?_)
   ·have h2:fm y.name b.name=true:=z;have e1:fZ l.bo i=6:=by unfold fZ; rw[dX,aoy (by rw[h1]; decide),aoz (by rw[ka]; exact pM hy bw h2)]
    refine ai ?_;rw[e0,fU ah hj (by rw[e1];decide),e1];rfl
   have h2:fm y.name b.name=false:=z;refine ga aU ?_;exact aS J2 (k+1) ⟨bw,oO hy hd h2⟩
  have bw:=bu hk z;subst bw;have dA:¬jN (l.bo.map Bd.name) k=true:=by rw[ka,hd];decide
  have e1:fZ l.bo k=if 8<b.pts.length then 4 else it b.pts.length (fW b.pts):=by unfold fZ;rw[dX,aoy (by rw[h1];decide),aoy dA]
  refine gi (aL hb) ?_;refine gc (Xg b o5) ?_;refine gC (fun z=>?_) (fun z=>?_)
  ·have h3:=jI z;refine ai ?_;rw[e0,fU ah hj (by rw[e1];exact h3),e1]
  have h3:=jp z;refine ga aU ?_;exact aS J1 (k+1) ⟨ah,fun j h9=>by rcases anu j k with g |g;exact hj j g;(have:j=k:=by omega);subst this;exact e1.trans h3⟩
 have ah:=bu hi z;subst ah;refine ai ?_;rw[e0,rF hj];rfl
theorem aga(l:Li)(hl:l.ok)(i:Nat)(hi:i<l.jo.length)(h16:l.jo.length<=16):FP 73 [l.av,i64 i] (i64 (jr l i)):=by
 obtain⟨j,uO⟩:=aB hi;have dX:l.jo.getD i default=j:=aw uO;have ka:=sO Jt.name uO;refine am func73 ?_;refine gi (aL uO) ?_;refine gc (yb j.name (hl.jnames j (ank uO))) ?_;refine gC (fun z=>?_) (fun z=>?_)
 ·have h0:=dP z;refine ai ?_;unfold jr;rw[dX,aoz h0];rfl
 have h0:=dN z;refine aY [1,2,5] [2,5] (fun(k:Nat)=>[pP 6 (i64 k)]) (fun _=>[]) (fun k=>k<=i/\(l.jo.take k).any (fun y=>fm y.name j.name)=false) (fun k=>i-k) 0 ⟨ans _,rfl⟩ ?_;rintro k ⟨hk,hd⟩ K1 J1;refine gC (fun z=>?_) (fun z=>?_)
 ·have bw:=bf z;obtain⟨y,hy⟩:∃y,l.jo[k]?=some y:=aB oz;refine gi (aL hy) ?_;refine gD ?_;refine gC (fun z=>?_) (fun z=>?_)
  ·have h2:fm y.name j.name=true:=z;refine ai ?_;unfold jr;rw[dX,aoy (by rw[h0];decide),aoz (by rw[ka];exact pM hy bw h2)];rfl
  have h2:fm y.name j.name=false:=z;refine ga aU ?_;exact aS J1 (k+1) ⟨bw,oO hy hd h2⟩
 have bw:=bu hk z;subst bw;have dA:¬jN (l.jo.map Jt.name) k=true:=by rw[ka,hd];decide
 have e1:jr l k=f8 l j:=by unfold jr;rw[dX,aoy (by rw[h0];decide),aoy dA]
 refine gC (fun z=>?_) (fun z=>?_)
 ·have h1:=JO z;refine ai ?_;rw[e1];unfold f8;rw[aoz h1];rfl
 have h1:=QE z;refine gl ?_;refine gc (vh j.a l.bo.length) ?_;refine cV ?_;refine cm (fun _=>(vh j.b l.bo.length)) ?_;refine gC (fun z=>?_) (fun z=>?_)
 ·have h2:=tC z;refine ai ?_;rw[e1];unfold f8;rw[aoy h1,aoz h2];rfl
 have h2:=tK z;have lJ:¬(bT j.a l.bo.length=false\/bT j.b l.bo.length=false):=by rw[h2.1,h2.2];simp
 obtain⟨A,hA,pA,mA,zA0⟩:=tH h2.1;obtain⟨B,hB,pB,mB,zB0⟩:=tH h2.2;refine gC (fun z=>?_) (fun z=>?_)
 ·have h3:=dI z;refine ai ?_;rw[e1];unfold f8;rw[aoy h1,aoy lJ,aoz h3];rfl
 have h3:=fq z;refine gi (aL hA) ?_;refine gi (aL hB) ?_;refine gD ?_;refine gl ?_;refine gc (vh j.point A.pts.length) ?_;refine cV ?_;refine cm (fun _=>(vh j.on B.pts.length)) ?_;refine gC (fun z=>?_) (fun z=>?_)
 ·have h4:=tC z;refine ai ?_;rw[e1];unfold f8;rw[aoy h1,aoy lJ,aoy h3,pA,pB,aoz h4];rfl
 have h4:=tK z;have pC:¬(bT j.point A.pts.length=false\/bT j.on B.pts.length=false):=by rw[h4.1,h4.2];simp
 refine gC (fun z=>?_) (fun z=>?_)
 ·have h5:=dI z;refine gC (fun z=>?_) (fun z=>?_)
  ·have h6:=xu z;refine ai ?_;rw[e1];unfold f8;rw[aoy h1,aoy lJ,aoy h3,pA,pB,aoy pC,aoz h5,aoz h6];rfl
  have h6:=C9 z;refine ai ?_;rw[e1];unfold f8;rw[aoy h1,aoy lJ,aoy h3,pA,pB,aoy pC,aoz h5,aoy (by rw[h6];simp)];rfl
 have h5:=fq z;refine gl ?_;refine gc (vh j.to B.pts.length) ?_;refine gC (fun z=>?_) (fun z=>?_)
 ·have h6:=dP z;refine ai ?_;rw[e1];unfold f8;rw[aoy h1,aoy lJ,aoy h3,pA,pB,aoy pC,aoy h5,aoz h6];rfl
 have h6:=dN z;obtain⟨m1,g1,d1,mm1,z1⟩:=vn h4.2;obtain⟨m2,g2,d2,mm2,z2⟩:=vn h6;have mo1:=(hl.bo B mB).pts m1 mm1;have mo2:=(hl.bo B mB).pts m2 mm2;refine gi (aL g1) ?_;refine gi (aL g2) ?_;refine gc (Tf m1 m2 mo1 mo2) ?_;refine gD ?_;refine gC (fun z=>?_) (fun z=>?_)
 ·have h7:=ao1 z;refine ai ?_;rw[e1];unfold f8;rw[aoy h1,aoy lJ,aoy h3,pA,pB,aoy pC,aoy h5,aoy (by rw[h6];decide),d1,d2,aoz h7];rfl
 have h7:=ao2 z;refine ai ?_;rw[e1];unfold f8;rw[aoy h1,aoy lJ,aoy h3,pA,pB,aoy pC,aoy h5,aoy (by rw[h6];decide),d1,d2,aoy h7];rfl
theorem R5(l:Li)(hl:l.ok)(i:Nat)(hi:i<l.dv.length)(h2l:l.dv.length<=2):FP 74 [l.av,i64 i] (i64 (fN l i)):=by
 obtain⟨b,hb⟩:=aB hi;have dX:l.dv.getD i default=b:=aw hb;have ka:=sO Dr.name hb;refine am func74 ?_;refine gi (aL hb) ?_;refine gc (yb b.name (hl.dnames b (ank hb))) ?_;refine gC (fun z=>?_) (fun z=>?_)
 ·have h1:=dP z;refine ai ?_;unfold fN;rw[dX,aoz h1];rfl
 have h1:=dN z;refine aY [1,2,5] [2,5] (fun(k:Nat)=>[pP 6 (i64 k)]) (fun _=>[]) (fun k=>k<=i/\(l.dv.take k).any (fun y=>fm y.name b.name)=false) (fun k=>i-k) 0 ⟨ans _,rfl⟩ ?_;rintro k ⟨hk,hd⟩ K1 J1;refine gC (fun z=>?_) (fun z=>?_)
 ·have bw:=bf z;obtain⟨y,hy⟩:∃y,l.dv[k]?=some y:=aB oz;refine gi (aL hy) ?_;refine gD ?_;refine gC (fun z=>?_) (fun z=>?_)
  ·have h2:fm y.name b.name=true:=z;refine ai ?_;unfold fN;rw[dX,aoy (by rw[h1];decide),aoz (by rw[ka];exact pM hy bw h2)];rfl
  have h2:fm y.name b.name=false:=z;refine ga aU ?_;exact aS J1 (k+1) ⟨bw,oO hy hd h2⟩
 have bw:=bu hk z;subst bw;have dA:¬jN (l.dv.map Dr.name) k=true:=by rw[ka,hd];decide
 refine gl ?_;refine gc (vh b.body l.bo.length) ?_;refine gC (fun z=>?_) (fun z=>?_)
 ·have h3:=dP z;refine ai ?_;unfold fN;rw[dX,aoy (by rw[h1];decide),aoy dA,aoz h3];rfl
 have h3:=dN z;refine gC (fun z=>?_) (fun z=>?_)
 ·have h4:=dI z;refine ai ?_;unfold fN;rw[dX,aoy (by rw[h1];decide),aoy dA,aoy (by rw[h3];decide),aoz h4];rfl
 have h4:=fq z;have e1:fN l k=if(l.dv.take k).any (fun d=>decide (d.body=b.body))=true then 6 else 0:=by unfold fN;rw[dX,aoy (by rw[h1];decide),aoy dA,aoy (by rw[h3];decide),aoy h4]
 refine aY [1,2,5] [2,5] (fun(q:Nat)=>[pP 7 (i64 q)]) (fun _=>[]) (fun q=>q<=k/\(l.dv.take q).any (fun d=>decide (d.body=b.body))=false) (fun q=>k-q) 0 ⟨ans _,rfl⟩ ?_;rintro q ⟨hq,pz⟩ K2 J2;refine gC (fun z=>?_) (fun z=>?_)
 ·have dM:=bf z;obtain⟨y,hy⟩:∃y,l.dv[q]?=some y:=aB oz;refine gi (aL hy) ?_;refine gD ?_;refine gC (fun z=>?_) (fun z=>?_)
  ·have h5:decide (y.body=b.body)=true:=ao3 (dI z);refine ai ?_;rw[e1,aoz (pM hy dM h5)];rfl
  have h5:decide (y.body=b.body)=false:=ao4 (fq z);refine ga aU ?_;exact aS J2 (q+1) ⟨dM,oO hy pz h5⟩
 have dM:=bu hq z;subst dM;refine ai ?_;rw[e1,pz];rfl
theorem Pv(l:Li)(hl:l.ok):FP 19 [l.av] (i64 (aM l)):=by
 have dU:=hl.lb;refine am func19 ?_;refine gc (yb l.name hl.name) ?_;refine gC (fun z=>?_) (fun z=>?_)
 ·have h1:=dP z;refine ai ?_;unfold aM;rw[aoz h1];rfl
 have h1:=dN z;refine gl ?_;refine gC (fun z=>?_) (fun z=>?_)
 ·have h2:=Jn z;refine ai ?_;unfold aM;rw[aoy (by rw[h1];decide),aoz h2];rfl
 have h2:=JT z;refine gl ?_;refine gC (fun z=>?_) (fun z=>?_)
 ·have h3:8<l.bo.length:=lY z;refine ai ?_;unfold aM;rw[aoy (by rw[h1];decide),aoy h2,aoz h3];rfl
 have h3:l.bo.length<=8:=jQ z;have e0:aM l=if kS l≠0 then kS l else if gN l≠0 then gN l else jM l:=by unfold aM;rw[aoy (by rw[h1];decide),aoy h2,aoy oz]
 refine gc (Xi l hl) ?_;refine gC (fun z=>?_) (fun z=>?_)
 ·have h4:kS l≠0:=jI z;refine ai ?_;rw[e0,aoz h4]
 have h4:kS l=0:=jp z;refine gl ?_;refine gC (fun z=>?_) (fun z=>?_)
 ·have h5:16<l.jo.length:=lY z;have ej:gN l=4:=by unfold gN; rw[aoz h5]
  refine ai ?_;rw[e0,aoy (by rw[h4];simp),aoz (by rw[ej];decide),ej];rfl
 have h5:l.jo.length<=16:=jQ z;have ej:gN l=it l.jo.length (jr l):=by unfold gN;rw[aoy oz]
 refine aY [1] [1] (fun(i:Nat)=>[pP 4 (i64 i)]) (fun _=>[]) (fun i=>i<=l.jo.length/\∀j,j<i->jr l j=0) (fun i=>l.jo.length-i) 0 ⟨ans _,fun j h=>by omega⟩ ?_;rintro i ⟨hi,hj⟩ K1 J1;refine gl ?_;refine gC (fun z=>?_) (fun z=>?_)
 ·have ah:=bf z;refine gc (aga l hl i ah h5) ?_;refine gC (fun z=>?_) (fun z=>?_)
  ·have h6:=jI z;refine ai ?_;rw[e0,aoy (by rw[h4];simp),aoz (by rw[ej,fU ah hj h6];exact h6),ej,fU ah hj h6]
  have h6:=jp z;refine ga aU ?_;exact aS J1 (i+1) ⟨ah,fun j h9=>by rcases anu j i with g |g;exact hj j g;(have:j=i:=by omega);subst this;exact h6⟩
 have ah:=bu hi z;subst ah;have ejz:gN l=0:=ej.trans (rF hj);have e0':aM l=jM l:=by rw[e0,aoy (by rw[h4];simp),aoy (by rw[ejz];simp)]
 refine gl ?_;refine gC (fun z=>?_) (fun z=>?_)
 ·have h6:2<l.dv.length:=lY z;refine ai ?_;rw[e0'];unfold jM;rw[aoz h6];rfl
 have h6:l.dv.length<=2:=jQ z;have ed:jM l=it l.dv.length (fN l):=by unfold jM;rw[aoy oz]
 refine aY [1] [1] (fun(k:Nat)=>[pP 6 (i64 k)]) (fun _=>[]) (fun k=>k<=l.dv.length/\∀j,j<k->fN l j=0) (fun k=>l.dv.length-k) 0 ⟨ans _,fun j h=>by omega⟩ ?_;rintro k ⟨hk,gM⟩ K2 J2;refine gl ?_;refine gC (fun z=>?_) (fun z=>?_)
 ·have bw:=bf z;refine gc (R5 l hl k bw h6) ?_;refine gC (fun z=>?_) (fun z=>?_)
  ·have h7:=jI z;refine ai ?_;rw[e0',ed,fU bw gM h7]
  have h7:=jp z;refine ga aU ?_;exact aS J2 (k+1) ⟨bw,fun j h9=>by rcases anu j k with g |g;exact gM j g;(have:j=k:=by omega);subst this;exact h7⟩
 have bw:=bu hk z;subst bw;refine ai ?_;rw[e0',ed,rF gM];rfl
theorem D7(rs xs:List (List Rt))(w m:Nat)(o8:mW rs)(iV:mW xs)(uK:rs.length<=100)(gI:xs.length<=100):FP 143 [cJ rs,i64 w,i64 m,.lst 1 (xs.map nR)] (bl (sa w m (rs++xs))):=by
 obtain⟨l,hl⟩:∃l,l=rs++xs:=⟨_,rfl⟩
 have xc:mW l:=by rw[hl];exact o8.app iV
 have kI:l.length<=200:=by rw[hl,aoe];omega
 have fP:rs.map nR++xs.map nR=l.map nR:=by rw[hl,aoc]
 rw[<- hl];refine am func143 ?_;refine gs (lX T42 rfl T53 rfl rfl rfl) ?_;refine gs (cZ (.tmp rfl) rfl rfl (.tmp rfl) T42 rfl T53 rfl rfl (by simp only[anl];omega) rfl rfl) ?_;refine gs (tR (.tmp rfl) rfl (by simp) (.tmp rfl) T42 rfl T53 rfl rfl (by simp only[anl];omega) rfl rfl) ?_;refine ge rfl ?_;refine aY [1,2] [] (fun(i:Nat)=>[pP 18 (.lst 1 (l.map nR)),pP 19 (i64 l.length),pP 20 (i64 i)]) (fun _=>[]) (fun i=>i<=l.length/\(l.take i).all (ul w m)=true) (fun i=>l.length-i) 0 ⟨ans _,rfl⟩ ?_ (h1:=(.cons rfl (.of (ao6 (AV.lst 1) fP)) (.cons rfl (Sub.int (by rw[nil_append,fP,anl])) (.k .nil))));rintro i ⟨hi,hj⟩ K1 J1;refine gC (fun z=>?_) (fun z=>?_)
 ·have ah:=bf z;obtain⟨x,hx⟩:=aB ah;have DG:=xc x (ank hx);have gI:=DG.2;refine gi (aL hx) ?_;refine gl ?_;refine gC (fun z=>?_) (fun z=>?_)
  ·have h1:=lY z;refine ai ?_;rw[sa,kt hx (by unfold ul;rw[ao4 oz];rfl)];rfl
  have h1:x.length<=m:=jQ z;refine gl ?_;refine aY [1,2,18,19,20,28,29] [] (fun(k:Nat)=>[pP 30 (i64 k)]) (fun _=>[]) (fun k=>k<=x.length/\(x.take k).all (fun r=>decide (r.num.length<=w/\r.den.length<=w))=true) (fun k=>x.length-k) 0 ⟨ans _,rfl⟩ ?_;rintro k ⟨hk,gM⟩ K2 J2;refine gC (fun z=>?_) (fun z=>?_)
  ·have bw:=bf z;obtain⟨r,hr⟩:=aB bw;refine gi (aL hr) ?_;refine gl ?_;refine cV ?_;refine gC (fun z=>?_) (fun z=>?_)
   ·have h2:¬(r.num.length<=w/\r.den.length<=w):=afv z;refine ai ?_;rw[sa,kt hx (by unfold ul;rw[kt hr (ao4 h2),amr])];rfl
   have h2:r.num.length<=w/\r.den.length<=w:=ab5 z;refine ga aU ?_;exact aS J2 (k+1) ⟨bw,l7 gM hr (ao3 h2)⟩
  have bw:=bu hk z;refine ga aU ?_;exact aS J1 (i+1) ⟨ah,l7 hj hx (by unfold ul;rw[ao3 h1,lO bw gM];rfl)⟩
 have ah:=bu hi z;refine ai ?_;rw[sa,lO ah hj];rfl
theorem aaw(rs xs:List (List Rt))(o8:mW rs)(iV:mW xs)(uK:rs.length<=281474976710656)(gI:xs.length<=100):FP 56 [cJ rs,.lst 1 (xs.map nR)] (bl (uq rs xs)):=by
 refine am func56 ?_;refine gl ?_;refine gC (fun z=>?_) (fun z=>?_)
 ·have h1:rs.length<=1\/(5<rs.length/\rs.length<=8):=Wu z;refine gc (D7 rs xs 3 40 o8 iV oz gI) ?_;refine ai ?_;unfold uq;rw[aoz h1]
 have h1:¬(rs.length<=1\/(5<rs.length/\rs.length<=8)):=ZC z;refine gC (fun z=>?_) (fun z=>?_)
 ·have h2:rs.length=2:=by have:=dI z; omega
  refine gc (D7 rs xs 1 40 o8 iV oz gI) ?_;refine ai ?_;unfold uq;rw[aoy h1,aoz h2]
 have h2:¬rs.length=2:=by have:=fq z;omega
 refine gC (fun z=>?_) (fun z=>?_)
 ·have h3:rs.length=3:=by have:=dI z; omega
  refine gc (D7 rs xs 1 4 o8 iV oz gI) ?_;refine ai ?_;unfold uq;rw[aoy h1,aoy h2,aoz h3]
 have h3:¬rs.length=3:=by have:=fq z;omega
 refine ai ?_;unfold uq;rw[aoy h1,aoy h2,aoy h3];rfl
theorem LQ(l:Li)(hl:l.okw):FP 57 [l.av] (bl (jU l)):=by
 have pb:=hl.lb;refine am func57 ?_;refine gl ?_;refine aY [1,8,9] [1] (fun(i:Nat)=>[pP 10 (i64 i)]) (fun _=>[]) (fun i=>i<=l.bo.length/\(l.bo.take i).all ui=true) (fun i=>l.bo.length-i) 0 ⟨ans _,rfl⟩ ?_;rintro i ⟨hi,hj⟩ K1 J1;refine gC (fun z=>?_) (fun z=>?_)
 ·have ah:=bf z;obtain⟨b,hb⟩:=aB ah;refine gi (aL hb) ?_;refine gl ?_;refine gC (fun z=>?_) (fun z=>?_)
  ·have h1:30<b.pts.length:=lY z;refine ai ?_;unfold jU;rw[kt hb (by unfold ui;rw[ao4 oz];rfl)];rfl
  have h1:b.pts.length<=30:=jQ z;refine gl ?_;refine aY [1,8,9,10,19,20] [1] (fun(k:Nat)=>[pP 21 (i64 k)]) (fun _=>[]) (fun k=>k<=b.pts.length/\(b.pts.take k).all p8=true) (fun k=>b.pts.length-k) 0 ⟨ans _,rfl⟩ ?_;rintro k ⟨hk,gM⟩ K2 J2;refine gC (fun z=>?_) (fun z=>?_)
  ·have bw:=bf z;obtain⟨p,hp⟩:=aB bw;refine gi (aL hp) ?_;refine gl ?_;refine cV ?_;refine cV ?_;refine cV ?_;refine gC (fun z=>?_) (fun z=>?_)
   ·have h2:p8 p=false:=U0 z;refine ai ?_;unfold jU;rw[kt hb (by unfold ui;rw[kt hp h2,amr])];rfl
   have h2:p8 p=true:=WA z;refine ga aU ?_;exact aS J2 (k+1) ⟨bw,l7 gM hp h2⟩
  have bw:=bu hk z;refine ga aU ?_;exact aS J1 (i+1) ⟨ah,l7 hj hb (by unfold ui;rw[ao3 h1,lO bw gM];rfl)⟩
 have ah:=bu hi z;refine gl ?_;refine cV ?_;refine cV ?_;refine ai ?_;exact ao6 bl (Xo (lO ah hj))
theorem Vj(l:Li)(ps:List Pse)(hl:l.okw)(eT:∀p∈ps,p.wok)(kH:ps.length<=281474976710656):FP 9 [yu l ps] (bl (vG l ps)):=by
 refine am func9 ?_;refine gl ?_;refine aY [1,6,7] [1] (fun(i:Nat)=>[pP 8 (i64 i)]) (fun _=>[]) (fun i=>i<=ps.length/\(ps.take i).all yr=true) (fun i=>ps.length-i) 0 ⟨ans _,rfl⟩ ?_;rintro i ⟨hi,hj⟩ K1 J1;refine gC (fun z=>?_) (fun z=>?_)
 ·have ah:=bf z;obtain⟨p,hp⟩:=aB ah;have kK:=eT p (ank hp);refine gi (aL hp) ?_;refine gc (Con.sA (.cons (Sub.agg (.cons (Sub.nil 1 none 0) .nil) rfl) (.cons (.refl _) .nil)) (aaw [] [[p.turn.t,p.at_.x],[p.at_.y]] XD kK.rs (by show 0<=_; omega) (by show 2<=100; omega))) ?_;refine gC (fun z=>?_) (fun z=>?_)
  ·have h1:=dP z;refine ai ?_;unfold vG;rw[kt hp h1];rfl
  have h1:=dN z;refine ga aU ?_;exact aS J1 (i+1) ⟨ah,l7 hj hp h1⟩
 have ah:=bu hi z;refine gl ?_;refine cm (fun _=>(LQ l hl)) ?_;refine ai ?_;exact ao6 bl (Wc (lO ah hj))
def qd(r:Rt):Bool:=!(cond (cond (cond (aa .gtr (r.num.length:Int) 1) true (aa .gtr (r.den.length:Int) 1)) true (cond (aa .eql (r.num.length:Int) 1) (aa .gtr (an r.num 0:Int) 400) false)) true
  (cond (aa .eql (r.den.length:Int) 1) (aa .gtr (an r.den 0:Int) 20) false))
theorem My(rs:List Rt)(hl:rs.length<=1000):FP 150 [.lst 3 (rs.map Rt.av)] (bl (rs.all qd)):=by
 refine am func150 ?_;refine gl ?_;refine aY [5,6] [] (fun(i:Nat)=>[pP 7 (i64 i)]) (fun _=>[]) (fun i=>i<=rs.length/\(rs.take i).all qd=true) (fun i=>rs.length-i) 0 ⟨ans _,rfl⟩ ?_;rintro i ⟨hi,hj⟩ K1 J1;refine gC (fun z=>?_) (fun z=>?_)
 ·have ah:=bf z;obtain⟨r,hr⟩:=aB ah;refine gi (aL hr) ?_;refine gl ?_;refine cV ?_;refine cV ?_;refine oM (fun ⟨h,h2⟩=>(cU (by have:=dI h2; have e:Int.toNat 0=0:=rfl; omega))) ?_;refine cV ?_;refine oM (fun ⟨h,h2⟩=>(cU (by have:=dI h2; have e:Int.toNat 0=0:=rfl; omega))) ?_;refine gC (fun z=>?_) (fun z=>?_)
  ·have h1:qd r=false:=ao6 Bool.not z;refine ai ?_;rw[kt hr h1];rfl
  have h1:qd r=true:=ao6 Bool.not z;refine ga aU ?_;exact aS J1 (i+1) ⟨ah,l7 hj hr h1⟩
 have ah:=bu hi z;refine ai ?_;rw[lO ah hj];rfl
def rE(x:Tn):Bool:=decide (x.t.num.length<=1/\x.t.den.length<=1)
def oX(m:Mk):Bool:=decide (m.x.num.length<=1/\m.x.den.length<=1/\m.y.num.length<=1/\m.y.den.length<=1)
def uS(xs:List Tn):Bool:=xs.all (fun x=>[x.t].all qd)
def wA(ps:List Mk):Bool:=ps.all (fun p=>[p.x,p.y].all qd)
def rN(l:Li):Bool:=l.bo.all (fun b=>wA b.pts)
theorem abq(l:Li)(hl:l.ok)(xs:List Tn)(gI:xs.length<=281474976710656):FP 62 [l.av,.lst 4 (xs.map Tn.av)] (bl (uS xs&&rN l)):=by
 have dU:=hl.lb;refine am func62 ?_;refine gl ?_;refine aY [2,11,12] [2] (fun(i:Nat)=>[pP 13 (i64 i)]) (fun _=>[]) (fun i=>i<=xs.length/\(xs.take i).all (fun x=>[x.t].all qd)=true) (fun i=>xs.length-i) 0 ⟨ans _,rfl⟩ ?_;rintro i ⟨hi,hj⟩ K1 J1;refine gC (fun z=>?_) (fun z=>?_)
 ·have ah:=bf z;obtain⟨x,hx⟩:=aB ah;refine gi (aL hx) ?_;refine gc (My [x.t] (by show 1<=_; omega)) ?_;refine gC (fun z=>?_) (fun z=>?_)
  ·have h1:=dP z;refine ai ?_;unfold uS;rw[kt hx h1];rfl
  have h1:=dN z;refine ga aU ?_;exact aS J1 (i+1) ⟨ah,l7 hj hx h1⟩
 have hT:uS xs=true:=lO (bu hi z) hj;refine gl ?_;refine aY [2,24,25] [2] (fun(i:Nat)=>[pP 26 (i64 i)]) (fun _=>[]) (fun i=>i<=l.bo.length/\(l.bo.take i).all (fun b=>wA b.pts)=true) (fun i=>l.bo.length-i) 0 ⟨ans _,rfl⟩ ?_;rintro i ⟨mt,pF⟩ K2 J2;refine gC (fun z=>?_) (fun z=>?_)
 ·have ah:=bf z;obtain⟨b,hb⟩:=aB ah;have pb:=(hl.bo b (ank hb)).ll;refine gi (aL hb) ?_;refine gl ?_;refine aY [2,24,25,26,31,32] [2] (fun(k:Nat)=>[pP 33 (i64 k)]) (fun _=>[]) (fun k=>k<=b.pts.length/\(b.pts.take k).all (fun p=>[p.x,p.y].all qd)=true) (fun k=>b.pts.length-k) 0 ⟨ans _,rfl⟩ ?_;rintro k ⟨hk,gM⟩ K3 J3;refine gC (fun z=>?_) (fun z=>?_)
  ·have bw:=bf z;obtain⟨p,hp⟩:=aB bw;refine gi (aL hp) ?_;refine gc (My [p.x,p.y] (by show 2<=_; omega)) ?_;refine gC (fun z=>?_) (fun z=>?_)
   ·have h1:=dP z;refine ai ?_;rw[hT];unfold rN;rw[kt hb (by unfold wA;exact kt hp h1)];rfl
   have h1:=dN z;refine ga aU ?_;exact aS J3 (k+1) ⟨bw,l7 gM hp h1⟩
  have hP:wA b.pts=true:=lO (bu hk z) gM;refine ga aU ?_;exact aS J2 (i+1) ⟨ah,l7 pF hb hP⟩
 have hL:rN l=true:=lO (bu mt z) pF;refine ai ?_;rw[hT,hL];rfl
def BG(l:Li)(xs:List Tn):Bool :=
  cond (cond (aa .neq (splitE l:Int) 0) true (aa .leq (((splitG l).length:Int)-l.dv.length) 1)) true (cond (aa .eql (((splitG l).length:Int)-l.dv.length) 2) (uS xs&&rN l) false)
def mH(l:Li)(xs:List Tn):Bool :=
  (jU l&&decide (xs.length<=20))&&(xs.all rE&&(l.bo.all (fun b=>b.pts.all oX)&&(if aM l=0 then BG l xs else true)))
theorem ael{l:Li}{n:Nat}(h:cond (!jU l) true (aa .gtr (n:Int) 20)=true):(jU l&&decide (n<=20))=false:=by
 cases hb:jU l
 ·rfl
 ·rw[hb]at h;have h1:20<n:=lY (b:=20) h;rw[ao4 oz];rfl
theorem VB{l:Li}{n:Nat}(h:cond (!jU l) true (aa .gtr (n:Int) 20)=false):jU l=true/\n<=20:=by
 cases hb:jU l
 ·rw[hb]at h;cases h
 ·rw[hb]at h;exact⟨rfl,jQ (b:=20) h⟩
theorem Qf{x:Tn}:cond (aa .gtr (x.t.num.length:Int) 1) true (aa .gtr (x.t.den.length:Int) 1)=!rE x:=by
 unfold rE;have e1:=pW (n:=x.t.num.length) (k:=1);have e2:=pW (n:=x.t.den.length) (k:=1);rw[km];refine(congr (ao6 _ e1) e2).trans ?_;rw[<- amy,<- decide_not];exact decide_eq_decide.2 oz
theorem LE{m:Mk}:cond (cond (cond (aa .gtr (m.x.num.length:Int) 1) true (aa .gtr (m.x.den.length:Int) 1)) true (aa .gtr (m.y.num.length:Int) 1)) true (aa .gtr (m.y.den.length:Int) 1)=!oX m:=by
 unfold oX;have e1:=pW (n:=m.x.num.length) (k:=1);have e2:=pW (n:=m.x.den.length) (k:=1);have e3:=pW (n:=m.y.num.length) (k:=1);have e4:=pW (n:=m.y.den.length) (k:=1);rw[km,km,km];refine(congr (ao6 _ (congr (ao6 _ (congr (ao6 _ e1) e2)) e3)) e4).trans ?_;rw[<- amy,<- amy,<- amy,<- decide_not];exact decide_eq_decide.2 oz
theorem Cm{l:Li}(hl:aM l=0):(splitG l).length<=8:=by
 unfold splitG;split
 ·exact(xJ hl).2
 ·exact ans _
theorem Tp(l:Li)(hw:l.okw)(xs:List Tn)(gI:xs.length<=281474976710656):FP 11 [l.av,.lst 4 (xs.map Tn.av)] (bl (mH l xs)):=by
 refine am func11 ?_;refine gc (LQ l hw) ?_;refine cV ?_;refine gC (fun z=>?_) (fun z=>?_)
 ·have h1:=ael z;refine ai ?_;unfold mH;rw[h1];rfl
 obtain⟨g1,g2⟩:=VB z;have hl:=Ej g1 hw;have dU:=hl.lb;refine gl ?_;refine aY [1,2,22,23] [2] (fun(i:Nat)=>[pP 24 (i64 i)]) (fun _=>[]) (fun i=>i<=xs.length/\(xs.take i).all rE=true) (fun i=>xs.length-i) 0 ⟨ans _,rfl⟩ ?_;rintro i ⟨hi,hj⟩ K1 J1;refine gC (fun z=>?_) (fun z=>?_)
 ·have ah:=bf z;obtain⟨x,hx⟩:=aB ah;refine gi (aL hx) ?_;refine gl ?_;refine cV ?_;refine gC (fun z=>?_) (fun z=>?_)
  ·have h1:rE x=false:=by rw[Qf] at z; exact dP z
   refine ai ?_;unfold mH;rw[g1,ao3 g2,kt hx h1];rfl
  have h1:rE x=true:=by rw[Qf]at z;exact dN z
  refine ga aU ?_;exact aS J1 (i+1) ⟨ah,l7 hj hx h1⟩
 have hT:xs.all rE=true:=lO (bu hi z) hj;refine gl ?_;refine aY [1,2,42,43] [2] (fun(i:Nat)=>[pP 44 (i64 i)]) (fun _=>[]) (fun i=>i<=l.bo.length/\(l.bo.take i).all (fun b=>b.pts.all oX)=true) (fun i=>l.bo.length-i) 0 ⟨ans _,rfl⟩ ?_;rintro i ⟨mt,pF⟩ K2 J2;refine gC (fun z=>?_) (fun z=>?_)
 ·have ah:=bf z;obtain⟨b,hb⟩:=aB ah;have pb:=(hl.bo b (ank hb)).ll;refine gi (aL hb) ?_;refine gl ?_;refine aY [1,2,42,43,44,49,50] [2] (fun(k:Nat)=>[pP 51 (i64 k)]) (fun _=>[]) (fun k=>k<=b.pts.length/\(b.pts.take k).all oX=true) (fun k=>b.pts.length-k) 0 ⟨ans _,rfl⟩ ?_;rintro k ⟨hk,gM⟩ K3 J3;refine gC (fun z=>?_) (fun z=>?_)
  ·have bw:=bf z;obtain⟨p,hp⟩:=aB bw;refine gi (aL hp) ?_;refine gl ?_;refine cV ?_;refine cV ?_;refine cV ?_;refine gC (fun z=>?_) (fun z=>?_)
   ·have h1:oX p=false:=by rw[LE] at z; exact dP z
    refine ai ?_;unfold mH;rw[g1,ao3 g2,hT,kt hb (kt hp h1)];rfl
   have h1:oX p=true:=by rw[LE]at z;exact dN z
   refine ga aU ?_;exact aS J3 (k+1) ⟨bw,l7 gM hp h1⟩
  have hP:b.pts.all oX=true:=lO (bu hk z) gM;refine ga aU ?_;exact aS J2 (i+1) ⟨ah,l7 pF hb hP⟩
 have hL:l.bo.all (fun b=>b.pts.all oX)=true:=lO (bu mt z) pF;refine gc (Pv l hl) ?_;refine gC (fun z=>?_) (fun z=>?_)
 ·have h1:=jI z;refine ai ?_;unfold mH;rw[g1,ao3 g2,hT,hL,aoy h1];rfl
 have h1:=jp z;have dB:=Cm h1;have xh:=hl.ld;refine gc (KG l hl h1) ?_;refine gl ?_;refine gl ?_;refine ga (fc oz) ?_;refine cm (fun _=>(abq l hl xs gI)) ?_;refine ai ?_;unfold mH BG;rw[g1,ao3 g2,hT,hL,aoz h1];rfl
section
variable{l:Li}{xs:List Tn}{s g:Nat}(W:WkC l xs s g){k:Nat}{gr:Gr}(hg:(splitG l)[k]?=some gr){j r E:Nat}{a:Aq}(Q:QInv l j r E a){n y:Nat}(ok:fL s g (n+1) y j r E=true)(hy:gr.kind≠0->0<y)
include W hg Q ok hy
theorem Yj:∃F,F<=20000000000/\xO F l k a.as false/\AB a.as/\(Lw.llq a.as.rs).length<=2/\(gr.kind≠0->F=3900000/\DyS a.as):=by
 obtain⟨⟨hE,hr,hj⟩,_⟩:=ym ok;have h3:(Lw.llq a.as.rs).length<=2:=by rw[a.llq];have:=Q.lv;omega
 have al:=Q.ab W.li (by omega:E<=50000000000) hr
 by_cases hk:gr.kind=0
 ·exact⟨E,hE,Q.sma oz (anp _) k false,al,h3,fun h=>ao5 hk h⟩
 ·have hy:=hy hk;obtain⟨y',rfl⟩:∃ y',y=y'+1:=⟨y - 1,by omega⟩
  obtain⟨⟨hj,hE,hr,hX,hJ⟩,_⟩:=y8 ok;exact⟨3900000,by omega,Q.sma oz hE k false,al,h3,fun _=>⟨rfl,QInv.dyS W hg Q hr hj⟩⟩
theorem aaz:AZ l k (cD gr xs) a.as=((fE l a.as gr (cD gr xs)).map Sv.av,kD l a.as gr (cD gr xs)):=by
 have _:=ok;have _:=hy;unfold AZ;have ox:mY l (k:Nat)=gr:=aw hg;rw[aoz (Q.dy0 W.li W.sp hg false),ox];exact Prod.ext (UJ _ _ _ _) rfl
theorem Y7:FP 153 [l.av,i64 k,(cD gr xs).av,a.av] (.tup [.lst 3 ((fE l a.as gr (cD gr xs)).map Sv.av),bU (kD l a.as gr (cD gr xs))]):=by
 obtain⟨F,hF,hs,al,h3,hR⟩:=Yj W hg Q ok hy;have ox:mY l (k:Nat)=gr:=aw hg;have h:=ZI l W.hl k (W.tn hg).1 (W.tn hg).2.1 a.as al (fun _=>h3) hF hs (fun _ h=>hR (by rw[ox]at h;exact h));rw[aaz W hg Q ok hy,a.as_av]at h;exact h
theorem ZL:∃y' j' r' E',fL s g n y' j' r' E'=true/\(y'+(if gr.kind≠0 then 1 else 0)=y)/\∀sv∈fE l a.as gr (cD gr xs),QInv l j' r' E' (a.nxt gr sv):=by
 by_cases hk:gr.kind=0
 ·exact⟨y,j,r,_,(ym ok).2,by simp[hk],Q.drv W hg ok hk⟩
 ·have hy:=hy hk;obtain⟨y',rfl⟩:∃ y',y=y'+1:=⟨y - 1,by omega⟩
  exact⟨y',j+1,_,_,(y8 ok).2,by simp[hk],Q.dy W hg ok hk⟩
end
def oJ(g:Gr):Bool:=decide (g.kind≠0)
theorem OO{F:Int->Bool}{sg:Bool}{f:Sv->List Aq×Nat}{M:Nat}:∀{S:List Sv},(∀s∈S,(f s).1.length<=M)->(gq F sg f S).1.length<=S.length*M
 |[],h=>ans _
 |s::S,h=>by
  have h1:=h s aok;have h2:=OO (F:=F) (sg:=sg) (S:=S) (fun x hx=>h x (aom _ hx));rw[ss,an0,aj9];split
  ·omega
  ·split
   ·omega
   ·split
    ·omega
    ·simp only[aoe];omega
structure WkSt(l:Li)(s g n:Nat)(a:Aq):Prop where
  st:∃j r E y,QInv l j r E a/\fL s g n y j r E=true/\((splitG l).drop a.ms.length).countP oJ<=y
  ln:a.ms.length+n=(splitG l).length
theorem WkSt.next{l:Li}{xs:List Tn}{s g n:Nat}(W:WkC l xs s g){a:Aq}(h:WkSt l s g (n+1) a):∃gr,(splitG l)[a.ms.length]?=some gr /\
  FP 153 [l.av,i64 a.ms.length,(cD gr xs).av,a.av] (.tup [.lst 3 ((fE l a.as gr (cD gr xs)).map Sv.av),bU (kD l a.as gr (cD gr xs))]) /\
  SolP (fE l a.as gr (cD gr xs)) gr.kind a.ts.length gr.bo.length/\∀sv∈fE l a.as gr (cD gr xs),WkSt l s g n (a.nxt gr sv):=by
 obtain⟨⟨j,r,E,y,Q,ok,hc⟩,hl⟩:=h;obtain⟨gr,hg⟩:=aB (l:=splitG l) (i:=a.ms.length) oz;have HS:=yV hg;rw[HS,alp]at hc
 have hy:gr.kind≠0->0<y:=fun hk=>by
  have:oJ gr=true:=ao3 hk;rw[aoz this]at hc;omega
 obtain⟨y',j',r',E',ok',ey,hQ⟩:=ZL W hg Q ok hy;refine⟨gr,hg,Y7 W hg Q ok hy,adp W hg Q ok hy,fun sv kJ=>⟨⟨j',r',E',y',hQ sv kJ,ok',?_⟩,?_⟩⟩
 ·have e:(a.nxt gr sv).ms.length=a.ms.length+1:=by show (a.ms++[sv.mode]).length=_; simp
  rw[e]
  by_cases hk:gr.kind=0
  ·have h1:oJ gr=false:=by unfold oJ; simp[hk]
   simp only[hk,ne_eq,not_true_eq_false,if_false]at ey;rw[h1]at hc;simp only[ams,if_false]at hc;omega
  ·have h1:oJ gr=true:=ao3 hk;rw[aoz hk]at ey;rw[aoz h1]at hc;omega
 ·show(a.ms++[sv.mode]).length+n=_;rw[aoe];simp only[an0,aoa];omega
theorem Fa{l:Li}{xs:List Tn}{s g:Nat}(W:WkC l xs s g)(F:Nat->Int->Bool)(sg:Bool):∀(n:Nat)(a:Aq),WkSt l s g n a->(iL F sg l xs (splitG l) n a).1.length<=2^n
 |0,a,h=>anp _
 |n+1,a,h=>by
  obtain⟨gr,hg,_,hP,hn⟩:=h.next W;unfold iL;rw[aw hg];split
  ·exact ans _
  ·have h1:=OO (F:=F a.ms.length) (sg:=sg) (f:=fun sv=>iL F sg l xs (splitG l) n (a.nxt gr sv)) (M:=2^n) (S:=fE l a.as gr (cD gr xs)) (fun sv kJ=>Fa W F sg n _ (hn sv kJ));have h2:=aod (2^n) hP.two;rw[ajq];omega
theorem F3{l:Li}{xs:List Tn}{s g:Nat}(W:WkC l xs s g)(F:Nat->Int->Bool)(sg:Bool){fo:FuncId}{caps:List AV}(hF:∀(k:Nat)(m:Int),k<(splitG l).length->FP fo ([i64 k,i64 m]++caps) (bl (F k m))) :
  ∀(n:Nat)(a:Aq),WkSt l s g n a->∀o:List Aq,o.length+2^n<=1000 ->
   Con prog 64 [.ptr 1000 0,a.av] (iM l xs (splitG l) fo caps sg 1001 (o.map Aq.av)) (bU (iL F sg l xs (splitG l) n a).2) (iM l xs (splitG l) fo caps sg 900 ((o++(iL F sg l xs (splitG l) n a).1).map Aq.av))
 |0,a,h,o,ho=>by
  have hG:(splitG l).length<=100:=by have:=Cm W.li;omega
  obtain⟨⟨j,r,E,y,Q,ok,_⟩,hl⟩:=h;obtain⟨hE,_,_⟩:=VH ok;have dU:=(dC W.li).2.2.2.1;have eg:=Q.ln;have h3:=Q.tw.three;obtain⟨D,N,hD,pc,h1,h2⟩:=Q.tw.rb
  exact Z7 oz hG oz (aaq (e:=5000000000+E) Q.tw.five (fun x hx=>by
   obtain⟨i,hi⟩:=alt hx;have mt:=(alj.1 hi).1;have h9:=Q.tw.len i mt;rw[aw hi]at h9;exact⟨Q.tw.five,.inr ⟨i,by omega,h9⟩,D,N,pc x hx,an4 h1 (cK (by have:=Q.tw.le;omega)),an4 h2 (cK (by have:=Q.tw.le;omega))⟩)
   (fun p hp=>(Q.bs p hp).up (anp _) Q.tw.five oz) oz oz oz oz)
 |n+1,a,h,o,ho=>by
  have hG:(splitG l).length<=100:=by have:=Cm W.li;omega
  have dU:=(dC W.li).2.2.2.1;have eg:=h.ln;obtain⟨j,r,E,y,Q,ok,_⟩:=h.st;obtain⟨gr,hg,hS,hP,hn⟩:=h.next W;obtain⟨hdy,ib⟩:=xq W.li (ank hg);have h2:=vO W.li;have gI:=W.ln;have hQl:=Q.ln;have jC:=ib.lb
  have key:=VQ (l:=l) (xs:=xs) (G:=splitG l) (fo:=fo) (caps:=caps) (sg:=sg) (o:=o) hg hG oz (fun hk=>by rw[gI]; exact K7 hdy hk) hS (by have:=hP.two; omega) (F:=F a.ms.length) (fun m=>hF _ m oz)
   (fun sv kJ=>XI (fun b hb=>by rw[hQl]; exact ib.b b hb) (by
    obtain⟨i,hi⟩:=alt kJ;exact(hP.md i sv hi).2.2) oz oz oz)
   (f:=fun sv=>iL F sg l xs (splitG l) n (a.nxt gr sv)) (M:=2^n) (B:=1000) (fun sv kJ=>Fa W F sg n _ (hn sv kJ)) (by have:=aod (2^n) hP.two;rw[ajq]at ho;omega)
   (fun o' ho' sv kJ=>F3 W F sg hF n _ (hn sv kJ) o' ho')
  have e:iL F sg l xs (splitG l) (n+1) a=(if kD l a.as gr (cD gr xs)≠0 then([],kD l a.as gr (cD gr xs))else gq (F a.ms.length) sg (fun sv=>iL F sg l xs (splitG l) n (a.nxt gr sv)) (fE l a.as gr (cD gr xs))):=by
   conv=>lhs;unfold iL
   rw[aw hg]
  rw[e]
  by_cases hE:kD l a.as gr (cD gr xs)≠0
  ·rw[aoz hE]at key ⊢;rw[aoz hE]at key;exact key
  ·rw[aoy hE]at key ⊢;rw[aoy hE]at key;exact key
abbrev zC(l:Li)(xs:List Tn)(G:List Gr)(fo:FuncId)(caps:List AV)(sg:Bool)(k0 k:Nat)(es:List AV):Hp :=
  [(k0,some (.box (ku l xs G fo caps sg (.ms k 3 0 es.length)))),(k,some (.row 3 es))]
def A7(k:Nat):Nat:=bif ajx k 1000 then 902 else bif ajx k 902 then 1000 else vA k
theorem CY{a b:Nat}(h:¬a=b):ajx a b=false:=by
 cases h1:ajx a b
 ·rfl
 ·exact ao5 (anw h1) h
theorem JE(k:Nat):A7 (A7 k)=k:=by
 by_cases h1:k=1000
 ·subst h1;rfl
 by_cases h2:k=902
 ·subst h2;rfl
 by_cases h3:k=1001
 ·subst h3;rfl
 by_cases h4:k=901
 ·subst h4;rfl
 have e:A7 k=k:=by simp only[A7,vA,CY h1,CY h2,CY h3,CY h4,cond_false]
 rw[e,e]
theorem adu{l:Li}{xs:List Tn}{G:List Gr}{fo:FuncId}{caps:List AV}{sg:Bool}{es:List AV}(h0:0<l.bo.length)(hl:l.bo.length<=100) :
  Con prog 65 [.ptr 902 0] (zC l xs G fo caps sg 902 901 es) (fY l).av (zC l xs G fo caps sg 902 901 es):=Con.pm JE (Xv h0 hl)
theorem VA{l:Li}{xs:List Tn}{G:List Gr}{fo:FuncId}{caps:List AV}{sg:Bool}{es es':List AV}{a:Aq}{e:Nat}
  (h:Con prog 64 [.ptr 1000 0,a.av] (iM l xs G fo caps sg 1001 es) (bU e) (iM l xs G fo caps sg 900 es')) :
  Con prog 64 [.ptr 902 0,a.av] (zC l xs G fo caps sg 902 901 es) (bU e) (zC l xs G fo caps sg 902 900 es'):=Con.pm JE h
def iR:Nat->Int->Bool:=fun _ _=>true
def sJ(F:Nat->Int->Bool)(sg:Bool)(l:Li)(xs:List Tn):List Aq×Nat:=iL F sg l xs (splitG l) (splitG l).length (fY l)
def Ge(l:Li)(xs:List Tn):List Aq×Nat:=if gd l xs≠0 then([],gd l xs)else if(sJ iR false l xs).2≠0 then([],(sJ iR false l xs).2)else sJ iR false l xs
theorem Kx{l:Li}{xs:List Tn}(h0:gd l xs=0)(fO:Con prog 63 [l.av,.lst 4 (xs.map Tn.av)] [] (.tup [CZ (gd l xs),bU (gd l xs)]) (Fl (gd l xs) l xs))(hb:0<l.bo.length)(hl:l.bo.length<=100)
  {R:List Aq×Nat} (hw:Con prog 64 [.ptr 1000 0,(fY l).av] (iM l xs (splitG l) 151 [] false 1001 []) (bU R.2) (iM l xs (splitG l) 151 [] false 900 (R.1.map Aq.av))) :
  FP 12 [l.av,.lst 4 (xs.map Tn.av)] (.tup [.lst 3 ((if R.2≠0 then[]else R.1).map Aq.av),bU R.2]):=by
 rw[h0]at fO;have fO:Con prog 63 [l.av,.lst 4 (xs.map Tn.av)] [] (.tup [.ptr 900 0,.v .nilIface]) [pP 900 (.box (ku l xs (splitG l) 151 [] false (nS)))]:=fO;refine am func12 ?_;refine gt (aR fO (b8 rfl rfl) aT rfl rfl) ?_;refine gf ?_ (77777,0);refine gW (Wk.o (sl:=[pP 6 (.ptr 900 0)]) (hp:=[pP 900 (.box (ku l xs (splitG l) 151 [] false (nS)))])) ?_ (77777,0);refine gW (Wk.rk (k:=900) (d:=902) rfl rfl) ?_ (77777,0);refine gW (Wk.virt 901 3 rfl) ?_ (77777,0);refine gW (Wk.of (sl:=[pP 6 (.ptr 902 0)]) (hp:=zC l xs (splitG l) 151 [] false 902 901 []) (.k .nil) (.cons rfl (BlkSub.bL (.cons (.refl _) (.cons (.refl _) (.cons (.refl _) (.cons (.refl _) (.cons (.refl _) (.cons (.refl _) (.cons (.refl _) (.cons (.refl _) (.cons (Sub.nM _ _ _) .nil))))))))) rfl) (.k .nil))) ?_;refine gt (Ni (adu hb hl) (dJ rfl) rfl rfl rfl rfl rfl) ?_;refine gt (aR (VA hw) (b8 rfl rfl) aT rfl rfl) ?_;refine gC (fun z=>?_) (fun z=>?_) (st2:=(77777,0))
 ·have hE:=et z;refine gR ?_;exact fa (by rw[aoz hE];exact Sub.tup (.cons (.nil _ _ _) (.cons (.refl _) .nil)))
 have hE:=d7 z;refine gW ((Wk.freeze (k:=900) rfl).trans<|Wk.of (sl:=[pP 6 (.ptr 902 0)]) (hp:=[pP 902 (.box (ku l xs (splitG l) 151 [] false (.lst 3 (R.1.map Aq.av))))]) bg (.cons rfl (BlkSub.bL (.cons (.refl _) (.cons (.refl _) (.cons (.refl _) (.cons (.refl _) (.cons (.refl _) (.cons (.refl _) (.cons (.refl _) (.cons (.refl _) (.cons (.of (cz rfl)) .nil))))))))) rfl) .nil)) ?_;refine gR ?_;exact fa (.of (by rw[aoy oz,hE];rfl))
theorem Rt.qbV{r:Rt}{e:Nat}(h:r.ok)(he:1<=e)(hn:val r.num<2^e)(hd:val r.den<2^e):Qb e r.q:=by
 by_cases h0:r.valid=true/\r.num≠[]
 ·obtain⟨h1,h2,h3,h4,h5,h6⟩:=Rt.parts h h0.1 h0.2;refine⟨?_,?_⟩
  ·have:r.q.num.natAbs=val r.num:=by rw[h1]; unfold sgn; split <;> omega
   rw[this];exact hn
  ·rw[h2];exact hd
 ·rw[Rt.zero h0];exact Qb.zero.mono he
theorem Ny{l:List Nat}{b e:Nat}(h:¬1<l.length)(hb:l.length=1->an l 0<=b)(he:b<2^e):val l<2^e:=by
 match l with
 |[]=>exact aog (ans b) he
 |[x] =>
  have h1:x<=b:=hb rfl;have h2:val [x]=x:=by simp[val]
  rw[h2];omega
 |_::_::_=>simp at h
theorem yP{r:Rt}(h:r.ok)(hl:qd r=true):Qb 9 r.q:=by
 unfold qd at hl;rw[km,km,km,amo,amw,amw,amw]at hl;obtain⟨⟨⟨h1,h2⟩,h3⟩,h4⟩:=hl;have g1:r.num.length<=1:=jQ (b:=1) h1;have g2:r.den.length<=1:=jQ (b:=1) h2;refine Rt.qbV h oz (Ny (b:=400) oz (fun hh=>?_) (by decide)) (Ny (b:=20) oz (fun hh=>?_) (by decide))
 ·rw[hh]at h3;exact jQ (b:=400) h3
 ·rw[hh]at h4;exact jQ (b:=20) h4
theorem ac0{l:Li}{xs:List Tn}(h:gd l xs=0):aM l=0/\splitE l=0/\xs.length=l.dv.length/\∀x∈xs,x.err=0:=by
 unfold gd at h;split at h
 ·rename_i h1;exact ao5 h h1
 ·rename_i h1;have h1:=anj.1 h1;unfold zU at h;split at h
  ·rename_i h2;exact ao5 h h2
  ·rename_i h2;have h2:=anj.1 h2;split at h
   ·cases h
   ·rename_i h3;exact⟨h1,h2,anj.1 h3,fun x hx=>tU h _ (al0.2 ⟨x,hx,rfl⟩)⟩
theorem OI(gs:List Gr):gs.countP oJ+gs.countP (fun g=>decide (g.kind=0))=gs.length:=by
 induction gs with
 |nil=>rfl
 |cons g gs ih =>
  rw[alp,alp,an0]
  by_cases hk:g.kind=0
  ·have h1:oJ g=false:=by unfold oJ; simp[hk]
   rw[h1];simp only[hk,decide_true,ams,if_false,if_true];omega
  ·have h1:oJ g=true:=ao3 hk;rw[h1];simp only[hk,decide_false,ams,if_false,if_true];omega
theorem yh{s g:Nat}:∀{n m y y' j r E:Nat},fL s g n y j r E=true->m<=n->y'<=y->fL s g m y' j r E=true
 |n,0,y,y',j,r,E,h,hm,hy=>by
  have h1:=GI h;exact ao3 h1
 |n+1,m+1,y,y',j,r,E,h,hm,hy=>by
  have h1:=ym h;unfold fL;simp only[anq,aos,ao0];refine⟨GI h,yh h1.2 oz hy,?_⟩
  by_cases hz:y'=0
  ·exact .inl hz
  ·right;obtain⟨y2,rfl⟩:∃ y2,y=y2+1:=⟨y - 1,by omega⟩
   have h2:=y8 h;exact⟨h2.1,yh h2.2 oz oz⟩
theorem ag0{l:Li}{xs:List Tn}(hL:mH l xs=true)(hl:l.ok)(Iw:∀x∈xs,x.t.wok)(h0:gd l xs=0):∃s g,g<=134/\WkC l xs s g/\WkSt l s g (splitG l).length (fY l):=by
 obtain⟨au,iC,eg,uJ⟩:=ac0 h0;unfold mH at hL;simp only[anq,ao0]at hL;obtain⟨⟨_,_⟩,hT,hM,hR⟩:=hL;rw[anx]at hT hM;rw[aoz au]at hR;unfold BG at hR;rw[km,km,jw]at hR;have pu:=OH au iC;have df:=vO au;have hcn:=OI (splitG l)
 have DG:∀x∈xs,x.t.ok/\Qb 32 x.t.q:=fun x hx=>by
  have h9:=hT x hx;unfold rE at h9;rw[ao0]at h9;have ho:=(Iw x hx).ok h9.1 h9.2 oz;exact⟨ho,(Rt.qb ho (k:=1) oz h9.1 h9.2).mono oz⟩
 have Au:∀(s g n y:Nat),fL s g n y 0 0 2=true->(splitG l).length<=n->(splitG l).countP oJ<=y->WkSt l s g (splitG l).length (fY l):=fun s g n y ok h1 h2 =>
  ⟨⟨0,0,2,y,FW l,yh ok h1 (anp _),h2⟩,akv _⟩
 by_cases hn:(splitG l).length<=l.dv.length+1
 ·refine⟨32,134,anp _,⟨hl,au,iC,?_,eg,fun x hx=>?_⟩,Au 32 134 3 1 PW oz oz⟩
  ·intro b hb m hm;have h9:=hM b hb;rw[anx]at h9;have h8:=h9 m hm;unfold oX at h8;rw[ao0]at h8;have ho:=(hl.bo b hb).pts m hm;exact⟨(Rt.qb ho.x (k:=1) oz h8.1 h8.2.1).mono oz,(Rt.qb ho.y (k:=1) oz h8.2.2.1 h8.2.2.2).mono oz⟩
  ·obtain⟨h1,h2⟩:=DG x hx;exact⟨h1,uJ x hx,h2.mono oz,Cb.one (qS h2),Cb.one (qM h2)⟩
 ·have Ix:(splitG l).length=l.dv.length+2/\uS xs=true/\rN l=true:=by
   simp only[aos,anq]at hR;rcases hR with(h9 |h9) |⟨h9,h8⟩
   ·rw[iC]at h9;exact ao5 h9 (by simp[aa])
   ·have:((splitG l).length:Int) - l.dv.length<=1:=by simpa[aa] using h9
    omega
   ·have:((splitG l).length:Int) - l.dv.length=2:=by simpa[aa] using h9
    exact⟨by omega,h8.1,h8.2⟩
  obtain⟨bK,Iy,uR⟩:=Ix;refine⟨9,42,by omega,⟨hl,au,iC,?_,eg,fun x hx=>?_⟩,Au 9 42 4 2 XM oz oz⟩
  ·intro b hb m hm;unfold rN at uR;rw[anx]at uR;have h9:=uR b hb;unfold wA at h9;rw[anx]at h9;have h8:=h9 m hm;simp only[all_cons,List.all_nil,Bool.and_true,anq]at h8;have ho:=(hl.bo b hb).pts m hm;exact⟨yP ho.x h8.1,yP ho.y h8.2⟩
  ·obtain⟨h1,h2⟩:=DG x hx;unfold uS at Iy;rw[anx]at Iy;have h8:=Iy x hx;simp only[all_cons,List.all_nil,Bool.and_true]at h8;have h9:=yP h1 h8;exact⟨h1,uJ x hx,h2.mono oz,Cb.one (qS h9),Cb.one (qM h9)⟩
theorem cls{l:Li}{xs:List Tn}(hL:mH l xs=true)(hl:l.ok)(Iw:∀x∈xs,x.t.wok)(h0:gd l xs=0):∃s g,WkC l xs s g/\WkSt l s g (splitG l).length (fY l):=by
 obtain⟨s,g,_,h⟩:=ag0 hL hl Iw h0;exact⟨s,g,h⟩
structure SameJ(l' l:Li):Prop where
  j:l'.jo=l.jo
  d:l'.dv=l.dv
  b:l'.bo.length=l.bo.length
section
variable{l' l:Li}(h:SameJ l' l)
include h
theorem SameJ.jointI(kind body:Int)(oth:List Bool):jointI l' kind body oth=jointI l kind body oth:=by unfold Lw.jointI;rw[h.j]
theorem SameJ.freeB(k:List Bool)(i:Int):freeB l' k i=freeB l k i:=by unfold Lw.freeB qV;rw[h.d]
theorem SameJ.drHit(k:List Bool)(i:Nat):drHit l' k i=drHit l k i:=by unfold Lw.drHit;simp only[h.d,h.jointI]
theorem SameJ.driverG(k:List Bool):driverG l' k=driverG l k:=by unfold Lw.driverG;simp only[h.d,h.jointI,h.drHit]
theorem SameJ.prHit(k:List Bool)(i j:Nat):prHit l' k i j=prHit l k i j:=by unfold Lw.prHit;simp only[h.freeB,h.jointI,h.b]
theorem SameJ.prAt(k:List Bool)(i:Nat):prAt l' k i=prAt l k i:=by unfold Lw.prAt;simp only[h.prHit,h.b]
theorem SameJ.prG(k:List Bool)(i j:Nat):prG l' k i j=prG l k i j:=by unfold Lw.prG;simp only[h.jointI,h.b]
theorem SameJ.pairG(k:List Bool):pairG l' k=pairG l k:=by unfold Lw.pairG;simp only[h.prAt,h.prG,h.b]
theorem SameJ.sgHit(k:List Bool)(i:Nat):sgHit l' k i=sgHit l k i:=by unfold Lw.sgHit;simp only[h.freeB,h.jointI]
theorem SameJ.sgG(k:List Bool)(i:Nat):sgG l' k i=sgG l k i:=by unfold Lw.sgG;simp only[h.jointI,h.j]
theorem SameJ.singleG(k:List Bool):singleG l' k=singleG l k:=by
 unfold Lw.singleG;have e:Lw.sgG l' k=Lw.sgG l k:=funext (h.sgG k);simp only[h.sgHit,h.b,e]
theorem SameJ.nextG(k:List Bool):nextG l' k=nextG l k:=by unfold Lw.nextG;rw[h.driverG,h.pairG,h.singleG]
theorem SameJ.findFrom:∀(n:Nat)(k:List Bool)(out:List Gr),findFrom l' n k out=findFrom l n k out
 |0,k,out=>rfl
 |n+1,k,out=>by
  unfold Lw.findFrom;rw[h.nextG];cases Lw.nextG l k with
  |none=>rfl
  |some g=>exact SameJ.findFrom n _ _
theorem SameJ.findG:findG l'=findG l:=by unfold Lw.findG;rw[h.b,h.findFrom]
theorem SameJ.splitE:splitE l'=splitE l:=by unfold Lw.splitE cq gE;rw[h.findG,h.b,h.j]
theorem SameJ.splitG:splitG l'=splitG l:=by unfold Lw.splitG;rw[h.splitE,h.findG]
end
def Jt.vs(j:Jt):List ao9:=[.string j.name,.int .i64 j.kind,.int .i64 j.a,.int .i64 j.point,.int .i64 j.b,.int .i64 j.on,.int .i64 j.to]
def Dr.vs(d:Dr):List ao9:=[.string d.name,.int .i64 d.body]
structure Gr.sm(g:Gr):Prop where
  b:g.bo.length<=100
  j:g.jo.length<=100
theorem abl:FP 40 [.v .nilIface] (i64 0):=by
 refine am func40 ?_;refine gC (fun z=>?_) (fun z=>?_) (st2:=(77777,0))
 ·refine ai ?_
  first |rfl |(simp;done)
 cases z
theorem afm(n:Int):FP 40 [.v (.iface 41 (.int .i64 n))] (i64 n):=by
 refine am func40 ?_;refine gf ?_;refine gs (afg (.tmp rfl) T41 rfl rfl) ?_;refine gf ?_;refine ai ?_;rfl
theorem aex(e:Nat):FP 40 [bU e] (i64 e):=by
 cases e with
 |zero=>exact abl
 |succ e=>exact afm _
theorem abi(a b:List Int)(ha:a.length<=281474976710656)(hb:b.length<=281474976710656):FP 27 [.lst 1 (a.map i64),.lst 1 (b.map i64)] (bl (decide (a=b))):=by
 refine am func27 ?_;refine gl ?_;refine gl ?_;refine gC (fun z=>?_) (fun z=>?_)
 ·have h1:=E3 z;refine ai ?_;rw[ao4 (fun e=>h1 (by rw[e]))];rfl
 have h1:=FC z;refine aY [0,1] [] (fun(i:Nat)=>[pP 5 (i64 i)]) (fun _=>[]) (fun i=>i<=a.length/\a.take i=b.take i) (fun i=>a.length-i) 0 ⟨ans _,rfl⟩ ?_;rintro i ⟨hi,hz⟩ K1 J1;refine gl ?_;refine gC (fun z=>?_) (fun z=>?_)
 ·have ah:=bf z;obtain⟨x,hx⟩:=aB ah;obtain⟨y,hy⟩:=aB (l:=b) (i:=i) oz;refine gi (aL hx) ?_;refine gi (aL hy) ?_;refine gD ?_;refine gC (fun z=>?_) (fun z=>?_)
  ·have h2:x≠y:=by simpa[aa] using z
   refine ai ?_;rw[ao4 (fun e=>h2 (by rw[e,hy]at hx;cases hx;rfl))];rfl
  have h2:x=y:=by simpa[aa]using z
  have h3:a.take (i+1)=b.take (i+1):=by rw[dR hx,dR hy,hz,h2]
  refine ga aU ?_;exact aS J1 (i+1) ⟨ah,h3⟩
 have ah:=bu hi z;have h4:a=b:=by rw[ah,an3,h1,an3]at hz;exact hz
 refine ai ?_;rw[ao3 h4];rfl
theorem aae(a:List Int)(ha:a.length<=281474976710656):FP 27 [.lst 1 (a.map i64),.lst 1 (a.map i64)] (bl true):=by
 have h:=abi a a ha ha;rw[ao3 rfl]at h;exact h
theorem Gq{F:Int->Bool}{sg:Bool}{f:Sv->List Aq×Nat}{b:Aq}:∀{S:List Sv},b∈(gq F sg f S).1->∃s∈S,F s.mode=true/\b∈(f s).1
 |[],h=>by cases h
 |s::S,h=>by
  rw[ss]at h;split at h
  ·obtain⟨x,hx,h2⟩:=Gq h;exact⟨x,aom _ hx,h2⟩
  ·rename_i hF;have hF:F s.mode=true:=by simpa using hF
   split at h
   ·exact⟨s,aok,hF,h⟩
   ·split at h
    ·exact⟨s,aok,hF,h⟩
    ·rcases anz.1 h with h |h
     ·exact⟨s,aok,hF,h⟩
     ·obtain⟨x,hx,h2⟩:=Gq h;exact⟨x,aom _ hx,h2⟩
theorem IS{l:Li}{xs:List Tn}{s g:Nat}(W:WkC l xs s g){F:Nat->Int->Bool}{sg:Bool}:∀(n:Nat)(a:Aq),WkSt l s g n a->∀b∈(iL F sg l xs (splitG l) n a).1,WkSt l s g 0 b
 |0,a,h,b,hb=>by rw[alr.1 hb];exact h
 |n+1,a,h,b,hb=>by
  obtain⟨gr,hg,_,hP,hn⟩:=h.next W;unfold iL at hb;rw[aw hg]at hb;split at hb
  ·cases hb
  ·obtain⟨sv,kJ,_,h2⟩:=Gq hb;exact IS W n _ (hn sv kJ) b h2
open Lean.Grind (CommRing)
structure Nxt(l:Li)(kw:List Bool)(g:Gr):Prop where
  b:∀x∈g.bo,kn kw x=false
  j:∀z∈g.jo,∀j,l.jo[z.toNat]?=some j->(j.a∈g.bo\/kn kw j.a=true)/\(j.b∈g.bo\/kn kw j.b=true)
theorem zD{l:Li}{kind b:Int}{kw:List Bool}{bs:List Int}(hb:b∈bs)(h:0<=jointI l kind b kw){j:Jt}(hj:l.jo[(jointI l kind b kw).toNat]?=some j) :
  (j.a∈bs\/kn kw j.a=true)/\(j.b∈bs\/kn kw j.b=true):=by
 obtain⟨i,j',e,h1,_,h2⟩:=BL h;rw[e,aol,h1]at hj;cases hj;rcases h2 with⟨e1,e2⟩ |⟨e1,e2⟩
 ·exact⟨.inl (e1▸hb),.inr e2⟩
 ·exact⟨.inr e2,.inl (e1▸hb)⟩
theorem aac{l:Li}(hl:aM l=0){kw:List Bool}{g:Gr}(h:nextG l kw=some g):Nxt l kw g:=by
 unfold nextG at h;cases h1:driverG l kw with
 |some g' =>
  rw[h1]at h;cases h;unfold driverG at h1;rw[ann]at h1;obtain⟨i,hi,rfl⟩:=h1;obtain⟨h1,h2⟩:=ii hi;unfold drHit at h2;simp only[amv,anq,ao0,amo]at h2;refine⟨CK h2.1,fun z hz j hj=>?_⟩;rw[alr.1 hz]at hj;exact zD (by simp) h2.2 hj
 |none =>
  rw[h1]at h;cases h2:pairG l kw with
  |some g' =>
   rw[h2]at h;cases h;have hf:=Pj h2;unfold pairG at h2;rw[ann]at h2;obtain⟨i,hi,h3⟩:=h2;obtain⟨_,h4⟩:=ii hi;split at h3
   ·rename_i k hk;subst h3;unfold prAt at hk;rw[ann] at hk;obtain⟨k',hk',rfl⟩:=hk;obtain⟨h5,h6⟩:=ii hk';rw[show i+1+k'=k'+(i+1) by omega] at h6;unfold prHit at h6;simp only [amv,anq,ao0] at h6;obtain⟨_,⟨j1,j2⟩,j3⟩:=h6;refine ⟨fun x hx=>vD (hf x hx),fun z hz j hj=>?_⟩;simp only [prG,an9,aob,or_false] at hz;rcases hz with rfl | rfl | rfl
    ·exact zD (by simp[prG]) j1 hj
    ·exact zD (by simp[prG]) j2 hj
    ·obtain⟨n,a2,e,pF,nC,ht⟩:=BL j3;rw[e,aol,pF]at hj;cases hj;obtain⟨i1,i2,_⟩:=dZ hl pF;have i1:=(cS i1).1;have i2:=(cS i2).1;rcases ht with⟨e1,e2⟩ |⟨e1,e2⟩
     ·rw[uB i2 oz oz]at e2;have e2:=ao1 e2;exact⟨.inl (by simp[prG,e1]),.inl (by simp[prG,e2])⟩
     ·rw[uB i1 oz oz]at e2;have e2:=ao1 e2;exact⟨.inl (by simp[prG,e2]),.inl (by simp[prG,e1])⟩
   ·rename_i hk;rw[hk]at h4;cases h4
  |none =>
   rw[h2]at h;have hf:=J8 (show singleG l kw=some g from h);have h3:singleG l kw=some g:=h;unfold singleG at h3;rw[ann]at h3;obtain⟨i,hi,rfl⟩:=h3;obtain⟨_,h4⟩:=ii hi;unfold sgHit at h4;simp only[amv,anq,ao0]at h4;obtain⟨_,j1,j2⟩:=h4;refine⟨fun x hx=>vD (hf x hx),fun z hz j hj=>?_⟩;simp only[sgG,an9,aob,or_false]at hz;rcases hz with rfl |rfl
   ·exact zD (by simp[sgG]) j1 hj
   ·exact zD (by simp[sgG]) j2 hj
def Eb(l:Li):List Bool->List Gr->Prop
  |_,[]=>True
  |kw,g::gs=>Nxt l kw g/\Eb l (bR kw g.bo) gs
theorem PG{l:Li}(hl:aM l=0):∀(n:Nat)(kw:List Bool)(out:List Gr),∃gs,(findFrom l n kw out).2=out++gs/\Eb l kw gs
 |0,kw,out=>⟨[],(append_nil _).symm,trivial⟩
 |n+1,kw,out=>by
  unfold findFrom;cases hg:nextG l kw with
  |none=>exact⟨[],(append_nil _).symm,trivial⟩
  |some g =>
   obtain⟨gs,e,h⟩:=PG hl n (bR kw g.bo) (out++[g]);refine⟨g::gs,?_,aac hl hg,h⟩;show(findFrom l n (bR kw g.bo) (out++[g])).2=_;rw[e,aor];rfl
def jv(l:Li)(gs:List Gr)(m:Nat):List Bool:=(gs.take m).foldl (fun k g=>bR k g.bo) (dh l.bo.length 0)
theorem IN{l:Li}:∀(gs:List Gr)(kw:List Bool),Eb l kw gs->∀(m:Nat)(g:Gr),gs[m]?=some g->Nxt l ((gs.take m).foldl (fun k g=>bR k g.bo) kw) g
 |[],kw,h,m,g,hg=>by simp at hg
 |g0::gs,kw,h,0,g,hg=>by
  rw[List.getElem?_cons_zero]at hg;cases hg;exact h.1
 |g0::gs,kw,h,m+1,g,hg=>by
  rw[List.getElem?_cons_succ]at hg;exact IN gs _ h.2 m g hg
theorem ah5(l:Li)(gs:List Gr)(m:Nat):(jv l gs m).length=l.bo.length:=by
 have:∀(gs:List Gr)(k:List Bool),(gs.foldl (fun k g=>bR k g.bo) k).length=k.length:=by
  intro gs
  induction gs with
  |nil=>intro k;rfl
  |cons g gs ih=>intro k;rw[foldl_cons,ih,mV]
 unfold jv;rw[this,kC]
theorem XN{l:Li}{gs:List Gr}{m:Nat}{g:Gr}(hg:gs[m]?=some g):jv l gs (m+1)=bR (jv l gs m) g.bo:=by
 unfold jv;rw[List.take_add_one,hg,List.foldl_append];rfl
theorem Bc{l:Li}{gs:List Gr}{m:Nat}{g:Gr}(hg:gs[m]?=some g)(ok:GrOk l g){b:Int}(h0:0<=b):kn (jv l gs (m+1)) b=(g.bo.any (fun x=>decide (x=b))||kn (jv l gs m) b):=by
 rw[XN hg,F8 h0 (fun x hx=>by rw[ah5];exact ok.b x hx)]
theorem Bj{l:Li}(hl:aM l=0)(hs:splitE l=0){m:Nat}{g:Gr}(hg:(splitG l)[m]?=some g):Nxt l (jv l (splitG l) m) g:=by
 obtain⟨gs,e,h⟩:=PG hl l.bo.length (dh l.bo.length 0) []
 have e2:splitG l=gs:=by
  unfold splitG findG;rw[aoz hs,e];rfl
 rw[e2]at hg ⊢;exact IN gs _ h m g hg
theorem Jc:∀(zs:List (Int×Pq))(bs:List Pq)(b:Int),(∀z∈zs,0<=z.1/\z.1≠b)->0<=b->(zs.foldl (fun k x=>k.set x.1.toNat x.2) bs).getD b.toNat aN=bs.getD b.toNat aN
 |[],bs,b,h,h0=>rfl
 |z::zs,bs,b,h,h0=>by
  rw[foldl_cons,Jc zs _ b (fun y hy=>h y (aom _ hy)) h0];obtain⟨h1,h2⟩:=h z aok;exact oh h1 h0 (Ne.symm h2)
theorem Gi{bs:List Pq}{is:List Int}{ps:List Pq}{b:Int}(h:∀x∈is,0<=x)(hb:b∉is)(h0:0<=b):(bi bs is ps).getD b.toNat aN=bs.getD b.toNat aN :=
 Jc _ _ b (fun z hz=>by
  have:=(List.of_mem_zip hz).1;exact⟨h _ this,fun e=>hb (e▸this)⟩) h0
structure WkH(l:Li)(xs:List Tn)(a:Aq):Prop where
  js:∀m g,m<a.ms.length->(splitG l)[m]?=some g->∀z∈g.jo,JH l a.ts a.bs (l.jo.getD z.toNat default)
  cs:∀b:Int,0<=b->kn (jv l (splitG l) a.ms.length) b=true->CH a.ts (a.bs.getD b.toNat aN)
  dr:∀m g,m<a.ms.length->(splitG l)[m]?=some g->g.kind=0->dE a.ts (a.bs.getD (ay g 0).toNat aN).c=qE (d8 (cD g xs).half (cD g xs).t.q)/\dE a.ts (a.bs.getD (ay g 0).toNat aN).s=qE (d6 (cD g xs).half (cD g xs).t.q)
  fr:a.bs.getD 0 aN=oC
theorem X7(T:LL):dE T []=0:=by rw[E.zero_def];exact jX _
theorem U7(T:LL):dE T [1]=1:=pO _ 1
theorem ab9{T:LL}(hp:dj T):CH T oC:=by
 unfold CH oC;dsimp only;rw[U7,X7,show(1:Et T)*1+0*0-1=0 by grind];exact(eG _ _ hp).zero
theorem Pe{n:Nat}{b:Int}(h0:0<=b)(h:kn (dh n 0) b=true):b=0:=by
 unfold dh at h;rcases Mz h with h |h
 ·rw[Gj]at h;cases h
 ·have:(0:Int).toNat=0:=rfl;omega
theorem ags(l:Li)(xs:List Tn)(hb:0<l.bo.length):WkH l xs (fY l):=by
 have e0:(fY l).bs.getD 0 aN=oC:=qg (by rw[aon];exact hb);refine⟨fun m g h=>ao5 h (Nat.not_lt_zero _),fun b h0 h=>?_,fun m g h=>ao5 h (Nat.not_lt_zero _),e0⟩;have:b=0:=Pe h0 h;subst this;show CH (fY l).ts ((fY l).bs.getD 0 aN);rw[e0];exact ab9 rS.pos
theorem A0{n e:Nat}{a:List Rat}(h:Nm n e a):a.length<=2^n:=h.nl.le
theorem Pq.ok.nq{n e:Nat}{p:Pq}(h:Pq.ok n e p):Nq n p:=⟨A0 h.c,A0 h.s,A0 h.x,A0 h.y⟩
theorem KI{ts ts' T:LL}(e:ts=ts')(h:Lf ts T):Lf ts' T:=e▸h
section
variable{l:Li}{xs:List Tn}{s g:Nat}(W:WkC l xs s g){gr:Gr}{a:Aq}(hg:(splitG l)[a.ms.length]?=some gr)
variable{j r E:Nat}(Q:QInv l j r E a)
include W hg Q
theorem WkH.step(H:WkH l xs a){sv:Sv}(hs:sv∈fE l a.as gr (cD gr xs)):WkH l xs (a.nxt gr sv):=by
 have tw:=QInv.twl W hg Q;have hq:(Lw.llq a.as.rs)=a.ts:=a.llq;obtain⟨dy,ok⟩:=W.grp hg;have N:=Bj W.li W.sp hg
 have hN:∀p∈aG a.as,Nq (Lw.llq a.as.rs).length p:=by
  intro p hp;rw[oe]at hp;rw[hq];exact(Q.bs p hp).nq
 have G:=OZ tw hN dy (fun b hb=>by
  rw[oe];have:=ok.b b hb;have:=Q.ln;omega) W.li hs
 rw[oe]at G;have L:Lf a.ts sv.ts:=KI hq G.1.lf;have js:=G.1.js;have cs:=G.1.cs;rw[oe]at js cs;have hN':∀i,Nq a.ts.length (a.bs.getD i aN):=fun i=>tY (fun p hp=>(Q.bs p hp).nq) i
 have sam:∀b:Int,0<=b->b∉gr.bo->fI a.bs (bi a.bs gr.bo sv.ps) a.ts.length b:=fun b h0 hb=>⟨Gi (fun x hx=>(ok.b x hx).1) hb h0,hN' _⟩
 have old:∀b:Int,kn (jv l (splitG l) a.ms.length) b=true->b∉gr.bo:=fun b hk hb=>by
  rw[N.b b hb]at hk;cases hk
 have fP:(a.nxt gr sv).ms.length=a.ms.length+1:=by show(a.ms++[sv.mode]).length=_;simp
 have mono:∀(k m:Nat),m+k<=a.ms.length->∀b:Int,0<=b->kn (jv l (splitG l) m) b=true->kn (jv l (splitG l) (m+k)) b=true:=by
  intro k
  induction k with
  |zero=>intro m _ b _ h;exact h
  |succ k ih =>
   intro m hm b h0 h;have h1:=ih m oz b h0 h;have hlt:m+k<(splitG l).length:=by have:=(alj.1 hg).1;omega
   obtain⟨g2,fD⟩:=aB hlt;rw[show m+(k+1)=(m+k)+1 by omega,Bc fD (W.grp fD).2 h0,h1];simp
 have jn:∀{z:Int}{jt:Jt},l.jo[z.toNat]?=some jt->0<=jt.a/\0<=jt.b:=fun hj=>by
  obtain⟨i1,i2,_⟩:=dZ W.li hj;have i1:=cS i1;have i2:=cS i2;omega
 have dl:∀m g2,m<a.ms.length->(splitG l)[m]?=some g2->∀b:Int,0<=b->(b∈g2.bo\/kn (jv l (splitG l) m) b=true)->b∉gr.bo:=by
  intro m g2 hm fD b h0 hb;refine old b ?_
  have h1:kn (jv l (splitG l) (m+1)) b=true:=by
   rw[Bc fD (W.grp fD).2 h0];rcases hb with hb |hb
   ·have:g2.bo.any (fun x=>decide (x=b))=true:=by rw[ald]; exact ⟨b,hb,by simp⟩
    rw[this];rfl
   ·rw[hb];simp
  have:=mono (a.ms.length-(m+1)) (m+1) oz b h0 h1
  rwa [show m+1+(a.ms.length-(m+1))=a.ms.length by omega]at this
 refine⟨?_,?_,?_,?_⟩
 ·intro m g2 hm fD z hz;rw[fP]at hm;show JH l sv.ts (bi a.bs gr.bo sv.ps) _
  by_cases e:m=a.ms.length
  ·subst e;rw[hg]at fD;cases fD;exact js z hz
  ·obtain⟨jt,hj⟩:=aB (l:=l.jo) (i:=z.toNat) (by have:=(W.grp fD).2.j z hz;omega);have xk:l.jo[z.toNat]?=some jt:=hj;have H1:=H.js m g2 oz fD z hz;rw[aw hj]at H1 ⊢;have N2:=Bj W.li W.sp fD;obtain⟨na,nb⟩:=N2.j z hz jt hj;obtain⟨a0,b0⟩:=jn xk;exact L.jh (sam _ a0 (dl m g2 oz fD _ a0 na)) (sam _ b0 (dl m g2 oz fD _ b0 nb)) H1
 ·intro b h0 hk;rw[fP,Bc hg ok h0]at hk;show CH sv.ts ((bi a.bs gr.bo sv.ps).getD b.toNat aN)
  by_cases hb:b∈gr.bo
  ·exact cs b hb
  ·have:gr.bo.any (fun x=>decide (x=b))=false:=by
    cases h:gr.bo.any (fun x=>decide (x=b))with
    |false=>rfl
    |true =>
     rw[ald]at h;obtain⟨x,hx,e⟩:=h;exact ao5 ((ao1 e)▸hx) hb
   rw[this,Bool.false_or]at hk;have S:=sam b h0 hb;rw[S.1];exact L.ch S.2 (H.cs b h0 hk)
 ·intro m g2 hm fD hk;rw[fP]at hm;show dE sv.ts ((bi a.bs gr.bo sv.ps).getD (ay g2 0).toNat aN).c=_/\dE sv.ts ((bi a.bs gr.bo sv.ps).getD (ay g2 0).toNat aN).s=_
  by_cases e:m=a.ms.length
  ·subst e;rw[hg]at fD;cases fD;exact G.2 hk
  ·obtain⟨h1,h2⟩:=H.dr m g2 oz fD hk
   have hb:ay g2 0∈g2.bo:=by
    have:=(W.grp fD).1;cases this with
    |drv=>exact aok
    |rrr=>exact ao5 hk (by simp)
    |pr=>exact ao5 hk (by simp)
    |rp=>exact ao5 hk (by simp)
   have h0:=((W.grp fD).2.b _ hb).1;have S:=sam _ h0 (dl m g2 oz fD _ h0 (.inl hb));obtain⟨n1,n2,_⟩:=S.2;rw[S.1,<- L.low _ n1,<- L.low _ n2,h1,h2,L.q,L.q];exact⟨rfl,rfl⟩
 ·show(bi a.bs gr.bo sv.ps).getD (0:Int).toNat aN=oC
  have h0:(0:Int)∉gr.bo:=by
   refine old 0 ?_
   have hs:=mono a.ms.length 0 oz 0 oz (by
    show kn (dh l.bo.length 0) 0=true;rw[uB oz oz (by have:=(dC W.li).2.2.2;omega)];rfl)
   rwa [akv]at hs
  rw[(sam 0 oz h0).1];exact H.fr
end
structure AqFin(l:Li)(xs:List Tn)(a:Aq):Prop where
  li:aM l=0
  lx:xs.length=l.dv.length
  xo:∀x∈xs,x.err=0/\Qb 1000 x.t.q/\x.t.ok
  tw:∃r,r<=400000000/\Tw a.ts r
  two:a.ts.length<=2
  bs:∀p∈a.bs,Pq.ok a.ts.length 3200000000 p
  ln:a.bs.length=l.bo.length
  lm:a.ms.length<=100
  js:∀j∈l.jo,JH l a.ts a.bs j
  cs:∀i,i<l.bo.length->CH a.ts (a.bs.getD i aN)
  dr:∀i d,l.dv[i]?=some d->dE a.ts (a.bs.getD d.body.toNat aN).c=qE (d8 (xs.getD i iP).half (xs.getD i iP).t.q)/\dE a.ts (a.bs.getD d.body.toNat aN).s=qE (d6 (xs.getD i iP).half (xs.getD i iP).t.q)
  fr:a.bs.getD 0 aN=oC
theorem ah1{k:List Bool}(h:(gz k).length=0){i:Nat}(hi:i<k.length):kn k (i:Int)=true:=by
 rw[AH]at h;unfold kn;rw[anm,ano (by omega:(i:Int).toNat<k.length)];show k[(i:Int).toNat]=true;cases hv:k[(i:Int).toNat]'oz with
 |true=>rfl
 |false =>
  exfalso;have hm:false∈k:=hv▸ali _;rw[<- alf]at hm;rw[hm]at h;cases h
theorem No(f:Gr->List Int):∀(gs:List Gr)(k:List Bool),(gs.foldl (fun k g=>bR k (f g)) k).length=k.length
 |[],k=>rfl
 |g::gs,k=>by rw[foldl_cons,No f gs,mV]
theorem ade{l:Li}(hs:splitE l=0):(gz (cq l)).length=0/\(gz (gE l)).length=0/\splitG l=findG l:=by
 have h9:(gz (cq l)).length+(gz (gE l)).length=0:=by
  unfold splitE at hs;split at hs
  ·assumption
  ·cases hs
 exact⟨by omega,by omega,by unfold splitG;rw[aoz hs]⟩
open Lean.Grind (CommRing)
section
variable{ts T:LL}(L:Lf ts T)
include L
theorem Lf.pp{l:Li}{bs bs':List Pq}{j:Jt}{i:Int}(tie:(j.a=i/\fI bs bs' ts.length j.b)\/(j.a≠i/\j.b=i/\fI bs bs' ts.length j.a)) :
  ae L.pos (Lw.pinP l T bs' j i).1=ae L.pos (ax T (Lw.pinP l ts bs j i).1)/\ae L.pos (Lw.pinP l T bs' j i).2=ae L.pos (ax T (Lw.pinP l ts bs j i).2):=by
 unfold Lw.pinP;rcases tie with⟨e,hs⟩ |⟨e,e2,hs⟩
 ·rw[aoz e,aoz e];exact L.pt l hs j.on
 ·rw[aoy e,aoy e];exact L.pt l hs j.point
theorem Ue{k:Int}{d:Et ts}{d':Et T}(h:ae L.pos d'=ae L.pos (ax T d)):ae L.pos (q8 k d')=ae L.pos (ax T (q8 k d)):=by
 unfold q8;split
 ·rw[L.mul,L.add,bm,di,h]
 ·rw[L.mul,bm,h]
end
structure DetH(l:Li)(a:As)(g:Gr)(s:Sv):Prop where
  lf:Lf (llq a.rs) s.ts
  sg:ao (dQ l s.ts (bi (aG a) g.bo s.ps) g)=s.mode
  rd:ae lf.pos (mc l s.ts (bi (aG a) g.bo s.ps) g)=ae lf.pos (ax s.ts (se l a g))
section
variable{l:Li}{a:As}{r:Nat}(tw:Tw (llq a.rs) r)(hN:∀p∈aG a,Nq (llq a.rs).length p)
include tw hN
theorem W9{i k z0 z1 z2:Int}{j0 j1 j2:Jt}(ne:i≠k)(t0:TieO l 0 [i,k] z0 i j0)(t1:TieO l 0 [i,k] z1 k j1)(h2:l.jo[z2.toNat]?=some j2)
  (hi:0<=i) (hk:0<=k) (eK:i.toNat<(aG a).length) (Dx:k.toNat<(aG a).length) (hn:∀j∈l.jo,0<=j.a/\0<=j.b)
  {s:Sv} (hs:s∈kN l a i k j0 j1 j2):DetH l a ⟨1,[i,k],[z0,z1,z2],0⟩ s:=by
 have e0:aj l ⟨1,[i,k],[z0,z1,z2],0⟩ 0=j0:=aw t0.hj;have e1:aj l ⟨1,[i,k],[z0,z1,z2],0⟩ 1=j1:=aw t1.hj;have e2:aj l ⟨1,[i,k],[z0,z1,z2],0⟩ 2=j2:=aw h2;have b0:ay ⟨1,[i,k],[z0,z1,z2],0⟩ 0=i:=rfl;have b1:ay ⟨1,[i,k],[z0,z1,z2],0⟩ 1=k:=rfl;unfold kN at hs;split at hs
 ·cases hs
 ·rename_i hz;obtain⟨w1,w2⟩:=wb (amx.2 hz);split at hs
  ·cases hs
  ·rename_i hc;have hc:=anj.1 hc;have geo:=Ss tw hc (NZ tw hN w1);unfold mX at hs;obtain⟨m,hm,rfl⟩:=al0.1 hs;obtain⟨x,hx⟩:=aB (alh.1 hm);have G:=geo m x hx;unfold kV;rw[aw hx];obtain⟨n0,n1⟩:=hn j0 (ank t0.hj);obtain⟨n2,n3⟩:=hn j1 (ank t1.hj);generalize hM:eP (aH l a j0 i) (aH l a j1 k) (qE (bq (ak l j2 i) (ak l j0 i))) (qE (bq (ak l j2 k) (ak l j1 k)))=M at *;obtain⟨B0,fQ⟩:∃B0,B0=oS M.ts x ⟨ak l j0 i,P2.l (aH l a j0 i),ak l j2 i⟩:=⟨_,rfl⟩
   obtain⟨B1,uQ⟩:∃B1,B1=oS M.ts x ⟨ak l j1 k,P2.l (aH l a j1 k),ak l j2 k⟩:=⟨_,rfl⟩
   have dV:bi (aG a) [i,k] [B0,B1]=((aG a).set i.toNat B0).set k.toNat B1:=rfl;have g0:(bi (aG a) [i,k] [B0,B1]).getD i.toNat aN=B0:=by rw[dV,oh hk hi ne,qg eK]
   have gn:∀b:Int,0<=b->b∉[i,k]->fI (aG a) (bi (aG a) [i,k] [B0,B1]) (llq a.rs).length b:=fun b h0 hb=>tz tw hN (by
    rw[dV,oh hk h0 (fun e=>hb (by simp[e])),oh hi h0 (fun e=>hb (by simp[e]))])
   have q0:a8 M.ts B0 (ak l j2 i)=(dE M.ts x.1,dE M.ts x.2):=by
    rw[fQ];refine(zf w1).trans ?_;unfold oP m9;refine Prod.ext ?_ ?_
    ·dsimp only;grind
    ·dsimp only;grind
   have L:=G.lf
   have P0:=L.pp (l:=l) (bs:=aG a) (bs':=bi (aG a) [i,k] [B0,B1]) (j:=j0) (i:=i) (by
    rcases t0.tie with⟨e,hb⟩ |⟨e,hb⟩
    ·exact .inl ⟨e,gn _ n1 hb⟩
    ·exact .inr ⟨fun e2=>hb (by simp[e2]),e,gn _ n0 hb⟩)
   have P1:=L.pp (l:=l) (bs:=aG a) (bs':=bi (aG a) [i,k] [B0,B1]) (j:=j1) (i:=k) (by
    rcases t1.tie with⟨e,hb⟩ |⟨e,hb⟩
    ·exact .inl ⟨e,gn _ n3 hb⟩
    ·exact .inr ⟨fun e2=>hb (by simp[e2]),e,gn _ n2 hb⟩)
   have hr:=wI L (l:=l) (g:=⟨1,[i,k],[z0,z1,z2],0⟩) (bs:=aG a) (bs':=bi (aG a) [i,k] [B0,B1]) (fun _=>by rw[e0,b0];exact P0) (fun _=>by rw[e1,b1];exact P1) (fun h=>ao5 h (by simp)) (fun _ h=>ao5 rfl h)
   have hd:=G.ex (dQ l M.ts (bi (aG a) [i,k] [B0,B1]) ⟨1,[i,k],[z0,z1,z2],0⟩) (by
    rw[Co rfl,e0,e1,e2,b0,b1,g0,q0];unfold k9 crsE aO;dsimp only;rw[bE,bm,bm,bE,bE,bE,bE,P0.1,P0.2,P1.1,P1.2,<- n7,<- n7])
   rw[fQ,uQ]at hr hd;exact⟨L,hd,by rw[sK];exact hr⟩
theorem TE{i z0 z1:Int}{j0 j:Jt}(t0:TieO l 0 [i] z0 i j0)(t1:TieO l 1 [i] z1 i j)(ha:j.a=i)(hi:0<=i)(eK:i.toNat<(aG a).length)(hn:∀j∈l.jo,0<=j.a/\0<=j.b)
  {s:Sv} (hs:s∈lh l a i j0 j):DetH l a ⟨2,[i],[z0,z1],0⟩ s:=by
 have e0:aj l ⟨2,[i],[z0,z1],0⟩ 0=j0:=aw t0.hj;have e1:aj l ⟨2,[i],[z0,z1],0⟩ 1=j:=aw t1.hj;have b0:ay ⟨2,[i],[z0,z1],0⟩ 0=i:=rfl;unfold lh at hs;split at hs
 ·cases hs
 ·rename_i hz;have w1:=vu (amx.2 hz);split at hs
  ·cases hs
  ·rename_i hc;have hc:=anj.1 hc;have geo:=YO tw (c:=aH l a j0 i) (z:=qE (bq (aE l i j.point) (ak l j0 i))) hc;unfold mX at hs;obtain⟨m,hm,rfl⟩:=al0.1 hs;obtain⟨x,hx⟩:=aB (alh.1 hm);have G:=geo m x hx;have L:=G.lf;unfold kV;rw[aw hx];obtain⟨n0,n1⟩:=hn j0 (ank t0.hj);obtain⟨n2,n3⟩:=hn j (ank t1.hj);generalize hM:eM (bh l a j.b j.on) (bh l a j.b j.to) (aH l a j0 i) (qE (bq (aE l i j.point) (ak l j0 i)))=M at *;obtain⟨B0,fQ⟩:∃B0,B0=oS M.ts x ⟨ak l j0 i,P2.l (aH l a j0 i),aE l i j.point⟩:=⟨_,rfl⟩
   have dV:bi (aG a) [i] [B0]=(aG a).set i.toNat B0:=rfl;have g0:(bi (aG a) [i] [B0]).getD i.toNat aN=B0:=by rw[dV,qg eK]
   have gn:∀b:Int,0<=b->b∉[i]->fI (aG a) (bi (aG a) [i] [B0]) (llq a.rs).length b:=fun b h0 hb=>tz tw hN (by
    rw[dV,oh hi h0 (fun e=>hb (by simp[e]))])
   have q0:a8 M.ts B0 (aE l i j.point)=(dE M.ts x.1,dE M.ts x.2):=by
    rw[fQ];refine(zf w1).trans ?_;unfold oP m9;refine Prod.ext ?_ ?_
    ·dsimp only;grind
    ·dsimp only;grind
   have mC:fI (aG a) (bi (aG a) [i] [B0]) (llq a.rs).length j.b:=by
    rcases t1.tie with⟨e,hb⟩ |⟨e,hb⟩
    ·exact gn _ n3 hb
    ·exact ao5 (by simp[ha]) hb
   have P0:=L.pp (l:=l) (bs:=aG a) (bs':=bi (aG a) [i] [B0]) (j:=j0) (i:=i) (by
    rcases t0.tie with⟨e,hb⟩ |⟨e,hb⟩
    ·exact .inl ⟨e,gn _ n1 hb⟩
    ·exact .inr ⟨fun e2=>hb (by simp[e2]),e,gn _ n0 hb⟩)
   have on:=L.pt l mC j.on;have to:=L.pt l mC j.to;have hr:=wI L (l:=l) (g:=⟨2,[i],[z0,z1],0⟩) (bs:=aG a) (bs':=bi (aG a) [i] [B0]) (fun _=>by rw[e0,b0];exact P0) (fun h=>ao5 h (by simp)) (fun _ pt=>by rw[e1];exact L.pt l mC pt) (fun _ _ h=>ao5 rfl h)
   have hd:=G.ex (dQ l M.ts (bi (aG a) [i] [B0]) ⟨2,[i],[z0,z1],0⟩) (by
    rw[Br rfl,e0,e1,b0,g0,q0];unfold db dotE aO;dsimp only;rw[di,bm,bm,bE,bE,bE,bE,P0.1,P0.2,on.1,on.2,to.1,to.2,<- n7,<- f6,<- f6])
   rw[fQ]at hr hd;exact⟨L,hd,by rw[sK];exact hr⟩
theorem GY{i z0 z1:Int}{j0 j:Jt}(t0:TieO l 0 [i] z0 i j0)(t1:TieO l 1 [i] z1 i j)(ha:j.a≠i)(hi:0<=i)(eK:i.toNat<(aG a).length)(hn:∀j∈l.jo,0<=j.a/\0<=j.b)(hv:cf (cP l i j) (cP l i j)≠0)
  (hd:ao (cH l a i j0 j)≠0) {T:LL} (L:Lf (llq a.rs) T) {q:List Rat} {n:Int} (hm:ao (dE T q)=n) :
  DetH l a ⟨3,[i],[z0,z1],0⟩ ⟨T,[sP T (er l a i j0 j) q],n⟩:=by
 have a0:aj l ⟨3,[i],[z0,z1],0⟩ 0=j0:=aw t0.hj;have a1:aj l ⟨3,[i],[z0,z1],0⟩ 1=j:=aw t1.hj;have b0:ay ⟨3,[i],[z0,z1],0⟩ 0=i:=rfl;obtain⟨n0,n1⟩:=hn j0 (ank t0.hj);obtain⟨n2,n3⟩:=hn j (ank t1.hj)
 obtain⟨tb,tn⟩:j.b=i/\j.a∉[i]:=by
  rcases t1.tie with⟨e,hb⟩ |h
  ·exact ao5 e ha
  ·exact h
 obtain⟨w,hw⟩:∃w:P2 T,w=r5 T q (er l a i j0 j).h (er l a i j0 j).d (er l a i j0 j).w:=⟨_,rfl⟩
 obtain⟨o,ho⟩:∃o:P2 T,o=(ax T (aH l a j0 i).1,ax T (aH l a j0 i).2):=⟨_,rfl⟩
 obtain⟨B0,fQ⟩:∃B0,B0=jK (cP l i j) w (ak l j0 i) o:=⟨_,rfl⟩
 have e0:sP T (er l a i j0 j) q=B0:=by rw[fQ,hw,ho];rfl
 rw[e0];have dV:bi (aG a) [i] [B0]=(aG a).set i.toNat B0:=rfl;have g0:(bi (aG a) [i] [B0]).getD i.toNat aN=B0:=by rw[dV,qg eK]
 have gn:∀b:Int,0<=b->b∉[i]->fI (aG a) (bi (aG a) [i] [B0]) (llq a.rs).length b:=fun b h0 hb=>tz tw hN (by
  rw[dV,oh hi h0 (fun e=>hb (by simp[e]))])
 have hD:ae L.pos (ax T (cH l a i j0 j))=ae L.pos (ax T (cE l a i j0 j).1)*ae L.pos (ax T (cE l a i j0 j).1)+ae L.pos (ax T (cE l a i j0 j).2)*ae L.pos (ax T (cE l a i j0 j).2):=by
  rw[<- L.mul,<- L.mul,<- L.add];rfl
 have hI:ae L.pos (iE (ax T (cH l a i j0 j)))*ae L.pos (ax T (cH l a i j0 j))=1:=tO L.pos (fun e=>hd ((L.zero _).1 e));have eh:dE T (er l a i j0 j).h=qE (cB l i j0 j):=kM _ _;have x1:w.1=(dE T q*ax T (cE l a i j0 j).1-qE (cB l i j0 j)*-ax T (cE l a i j0 j).2)*iE (ax T (cH l a i j0 j)):=by rw[hw,<- eh];rfl
 have x2:w.2=(dE T q*ax T (cE l a i j0 j).2-qE (cB l i j0 j)*ax T (cE l a i j0 j).1)*iE (ax T (cH l a i j0 j)):=by rw[hw,<- eh];rfl
 have G:=Yd hD hI (t:=ae L.pos (dE T q)) (hh:=ae L.pos (qE (cB l i j0 j))) (w1:=ae L.pos w.1) (w2:=ae L.pos w.2) (by rw[x1,bm,bE,bm,bm,JR]) (by rw[x2,bm,bE,bm,bm])
 have P0:=L.pp (l:=l) (bs:=aG a) (bs':=bi (aG a) [i] [B0]) (j:=j0) (i:=i) (by
  rcases t0.tie with⟨e,hb⟩ |⟨e,hb⟩
  ·exact .inl ⟨e,gn _ n1 hb⟩
  ·exact .inr ⟨fun e2=>hb (by simp[e2]),e,gn _ n0 hb⟩)
 have RJ:=gn _ n2 tn;have pp:=L.pt l RJ j.point;have hr:=wI L (l:=l) (g:=⟨3,[i],[z0,z1],0⟩) (bs:=aG a) (bs':=bi (aG a) [i] [B0]) (fun _=>by rw[a0,b0];exact P0) (fun h=>ao5 h (by simp)) (fun h=>ao5 h (by simp)) (fun _ _ _ pt=>by rw[a1];exact L.pt l RJ pt)
 have W1:ae L.pos (ax T (cE l a i j0 j).1)=ae L.pos (aq l T (bi (aG a) [i] [B0]) j.a j.point).1-ae L.pos (pinP l T (bi (aG a) [i] [B0]) j0 i).1:=by
  rw[pp.1,P0.1,<- L.sub,<- f6,<- n7];rfl
 have W2:ae L.pos (ax T (cE l a i j0 j).2)=ae L.pos (aq l T (bi (aG a) [i] [B0]) j.a j.point).2-ae L.pos (pinP l T (bi (aG a) [i] [B0]) j0 i).2:=by
  rw[pp.2,P0.2,<- L.sub,<- f6,<- n7];rfl
 have eon:aq l T (bi (aG a) [i] [B0]) j.b j.on=a8 T B0 (aE l i j.on):=by unfold aq;rw[tb,g0]
 have eto:aq l T (bi (aG a) [i] [B0]) j.b j.to=a8 T B0 (aE l i j.to):=by unfold aq;rw[tb,g0]
 have gg:=G0 (w:=w) hv;have v1:(qE (cP l i j).1:Et T)=qE ((aE l i j.to).1-(ak l j0 i).1)-qE ((aE l i j.on).1-(ak l j0 i).1):=by rw[<- pJ];congr 1;show(aE l i j.to).1-(aE l i j.on).1=_;grind
 have v2:(qE (cP l i j).2:Et T)=qE ((aE l i j.to).2-(ak l j0 i).2)-qE ((aE l i j.on).2-(ak l j0 i).2):=by rw[<- pJ];congr 1;show(aE l i j.to).2-(aE l i j.on).2=_;grind
 have d1:(a8 T B0 (aE l i j.to)).1-(a8 T B0 (aE l i j.on)).1=w.1:=by
  rw[fQ,sM,sM];dsimp only;have g1:=gg.1;rw[v1,v2]at g1;rw[<- g1];generalize eF (cP l i j) w=C;generalize dY (cP l i j) w=S;clear g1;grind
 have d2:(a8 T B0 (aE l i j.to)).2-(a8 T B0 (aE l i j.on)).2=w.2:=by
  rw[fQ,sM,sM];dsimp only;have g1:=gg.2;rw[v1,v2]at g1;rw[<- g1];generalize eF (cP l i j) w=C;generalize dY (cP l i j) w=S;clear g1;grind
 have lC:ae L.pos (dQ l T (bi (aG a) [i] [B0]) ⟨3,[i],[z0,z1],0⟩)=ae L.pos (dE T q):=by
  rw[CV rfl,a0,a1,b0,eon,eto];unfold db dotE aO;dsimp only;rw[d1,d2,di,bm,bm,bE,bE,<- W1,<- W2];exact G
 refine⟨L,?_,by rw[sK];exact hr⟩;show ao (dQ l T (bi (aG a) [i] [B0]) _)=n;rw[<- hm];exact me L.pos lC
theorem ahc{i z0 z1:Int}{j0 j:Jt}(t0:TieO l 0 [i] z0 i j0)(t1:TieO l 1 [i] z1 i j)(ha:j.a≠i)(hi:0<=i)(eK:i.toNat<(aG a).length)(hn:∀j∈l.jo,0<=j.a/\0<=j.b)(hv:cf (cP l i j) (cP l i j)≠0)
  {s:Sv} (hs:s∈kc l a i j0 j):DetH l a ⟨3,[i],[z0,z1],0⟩ s:=by
 unfold kc at hs;split at hs
 ·cases hs
 ·rename_i h1;split at hs
  ·cases hs
  ·rename_i h2;have hd:=vi tw h2 h1;split at hs
   ·rename_i h3;have hp:=vd tw.pos h3;have L:=vJ (bD l a i j0 j) hp;have s1:=FD (IY tw.pos h3);unfold mP at hs;obtain⟨m,hm,rfl⟩:=al0.1 hs;have hm:=alh.1 hm;unfold lM
    match m,hm with
    |0,_ =>
     exact GY tw hN t0 t1 ha hi eK hn hv hd L s1
    |1,_ =>
     refine GY tw hN t0 t1 ha hi eK hn hv hd L ?_;show ao (dE _ (sX (-bM (bD l a i j0 j))))=_;rw[fS,B8 hp,s1];rfl
    |m+2,h=>exact ao5 h (by simp)
   ·rename_i h3;have hX:ao (bD l a i j0 j)=0:=by omega
    have L:=oN (ts:=llq a.rs) tw.pos;unfold mP at hs;obtain⟨m,hm,rfl⟩:=al0.1 hs;have hm:=alh.1 hm;unfold lM;have e0:(dE (llq a.rs) []:Et (llq a.rs))=0:=by rw[E.zero_def];exact jX _
    match m,hm with
    |0,_ =>
     refine GY tw hN t0 t1 ha hi eK hn hv hd L ?_;show ao (dE _ [])=_;rw[e0];exact(eG _ _ L.pos).zero
    |m+1,h=>exact ao5 h (by simp)
theorem Zc{g:Gr}(hg:DyK l g)(jC:∀b∈g.bo,0<=b/\b.toNat<(aG a).length)(au:aM l=0){x:Tn}{s:Sv}(hs:s∈fE l a g x):DetH l a g s:=by
 have hn:∀j∈l.jo,0<=j.a/\0<=j.b:=fun j hj=>by
  obtain⟨n,hn⟩:=alt hj;obtain⟨i1,i2,_⟩:=dZ au hn;have i1:=cS i1;have i2:=cS i2;omega
 cases hg with
 | @drv b z d j dr t d0 hd hb =>
  have e:aj l ⟨0,[b],[z],d⟩ 0=j:=aw t.hj;have hs:s∈lW l a b j x:=by rw[<- e];exact hs
  unfold lW at hs;split at hs
  ·cases hs
  ·rw[alr.1 hs];have L:=oN (ts:=llq a.rs) tw.pos;have q1:(qE 1:Et (llq a.rs))=1:=rfl;refine⟨L,?_,?_⟩
   ·show ao (qE 1:Et (llq a.rs))=1;rw[q1];exact(eG _ _ tw.pos).one
   ·show ae L.pos (qE 1:Et (llq a.rs))=ae L.pos (ax (llq a.rs) (qE 1));rw[dH]
 | @rrr i k z0 z1 z2 j0 j1 j2 ne t0 t1 h0 h2 kd tie =>
  have e0:aj l ⟨1,[i,k],[z0,z1,z2],0⟩ 0=j0:=aw t0.hj;have e1:aj l ⟨1,[i,k],[z0,z1,z2],0⟩ 1=j1:=aw t1.hj;have e2:aj l ⟨1,[i,k],[z0,z1,z2],0⟩ 2=j2:=aw h2;have hs:s∈kN l a i k j0 j1 j2:=by rw[<- e0,<- e1,<- e2];exact hs
  obtain⟨b1,b2⟩:=jC i (by simp);obtain⟨b3,b4⟩:=jC k (by simp);exact W9 tw hN ne t0 t1 h2 b1 b3 b2 b4 hn hs
 | @pr i z0 z1 j0 j1 t0 t1 ha =>
  have e0:aj l ⟨2,[i],[z0,z1],0⟩ 0=j0:=aw t0.hj;have e1:aj l ⟨2,[i],[z0,z1],0⟩ 1=j1:=aw t1.hj;have hs:s∈lh l a i j0 j1:=by rw[<- e0,<- e1];exact hs
  obtain⟨b1,b2⟩:=jC i (by simp);exact TE tw hN t0 t1 ha b1 b2 hn hs
 | @rp i z0 z1 j0 j1 t0 t1 ha =>
  have e0:aj l ⟨3,[i],[z0,z1],0⟩ 0=j0:=aw t0.hj;have e1:aj l ⟨3,[i],[z0,z1],0⟩ 1=j1:=aw t1.hj;have hs:s∈kc l a i j0 j1:=by rw[<- e0,<- e1];exact hs
  obtain⟨b1,b2⟩:=jC i (by simp)
  have tb:j1.b=i:=by
   rcases t1.tie with⟨e,_⟩ |⟨e,_⟩
   ·exact ao5 e ha
   ·exact e
  exact ahc tw hN t0 t1 ha b1 b2 hn (tu au t1.hj (by rw[t1.kd];decide) tb) hs
end
section
variable{l:Li}{xs:List Tn}{s g:Nat}(W:WkC l xs s g){gr:Gr}{a:Aq}(hg:(splitG l)[a.ms.length]?=some gr)
variable{j r E:Nat}(Q:QInv l j r E a)
include W hg Q
end
section
variable{R:Type}[CommRing R]
theorem Xx{C S C' S' u v i:R}(hi:i*(u*u+v*v)=1)(h1:C*u-S*v=C'*u-S'*v)(h2:S*u+C*v=S'*u+C'*v):C=C'/\S=S':=by
 have e1:(C-C')*(u*u+v*v)=u*((C*u-S*v)-(C'*u-S'*v))+v*((S*u+C*v)-(S'*u+C'*v)):=by clear hi h1 h2;grind
 have e2:(S-S')*(u*u+v*v)=u*((S*u+C*v)-(S'*u+C'*v))-v*((C*u-S*v)-(C'*u-S'*v)):=by clear hi h1 h2 e1;grind
 rw[h1,h2]at e1 e2
 have f1:C-C'=i*((C-C')*(u*u+v*v)):=by
  have:i*((C-C')*(u*u+v*v))=(C-C')*(i*(u*u+v*v)):=by clear e1 e2 h1 h2 hi;grind
  rw[this,hi];clear e1 e2 h1 h2 hi this;grind
 have f2:S-S'=i*((S-S')*(u*u+v*v)):=by
  have:i*((S-S')*(u*u+v*v))=(S-S')*(i*(u*u+v*v)):=by clear e1 e2 h1 h2 hi f1;grind
  rw[this,hi];clear e1 e2 h1 h2 hi this f1;grind
 rw[e1]at f1;rw[e2]at f2;clear e1 e2 h1 h2 hi;constructor <;> grind
theorem FH{a b x y x' y' i:R}(hi:i*(a*a+b*b)=1)(h1:a*x+b*y=a*x'+b*y')(h2:a*y-b*x=a*y'-b*x'):x=x'/\y=y':=by
 have e1:(a*a+b*b)*x=a*(a*x+b*y)-b*(a*y-b*x):=by clear hi h1 h2;grind
 have e2:(a*a+b*b)*x'=a*(a*x'+b*y')-b*(a*y'-b*x'):=by clear hi h1 h2 e1;grind
 have e3:(a*a+b*b)*y=b*(a*x+b*y)+a*(a*y-b*x):=by clear hi h1 h2 e1 e2;grind
 have e4:(a*a+b*b)*y'=b*(a*x'+b*y')+a*(a*y'-b*x'):=by clear hi h1 h2 e1 e2 e3;grind
 rw[h1,h2,<- e2]at e1;rw[h1,h2,<- e4]at e3
 have k:∀z:R,i*((a*a+b*b)*z)=z:=fun z=>by
  have:i*((a*a+b*b)*z)=(i*(a*a+b*b))*z:=by clear hi h1 h2 e1 e2 e3 e4;grind
  rw[this,hi];clear hi h1 h2 e1 e2 e3 e4 this;grind
 exact⟨by rw[<- k x,e1,k],by rw[<- k y,e3,k]⟩
theorem ab0(p1 p2 q1 q2:R):(q1-p1)*(q1-p1)+(q2-p2)*(q2-p2)=(p1-q1)*(p1-q1)+(p2-q2)*(p2-q2):=by grind
theorem adz{a b x1 x2 v1 v2:R}(h:x1*a+x2*b=v1*a+v2*b):a*x1+b*x2=a*v1+b*v2:=by grind
theorem Vk{a b x1 x2 v1 v2:R}(h:v1*b-v2*a=x1*b-x2*a):a*x2-b*x1=a*v2-b*v1:=by grind
theorem OK(p1 p2 q1 q2 x y:R):((q1-p1)*(x-p1)+(q2-p2)*(y-p2))+((q1-p1)*(x-p1)+(q2-p2)*(y-p2)) =
  ((x-p1)*(x-p1)+(y-p2)*(y-p2))+((q1-p1)*(q1-p1)+(q2-p2)*(q2-p2))-((x-q1)*(x-q1)+(y-q2)*(y-q2)):=by grind
end
section
variable{T:LL}(hp:dj T)
include hp
theorem Pb{a b:Zq hp}(h:a+a=b+b):a=b:=by
 obtain⟨x,rfl⟩:=f0 hp a;obtain⟨y,rfl⟩:=f0 hp b;have e:ae hp (x+x)=ae hp (y+y):=h;have e1:=(ig hp).1 e;refine(ig hp).2 ?_;have e2:=x8 hp (x-y);rw[show x-y+(x-y)=x+x-(y+y) by grind]at e2;exact e2.symm.trans e1
theorem PV{D D':Et T}(hs:ao D=ao D')(h:ae hp (D*D)=ae hp (D'*D')):ae hp D=ae hp D':=by
 have H:=eG (az T) T.length hp;have e:=(ig hp).1 h;have m:=H.mul (D-D') (D+D');rw[show(D-D')*(D+D')=D*D-D'*D' by grind,e]at m;rcases Int.mul_eq_zero.1 m.symm with g |g
 ·exact(ig hp).2 g
 ·have e1:ao D=ao (-D'):=H.sub0 (x:=D) (y:=-D') (by rw[show D - -D'=D+D' by grind]; exact g);have e2:=B8 hp D';have z0:ao D'=0:=by omega
  exact((fV hp).2 (show ao D=0 by omega)).trans ((fV hp).2 z0).symm
theorem S3{k:Int}{D D':Et T}(hs:ao D=ao D')(h:ae hp (q8 k D)=ae hp (q8 k D')):ae hp D=ae hp D':=by
 unfold q8 at h;split at h
 ·have e:=PV hp (D:=D+D) (D':=D'+D') (by rw[x8 hp,x8 hp];exact hs) h;rw[di,di]at e;exact Pb hp e
 ·exact PV hp hs h
theorem Yt(k:Int)(D:Et T):ao (q8 k D)=ao D*ao D:=by
 have H:=eG (az T) T.length hp;unfold q8;split
 ·have e:ao ((D+D)*(D+D))=ao (D+D)*ao (D+D):=H.mul _ _;rw[e,x8 hp]
 ·exact H.mul _ _
theorem Vz{a b:Et T}(h:ao (a*a+b*b)=0):ao a=0/\ao b=0:=by
 have H:=eG (az T) T.length hp;have ha:=H.sq a;have hb:=H.sq b;have h:sg (az T) T.length (a*a+b*b)=0:=h
 have k:∀x:Et T,sg (az T) T.length (x*x)=0->ao x=0:=fun x hx=>by
  rw[H.mul]at hx;rcases Int.mul_eq_zero.1 hx with g |g <;> exact g
 have ea:sg (az T) T.length (a*a)=0:=by
  rcases H.cs (a*a)with g |g |g
  ·omega
  ·exact g
  ·have:=H.padd g hb;omega
 have eb:sg (az T) T.length (b*b)=0:=by rwa [H.zadd ea]at h
 exact⟨k a ea,k b eb⟩
theorem Te{q:Rat}(h:q≠0):ae hp (iE (qE q))*ae hp (qE q)=1:=by rw[<- bm,Hl h];rfl
structure Eqp(p p':Pq):Prop where
  c:ae hp (dE T p.c)=ae hp (dE T p'.c)
  s:ae hp (dE T p.s)=ae hp (dE T p'.s)
  x:ae hp (dE T p.x)=ae hp (dE T p'.x)
  y:ae hp (dE T p.y)=ae hp (dE T p'.y)
theorem Eqp.rf(p:Pq):Eqp hp p p:=⟨rfl,rfl,rfl,rfl⟩
variable{hp} in
theorem Eqp.at{p p':Pq}(h:Eqp hp p p')(m:Rat×Rat):ae hp (a8 T p m).1=ae hp (a8 T p' m).1/\ae hp (a8 T p m).2=ae hp (a8 T p' m).2:=by
 unfold a8;dsimp only;constructor <;> simp only[di,bE,bm,h.c,h.s,h.x,h.y]
theorem Ca{p p':Pq}(m n k:Rat×Rat)(h0:cf (bS n k) (bS n k)≠0)
  (h1:ae hp (a8 T p m).1=ae hp (a8 T p' m).1) (h2:ae hp (a8 T p m).2=ae hp (a8 T p' m).2)
  (h3:ae hp (a8 T p n).1-ae hp (a8 T p k).1=ae hp (a8 T p' n).1-ae hp (a8 T p' k).1)
  (h4:ae hp (a8 T p n).2-ae hp (a8 T p k).2=ae hp (a8 T p' n).2-ae hp (a8 T p' k).2):Eqp hp p p':=by
 obtain⟨e1,e2⟩:=xm hp (p:=p) k n;obtain⟨e3,e4⟩:=xm hp (p:=p') k n;rw[e1,e3]at h3;rw[e2,e4]at h4;have hi:=Te hp h0
 have en:ae hp (qE (cf (bS n k) (bS n k)))=ae hp (qE (n.1-k.1))*ae hp (qE (n.1-k.1))+ae hp (qE (n.2-k.2))*ae hp (qE (n.2-k.2)):=by
  unfold cf bS;dsimp only;rw[rc,jS,jS,di,bm,bm]
 rw[en]at hi;obtain⟨hc,hs⟩:=Xx hi h3 h4;unfold a8 at h1 h2;dsimp only at h1 h2;simp only[di,bE,bm,hc,hs]at h1 h2;refine⟨hc,hs,?_,?_⟩
 ·clear h2 h3 h4 hi en e1 e2 e3 e4;grind
 ·clear h1 h3 h4 hi en e1 e2 e3 e4;grind
end
section
variable{l:Li}{T:LL}(hp:dj T){bs ds:List Pq}
include hp
def yE(l:Li){T:LL}(hp:dj T)(g:Gr)(bs ds:List Pq):Prop:=∀z∈g.jo,∀j,l.jo[z.toNat]?=some j->(j.a∉g.bo->Eqp hp (bs.getD j.a.toNat aN) (ds.getD j.a.toNat aN))/\(j.b∉g.bo->Eqp hp (bs.getD j.b.toNat aN) (ds.getD j.b.toNat aN))
theorem kv{g:Gr}(A:yE l hp g bs ds){kd z i:Int}{j:Jt}(t:TieO l kd g.bo z i j)(hz:z∈g.jo)(hi:i∈g.bo) :
  ae hp (pinP l T bs j i).1=ae hp (pinP l T ds j i).1/\ae hp (pinP l T bs j i).2=ae hp (pinP l T ds j i).2:=by
 obtain⟨a1,a2⟩:=A z hz j t.hj;unfold pinP aq;rcases t.tie with⟨e,hb⟩ |⟨e,hb⟩
 ·rw[aoz e,aoz e];exact(a2 hb).at _
 ·have:j.a≠i:=fun h=>hb (h▸hi)
  rw[aoy this,aoy this];exact(a1 hb).at _
structure NDg(l:Li)(T:LL)(bs:List Pq)(g:Gr):Prop where
  n1:g.kind=1->ao (aC (pinP l T bs (aj l g 0) (ay g 0)) (pinP l T bs (aj l g 1) (ay g 1)))≠0/\cf (bS (ak l (aj l g 2) (ay g 0)) (ak l (aj l g 0) (ay g 0))) (bS (ak l (aj l g 2) (ay g 0)) (ak l (aj l g 0) (ay g 0)))≠0 /\
    cf (bS (ak l (aj l g 2) (ay g 1)) (ak l (aj l g 1) (ay g 1))) (bS (ak l (aj l g 2) (ay g 1)) (ak l (aj l g 1) (ay g 1)))≠0
  n2:g.kind=2->ao (a9 (aq l T bs (aj l g 1).b (aj l g 1).on) (aq l T bs (aj l g 1).b (aj l g 1).to))≠0/\cf (bS (aE l (ay g 0) (aj l g 1).point) (ak l (aj l g 0) (ay g 0))) (bS (aE l (ay g 0) (aj l g 1).point) (ak l (aj l g 0) (ay g 0)))≠0
  n3:g.kind=3->ao (db (aO (aq l T bs (aj l g 1).a (aj l g 1).point) (pinP l T bs (aj l g 0) (ay g 0))) (aO (aq l T bs (aj l g 1).a (aj l g 1).point) (pinP l T bs (aj l g 0) (ay g 0))))≠0/\cf (cP l (ay g 0) (aj l g 1)) (cP l (ay g 0) (aj l g 1))≠0
theorem Zv{g:Gr}(hg:DyK l g)(A:yE l hp g bs ds)(N:NDg l T bs g)
  (js:∀z∈g.jo,JH l T bs (l.jo.getD z.toNat default)) (cs:∀b∈g.bo,CH T (bs.getD b.toNat aN))
  (js':∀z∈g.jo,JH l T ds (l.jo.getD z.toNat default)) (cs':∀b∈g.bo,CH T (ds.getD b.toNat aN))
  (hd:ae hp (dQ l T bs g)=ae hp (dQ l T ds g))
  (dr:g.kind=0->ae hp (dE T (bs.getD (ay g 0).toNat aN).c)=ae hp (dE T (ds.getD (ay g 0).toNat aN).c)/\ae hp (dE T (bs.getD (ay g 0).toNat aN).s)=ae hp (dE T (ds.getD (ay g 0).toNat aN).s)) :
  ∀b∈g.bo,Eqp hp (bs.getD b.toNat aN) (ds.getD b.toNat aN):=by
 cases hg with
 | @drv b z d j dr0 t d0 fh hb =>
  intro b' hb';rw[alr.1 hb'];obtain⟨hc,hs⟩:=dr rfl;have hc:ae hp (dE T (bs.getD b.toNat aN).c)=ae hp (dE T (ds.getD b.toNat aN).c):=hc;have hs:ae hp (dE T (bs.getD b.toNat aN).s)=ae hp (dE T (ds.getD b.toNat aN).s):=hs;have y0:=js z (by simp);have y0':=js' z (by simp);rw[aw t.hj]at y0 y0';have o:=lT hp t.kd (jR t) y0;have o':=lT hp t.kd (jR t) y0';have pe:=kv hp A t (by simp) (by simp);have h1:=o.1.trans (pe.1.trans o'.1.symm);have h2:=o.2.trans (pe.2.trans o'.2.symm);unfold a8 at h1 h2;dsimp only at h1 h2;simp only[di,bE,bm,hc,hs]at h1 h2;refine⟨hc,hs,?_,?_⟩
  ·clear h2 hc hs;grind
  ·clear h1 hc hs;grind
 | @rrr i k z0 z1 z2 j0 j1 j2 ne t0 t1 h0 h2 kd tie =>
  have e0:aj l ⟨1,[i,k],[z0,z1,z2],0⟩ 0=j0:=aw t0.hj;have e1:aj l ⟨1,[i,k],[z0,z1,z2],0⟩ 1=j1:=aw t1.hj;have e2:aj l ⟨1,[i,k],[z0,z1,z2],0⟩ 2=j2:=aw h2;have b0:ay ⟨1,[i,k],[z0,z1,z2],0⟩ 0=i:=rfl;have b1:ay ⟨1,[i,k],[z0,z1,z2],0⟩ 1=k:=rfl;obtain⟨n1,w1,w2⟩:=N.n1 rfl;rw[e0,e1,b0,b1]at n1;rw[e2,e0,b0]at w1;rw[e2,e1,b1]at w2;have y0:=js z0 (by simp);have y1:=js z1 (by simp);have y2:=js z2 (by simp);have y0':=js' z0 (by simp);have y1':=js' z1 (by simp);have y2':=js' z2 (by simp);rw[aw t0.hj]at y0 y0';rw[aw t1.hj]at y1 y1';rw[aw h2]at y2 y2';obtain⟨x,hx⟩:∃x:P2 T,x=a8 T (bs.getD i.toNat aN) (ak l j2 i):=⟨_,rfl⟩
  obtain⟨x',hx'⟩:∃x:P2 T,x=a8 T (ds.getD i.toNat aN) (ak l j2 i):=⟨_,rfl⟩
  obtain⟨ce,d0,d1⟩:=C6 hp t0 t1 ne kd tie y0 y1 y2 (cs i (by simp)) (cs k (by simp)) hx;obtain⟨ce',d0',d1'⟩:=C6 hp t0 t1 ne kd tie y0' y1' y2' (cs' i (by simp)) (cs' k (by simp)) hx';have pe:=kv hp A t0 (by simp) (by simp);have pf:=kv hp A t1 (by simp) (by simp);have o0:=lT hp t0.kd (jR t0) y0;have o0':=lT hp t0.kd (jR t0) y0';have o1:=lT hp t1.kd (jR t1) y1;have o1':=lT hp t1.kd (jR t1) y1';rw[Co rfl,Co rfl,e0,e1,e2,b0,b1,<- hx,<- hx']at hd;unfold k9 crsE aO at hd;dsimp only at hd;simp only[bm,bE]at hd;rw[<- pe.1,<- pe.2,<- pf.1,<- pf.2]at hd;rw[<- pe.1,<- pe.2]at d0';rw[<- pf.1,<- pf.2]at d1';have hi:=tO hp n1;have em:=r6 (uw hp) (pinP l T bs j0 i) (pinP l T bs j1 k);rw[em]at hi
  have xx:ae hp x.1=ae hp x'.1/\ae hp x.2=ae hp x'.2:=by
   clear em o0 o0' o1 o1' ce ce' y0 y0' y1 y1' y2 y2'
   revert hi d0 d1 d0' d1' hd
   generalize ae hp (gS (aC (pinP l T bs j0 i) (pinP l T bs j1 k)))=I;generalize ae hp (pinP l T bs j0 i).1=p1;generalize ae hp (pinP l T bs j0 i).2=p2;generalize ae hp (pinP l T bs j1 k).1=q1;generalize ae hp (pinP l T bs j1 k).2=q2;generalize ae hp x.1=u1;generalize ae hp x.2=u2;generalize ae hp x'.1=v1;generalize ae hp x'.2=v2;intro d0 d1 d0' d1' hd hi;have dt:(q1-p1)*(u1-p1)+(q2-p2)*(u2-p2)=(q1-p1)*(v1-p1)+(q2-p2)*(v2-p2):=Pb hp (by rw[OK,OK,d0,d1,d0',d1']);have mt:I*((q1-p1)*(q1-p1)+(q2-p2)*(q2-p2))=1:=by rw[ab0];exact hi
   obtain⟨f1,f2⟩:=FH mt dt hd;clear dt mt hi hd d0 d1 d0' d1';constructor
   ·clear f2;grind
   ·clear f1;grind
  intro b hb;rcases an9.1 hb with rfl |hb
  ·refine Ca hp (ak l j0 b) (ak l j2 b) (ak l j0 b) w1 (o0.1.trans (pe.1.trans o0'.1.symm)) (o0.2.trans (pe.2.trans o0'.2.symm)) ?_ ?_
   ·rw[<- hx,<- hx',xx.1,o0.1,pe.1,o0'.1]
   ·rw[<- hx,<- hx',xx.2,o0.2,pe.2,o0'.2]
  ·rw[alr.1 hb];refine Ca hp (ak l j1 k) (ak l j2 k) (ak l j1 k) w2 (o1.1.trans (pf.1.trans o1'.1.symm)) (o1.2.trans (pf.2.trans o1'.2.symm)) ?_ ?_
   ·rw[<- ce.1,<- ce'.1,xx.1,o1.1,pf.1,o1'.1]
   ·rw[<- ce.2,<- ce'.2,xx.2,o1.2,pf.2,o1'.2]
 | @pr i z0 z1 j0 j1 t0 t1 ha =>
  have e0:aj l ⟨2,[i],[z0,z1],0⟩ 0=j0:=aw t0.hj;have e1:aj l ⟨2,[i],[z0,z1],0⟩ 1=j1:=aw t1.hj;have b0:ay ⟨2,[i],[z0,z1],0⟩ 0=i:=rfl;obtain⟨n1,w1⟩:=N.n2 rfl;rw[e1]at n1;rw[e1,e0,b0]at w1;have y0:=js z0 (by simp);have y1:=js z1 (by simp);have y0':=js' z0 (by simp);have y1':=js' z1 (by simp);rw[aw t0.hj]at y0 y0';rw[aw t1.hj]at y1 y1';obtain⟨x,hx⟩:∃x:P2 T,x=a8 T (bs.getD i.toNat aN) (aE l i j1.point):=⟨_,rfl⟩
  obtain⟨x',hx'⟩:∃x:P2 T,x=a8 T (ds.getD i.toNat aN) (aE l i j1.point):=⟨_,rfl⟩
  obtain⟨s0,d0⟩:=EP hp t0 t1 ha y0 y1 (cs i (by simp)) hx;obtain⟨s0',d0'⟩:=EP hp t0 t1 ha y0' y1' (cs' i (by simp)) hx';have pe:=kv hp A t0 (by simp) (by simp);have o0:=lT hp t0.kd (jR t0) y0;have o0':=lT hp t0.kd (jR t0) y0'
  have mC:j1.b∉[i]:=by
   rcases t1.tie with⟨_,hb⟩ |⟨_,hb⟩
   ·exact hb
   ·exact ao5 (by simp[ha]) hb
  have qb:=fun pt=>((A z1 (by simp) j1 t1.hj).2 mC).at (aE l j1.b pt)
  have qe:∀pt,ae hp (aq l T bs j1.b pt).1=ae hp (aq l T ds j1.b pt).1/\ae hp (aq l T bs j1.b pt).2=ae hp (aq l T ds j1.b pt).2:=qb;rw[Br rfl,Br rfl,e0,e1,b0,<- hx,<- hx']at hd;unfold db dotE aO at hd;dsimp only at hd;simp only[bm,bE,di]at hd;rw[<- pe.1,<- pe.2,<- (qe j1.to).1,<- (qe j1.to).2,<- (qe j1.on).1,<- (qe j1.on).2]at hd;rw[<- (qe j1.to).1,<- (qe j1.to).2,<- (qe j1.on).1,<- (qe j1.on).2]at s0';have hi:=tO hp n1
  have em:ae hp (a9 (aq l T bs j1.b j1.on) (aq l T bs j1.b j1.to))=(ae hp (aq l T bs j1.b j1.to).1-ae hp (aq l T bs j1.b j1.on).1)*(ae hp (aq l T bs j1.b j1.to).1-ae hp (aq l T bs j1.b j1.on).1)+(ae hp (aq l T bs j1.b j1.to).2-ae hp (aq l T bs j1.b j1.on).2)*(ae hp (aq l T bs j1.b j1.to).2-ae hp (aq l T bs j1.b j1.on).2):=by
   unfold a9 db dotE aO;dsimp only;simp only[bm,bE,di]
  rw[em]at hi
  have xx:ae hp x.1=ae hp x'.1/\ae hp x.2=ae hp x'.2:=by
   clear em o0 o0' y0 y0' y1 y1' d0 d0' qb qe
   revert hi s0 s0' hd
   generalize ae hp (gS (a9 (aq l T bs j1.b j1.on) (aq l T bs j1.b j1.to)))=I;generalize ae hp (pinP l T bs j0 i).1=c1;generalize ae hp (pinP l T bs j0 i).2=c2;generalize ae hp (aq l T bs j1.b j1.on).1=p1;generalize ae hp (aq l T bs j1.b j1.on).2=p2;generalize ae hp (aq l T bs j1.b j1.to).1=q1;generalize ae hp (aq l T bs j1.b j1.to).2=q2;generalize ae hp x.1=u1;generalize ae hp x.2=u2;generalize ae hp x'.1=v1;generalize ae hp x'.2=v2;intro s0 s0' hd hi;refine FH hi ?_ ?_
   ·clear s0 s0' hi;grind
   ·clear hd hi;grind
  intro b hb;rw[alr.1 hb];refine Ca hp (ak l j0 i) (aE l i j1.point) (ak l j0 i) w1 (o0.1.trans (pe.1.trans o0'.1.symm)) (o0.2.trans (pe.2.trans o0'.2.symm)) ?_ ?_
  ·rw[<- hx,<- hx',xx.1,o0.1,pe.1,o0'.1]
  ·rw[<- hx,<- hx',xx.2,o0.2,pe.2,o0'.2]
 | @rp i z0 z1 j0 j1 t0 t1 ha =>
  have e0:aj l ⟨3,[i],[z0,z1],0⟩ 0=j0:=aw t0.hj;have e1:aj l ⟨3,[i],[z0,z1],0⟩ 1=j1:=aw t1.hj;have b0:ay ⟨3,[i],[z0,z1],0⟩ 0=i:=rfl;obtain⟨n1,w1⟩:=N.n3 rfl;rw[e0,e1,b0]at n1;rw[e1,b0]at w1;have y0:=js z0 (by simp);have y1:=js z1 (by simp);have y0':=js' z0 (by simp);have y1':=js' z1 (by simp);rw[aw t0.hj]at y0 y0';rw[aw t1.hj]at y1 y1';have tb:j1.b=i:=(jR t1).resolve_left ha
  have tn:j1.a∉[i]:=by
   rcases t1.tie with⟨e,_⟩ |⟨_,hb⟩
   ·exact ao5 e ha
   ·exact hb
  obtain⟨w,hw⟩:∃w:Zq hp×Zq hp,w=(ae hp (aq l T bs j1.b j1.to).1-ae hp (aq l T bs j1.b j1.on).1,ae hp (aq l T bs j1.b j1.to).2-ae hp (aq l T bs j1.b j1.on).2):=⟨_,rfl⟩
  obtain⟨w',hw'⟩:∃w:Zq hp×Zq hp,w=(ae hp (aq l T ds j1.b j1.to).1-ae hp (aq l T ds j1.b j1.on).1,ae hp (aq l T ds j1.b j1.to).2-ae hp (aq l T ds j1.b j1.on).2):=⟨_,rfl⟩
  obtain⟨d0,c0⟩:=Hi hp t0 t1 ha y0 y1 (cs i (by simp)) hw;obtain⟨d0',c0'⟩:=Hi hp t0 t1 ha y0' y1' (cs' i (by simp)) hw';have pe:=kv hp A t0 (by simp) (by simp);have o0:=lT hp t0.kd (jR t0) y0;have o0':=lT hp t0.kd (jR t0) y0';have qa:ae hp (aq l T bs j1.a j1.point).1=ae hp (aq l T ds j1.a j1.point).1/\ae hp (aq l T bs j1.a j1.point).2=ae hp (aq l T ds j1.a j1.point).2:=((A z1 (by simp) j1 t1.hj).1 tn).at (aE l j1.a j1.point);rw[CV rfl,CV rfl,e0,e1,b0]at hd;unfold db dotE aO at hd;dsimp only at hd;simp only[bm,bE,di]at hd;have w1e:=ao6 Prod.fst hw;have w2e:=ao6 Prod.snd hw;have w1e':=ao6 Prod.fst hw';have w2e':=ao6 Prod.snd hw';dsimp only at w1e w2e w1e' w2e';rw[<- w1e,<- w2e,<- w1e',<- w2e',<- pe.1,<- pe.2,<- qa.1,<- qa.2]at hd;rw[<- pe.1,<- pe.2,<- qa.1,<- qa.2,<- c0]at c0';have hi:=tO hp n1
  have em:ae hp (db (aO (aq l T bs j1.a j1.point) (pinP l T bs j0 i)) (aO (aq l T bs j1.a j1.point) (pinP l T bs j0 i)))=(ae hp (aq l T bs j1.a j1.point).1-ae hp (pinP l T bs j0 i).1)*(ae hp (aq l T bs j1.a j1.point).1-ae hp (pinP l T bs j0 i).1)+(ae hp (aq l T bs j1.a j1.point).2-ae hp (pinP l T bs j0 i).2)*(ae hp (aq l T bs j1.a j1.point).2-ae hp (pinP l T bs j0 i).2):=by
   unfold db dotE aO;dsimp only;simp only[bm,bE,di]
  rw[em]at hi
  have ww:w.1=w'.1/\w.2=w'.2:=by
   clear em o0 o0' y0 y0' y1 y1' d0 d0' c0 w1e w2e w1e' w2e' hw hw'
   revert hi c0' hd
   generalize ae hp (gS (db (aO (aq l T bs j1.a j1.point) (pinP l T bs j0 i)) (aO (aq l T bs j1.a j1.point) (pinP l T bs j0 i))))=I;generalize ae hp (aq l T bs j1.a j1.point).1-ae hp (pinP l T bs j0 i).1=a;generalize ae hp (aq l T bs j1.a j1.point).2-ae hp (pinP l T bs j0 i).2=b;generalize w.1=x1;generalize w.2=x2;generalize w'.1=v1;generalize w'.2=v2;intro c0' hd hi;exact FH hi (adz hd) (Vk c0')
  have eto:∀(cs:List Pq) pt,aq l T cs j1.b pt=a8 T (cs.getD i.toNat aN) (aE l i pt):=fun cs pt=>by unfold aq;rw[tb]
  intro b hb;rw[alr.1 hb];refine Ca hp (ak l j0 i) (aE l i j1.to) (aE l i j1.on) w1 (o0.1.trans (pe.1.trans o0'.1.symm)) (o0.2.trans (pe.2.trans o0'.2.symm)) ?_ ?_
  ·rw[<- eto,<- eto,<- eto,<- eto,<- w1e,<- w1e'];exact ww.1
  ·rw[<- eto,<- eto,<- eto,<- eto,<- w2e,<- w2e'];exact ww.2
end
theorem C2{n:Nat}{d X:Int}(hd:d=-1\/d=0\/d=1)(hX:X=d*d)(hn:n=if X=0 then 1 else 2):∃i,i<n/\(if n=1 then 0 else 1-2*(i:Int))=d:=by
 subst hX;rcases hd with rfl |rfl |rfl
 ·rw[aoy (by decide)]at hn;subst hn;exact⟨1,by decide,by decide⟩
 ·rw[aoz (by decide)]at hn;subst hn;exact⟨0,by decide,by decide⟩
 ·rw[aoy (by decide)]at hn;subst hn;exact⟨0,by decide,by decide⟩
theorem aau{ts:LL}{p q:P2 ts}{z z2:Et ts}(hd:ao (aC p q)≠0)(hX:¬ao (bC p z q z2)<0):(eP p q z z2).ps.length=if ao (bC p z q z2)=0 then 1 else 2:=by
 unfold eP;rw[aoy hd,aoy hX];split <;> rfl
theorem ac6{ts:LL}{p q c:P2 ts}{z:Et ts}(hd:ao (a9 p q)≠0)(hX:ao (aW p q c z)≠-1):(eM p q c z).ps.length=if ao (aW p q c z)=0 then 1 else 2:=by
 unfold eM;rw[aoy hd,aoy hX];split <;> rfl
theorem aa7{ts:LL}(hp:dj ts)(x:Et ts):ao x=-1\/ao x=0\/ao x=1:=(eG _ _ hp).cs x
theorem ac5{d:Int}(hd:d=-1\/d=0\/d=1):0<=d*d:=by
 rcases hd with rfl |rfl |rfl <;> decide
section
variable{ts T:LL}(L:Lf ts T)
include L
theorem Lf.z(hp:dj ts){u v:Et ts}(h:ae hp u=ae hp v):ae L.pos (ax T u)=ae L.pos (ax T v):=by
 have e1:=(fV L.pos).2 ((L.zero _).2 ((ig hp).1 h));rw[L.sub]at e1
 revert e1
 generalize ae L.pos (ax T u)=a;generalize ae L.pos (ax T v)=b;intro e1;grind
theorem Eqp.up{hp:dj ts}{p p':Pq}(n1:Nq ts.length p)(n2:Nq ts.length p')(h:Eqp hp p p'):Eqp L.pos p p':=by
 obtain⟨a1,a2,a3,a4⟩:=n1;obtain⟨b1,b2,b3,b4⟩:=n2;refine⟨?_,?_,?_,?_⟩
 ·rw[<- L.low _ a1,<- L.low _ b1];exact L.z hp h.c
 ·rw[<- L.low _ a2,<- L.low _ b2];exact L.z hp h.s
 ·rw[<- L.low _ a3,<- L.low _ b3];exact L.z hp h.x
 ·rw[<- L.low _ a4,<- L.low _ b4];exact L.z hp h.y
theorem Lf.trans{U:LL}(M:Lf T U):Lf ts U:=by
 have e:∀y:Et ts,ax U (ax T y)=ax U y:=fun y=>by
  show ax U (dE T (sX y))=dE U (sX y);exact M.low _ (an4 (ek _ _).le (akl oz L.len))
 have hm:Hm (fun y:Et ts=>ae M.pos (ax U (ax T y))):=by
  refine⟨fun x y=>?_,fun x y=>?_,fun x=>?_,?_,fun x hx=>?_,fun x=>?_⟩
  ·show ae M.pos (ax U (ax T (x+y)))=_;rw[L.ad,M.ad,di]
  ·show ae M.pos (ax U (ax T (x*y)))=_;rw[L.mu,M.mu,bm]
  ·have h:=M.z L.pos (L.hm.neg x);show ae M.pos (ax U (ax T (-x)))=-ae M.pos (ax U (ax T x));have h2:ae M.pos (ax U (-ax T x))=-ae M.pos (ax U (ax T x)):=M.hm.neg _;rw[<- h2];exact M.z L.pos (L.hm.neg x)
  ·have h:=M.z L.pos (u:=ax T 1) (v:=1) L.hm.one;show ae M.pos (ax U (ax T 1))=1;rw[h];exact M.hm.one
  ·have h:=M.z L.pos (u:=ax T (iE x)*ax T x) (v:=1) (by rw[bm];exact L.hm.inv x hx);rw[M.mu,bm]at h;exact h.trans M.hm.one
  ·show ae M.pos (ax U (ax T x))=0↔_;have h:=M.hm.zero (ax T x);rw[L.sg]at h;exact h
 refine⟨M.pos,?_,fun l h=>?_,fun q=>?_,an4 L.len M.len,fun y=>?_,fun x y=>?_,fun x y=>?_⟩
 ·have e2:(fun y:Et ts=>ae M.pos (ax U (ax T y)))=fun y=>ae M.pos (ax U y):=funext fun y=>by rw[e]
  rw[<- e2];exact hm
 ·rw[<- e,L.low l h];exact M.low l (an4 h (akl oz L.len))
 ·rw[<- e,L.q,M.q]
 ·rw[<- e,M.sg,L.sg]
 ·rw[<- e,<- e,<- e,L.ad,M.ad]
 ·rw[<- e,<- e,<- e,L.mu,M.mu]
end
theorem MX{n m:Nat}{p:Pq}(h:Nq n p)(hm:n<=m):Nq m p:=by
 have h2:2^n<=2^m:=akl oz hm;exact⟨an4 h.1 h2,an4 h.2.1 h2,an4 h.2.2.1 h2,an4 h.2.2.2 h2⟩
theorem aha{ts:LL}(hp:dj ts){p q p' q':P2 ts}(h1:ae hp p.1=ae hp p'.1)(h2:ae hp p.2=ae hp p'.2)(h3:ae hp q.1=ae hp q'.1)(h4:ae hp q.2=ae hp q'.2):ae hp (aC p q)=ae hp (aC p' q'):=by
 have a:=r6 (uw hp) p q;have b:=r6 (uw hp) p' q';rw[a,b,h1,h2,h3,h4]
theorem rL{ts:LL}(hp:dj ts)(p q:P2 ts):ae hp (db (aO p q) (aO p q))=(ae hp p.1-ae hp q.1)*(ae hp p.1-ae hp q.1)+(ae hp p.2-ae hp q.2)*(ae hp p.2-ae hp q.2):=by
 unfold db dotE aO;dsimp only;simp only[bm,bE,di]
section
variable{l:Li}{a:As}{r:Nat}(tw:Tw (llq a.rs) r){ds:List Pq}
include tw
theorem abv{g:Gr}(hg:DyK l g)(au:aM l=0){x:Tn}(he:kD l a g x=0)(A:yE l tw.pos g (aG a) ds)
  (js:∀z∈g.jo,JH l (llq a.rs) ds (l.jo.getD z.toNat default)) (cs:∀b∈g.bo,CH (llq a.rs) (ds.getD b.toNat aN)) :
  (∃s∈fE l a g x,s.mode=ao (dQ l (llq a.rs) ds g))/\NDg l (llq a.rs) ds g:=by
 have hp:=tw.pos;have Iz:=G8 hp hg js cs;have hδ:=aa7 hp (dQ l (llq a.rs) ds g)
 have aja:ae hp (se l a g)=ae hp (mc l (llq a.rs) ds g):=by
  have h:=wI (oN hp) (l:=l) (g:=g) (bs:=ds) (bs':=aG a);simp only[dH]at h;rw[sK];cases hg with
  |drv t d0 hd hb=>rfl
  | @rrr i k z0 z1 z2 j0 j1 j2 ne t0 t1 h0 h2 kd tie =>
   have e0:aj l ⟨1,[i,k],[z0,z1,z2],0⟩ 0=j0:=aw t0.hj;have e1:aj l ⟨1,[i,k],[z0,z1,z2],0⟩ 1=j1:=aw t1.hj;refine h (fun _=>?_) (fun _=>?_) (fun h=>ao5 h (by simp)) (fun _ h=>ao5 rfl h)
   ·rw[e0];exact kv hp A t0 (by simp) (by simp[ay])
   ·rw[e1];exact kv hp A t1 (by simp) (by simp[ay])
  | @pr i z0 z1 j0 j1 t0 t1 ha =>
   have e0:aj l ⟨2,[i],[z0,z1],0⟩ 0=j0:=aw t0.hj;have e1:aj l ⟨2,[i],[z0,z1],0⟩ 1=j1:=aw t1.hj;refine h (fun _=>?_) (fun h=>ao5 h (by simp)) (fun _ pt=>?_) (fun _ _ h=>ao5 rfl h)
   ·rw[e0];exact kv hp A t0 (by simp) (by simp[ay])
   ·rw[e1]
    have mC:j1.b∉[i]:=by
     rcases t1.tie with⟨_,hb⟩ |⟨_,hb⟩
     ·exact hb
     ·exact ao5 (by simp[ha]) hb
    exact((A z1 (by simp) j1 t1.hj).2 mC).at _
  | @rp i z0 z1 j0 j1 t0 t1 ha =>
   have e0:aj l ⟨3,[i],[z0,z1],0⟩ 0=j0:=aw t0.hj;have e1:aj l ⟨3,[i],[z0,z1],0⟩ 1=j1:=aw t1.hj;refine h (fun _=>?_) (fun h=>ao5 h (by simp)) (fun h=>ao5 h (by simp)) (fun _ _ _ pt=>?_)
   ·rw[e0];exact kv hp A t0 (by simp) (by simp[ay])
   ·rw[e1]
    have tn:j1.a∉[i]:=by
     rcases t1.tie with⟨e,_⟩ |⟨_,hb⟩
     ·exact ao5 e ha
     ·exact hb
    exact((A z1 (by simp) j1 t1.hj).1 tn).at _
 have hX:ao (se l a g)=ao (dQ l (llq a.rs) ds g)*ao (dQ l (llq a.rs) ds g):=by
  rw[me hp aja,<- me hp Iz,Yt hp]
 generalize pu:ao (dQ l (llq a.rs) ds g)=δ at hδ hX ⊢;have ia:=ac5 hδ;cases hg with
 | @drv b z d j dr t d0 hd hb =>
  have e:aj l ⟨0,[b],[z],d⟩ 0=j:=aw t.hj;refine⟨?_,fun h=>ao5 h (by simp),fun h=>ao5 h (by simp),fun h=>ao5 h (by simp)⟩;have he:(no l a b (aj l ⟨0,[b],[z],d⟩ 0) x).2=0:=he;unfold no at he;split at he
  ·rename_i h;exact ao5 he h
  ·rename_i h;refine⟨⟨llq a.rs,[oF l a b (aj l ⟨0,[b],[z],d⟩ 0) x],1⟩,?_,?_⟩
   ·show _∈lW l a b (aj l ⟨0,[b],[z],d⟩ 0) x;unfold lW;rw[aoy h];exact alr.2 rfl
   ·show(1:Int)=δ;rw[<- pu];have e1:dQ l (llq a.rs) ds ⟨0,[b],[z],d⟩=1:=rfl;rw[e1];exact(eG _ _ hp).one.symm
 | @rrr i k z0 z1 z2 j0 j1 j2 ne t0 t1 h0 h2 kd tie =>
  have e0:aj l ⟨1,[i,k],[z0,z1,z2],0⟩ 0=j0:=aw t0.hj;have e1:aj l ⟨1,[i,k],[z0,z1,z2],0⟩ 1=j1:=aw t1.hj;have e2:aj l ⟨1,[i,k],[z0,z1,z2],0⟩ 2=j2:=aw h2;have b0:ay ⟨1,[i,k],[z0,z1,z2],0⟩ 0=i:=rfl;have b1:ay ⟨1,[i,k],[z0,z1,z2],0⟩ 1=k:=rfl;have he:(kE l a i k (aj l ⟨1,[i,k],[z0,z1,z2],0⟩ 0) (aj l ⟨1,[i,k],[z0,z1,z2],0⟩ 1) (aj l ⟨1,[i,k],[z0,z1,z2],0⟩ 2)).2=0:=he;rw[e0,e1,e2]at he
  have br:se l a ⟨1,[i,k],[z0,z1,z2],0⟩=bC (aH l a j0 i) (qE (bq (ak l j2 i) (ak l j0 i))) (aH l a j1 k) (qE (bq (ak l j2 k) (ak l j1 k))):=by
   rw[sK,N6 rfl,e0,e1,e2,b0,b1,<- n7,<- n7]
  rw[br]at hX;have y0:=js z0 (by simp);have y1:=js z1 (by simp);have y2:=js z2 (by simp);rw[aw t0.hj]at y0;rw[aw t1.hj]at y1;rw[aw h2]at y2;obtain⟨_,d0,d1⟩:=C6 hp t0 t1 ne kd tie y0 y1 y2 (cs i (by simp)) (cs k (by simp)) rfl;have pe:=kv hp A t0 (by simp) (by simp);have pf:=kv hp A t1 (by simp) (by simp);rw[<- n7]at pe pf;unfold kE at he;split at he
  ·exact ao5 he (by decide)
  ·rename_i hz;obtain⟨w1,w2⟩:=wb (amx.2 hz);split at he
   ·rename_i hc;exact ao5 he hc
   ·rename_i hc;have hc:=anj.1 hc
    have df:ao (aC (aH l a j0 i) (aH l a j1 k))≠0:=by
     intro h9;unfold gh mJ at hc;rw[aoz h9]at hc;have hs:ao ((aH l a j0 i).1-(aH l a j1 k).1)=0/\ao ((aH l a j0 i).2-(aH l a j1 k).2)=0:=Vz hp h9;have f1:=(ig hp).2 hs.1;have f2:=(ig hp).2 hs.2
     have ez:ae hp (qE (bq (ak l j2 i) (ak l j0 i)))=ae hp (qE (bq (ak l j2 k) (ak l j1 k))):=by
      rw[<- d0,<- d1,<- pe.1,<- pe.2,<- pf.1,<- pf.2,f1,f2]
     have hq:0<=cf (bS (ak l j2 i) (ak l j0 i)) (bS (ak l j2 i) (ak l j0 i)):=Rat.add_nonneg (pN _) (pN _)
     have nI:0<bq (ak l j2 i) (ak l j0 i):=by
      rcases Rat.le_iff_lt_or_eq.1 hq with g |g
      ·exact g
      ·exact ao5 g.symm w1
     have da:0<ao (qE (bq (ak l j2 i) (ak l j0 i)):Et (llq a.rs)):=by rw[yB,yZ nI];decide
     rw[aoz ⟨(ig hp).1 ez,da⟩]at hc;exact ao5 hc (by decide)
    have bK:=aau (z:=qE (bq (ak l j2 i) (ak l j0 i))) (z2:=qE (bq (ak l j2 k) (ak l j1 k))) df (by rw[hX];omega);obtain⟨m,hm,nH⟩:=C2 hδ hX bK;refine⟨⟨kV (eP (aH l a j0 i) (aH l a j1 k) (qE (bq (ak l j2 i) (ak l j0 i))) (qE (bq (ak l j2 k) (ak l j1 k)))) [⟨ak l j0 i,P2.l (aH l a j0 i),ak l j2 i⟩,⟨ak l j1 k,P2.l (aH l a j1 k),ak l j2 k⟩] m,?_,nH⟩,⟨fun _=>?_,fun h=>ao5 h (by simp),fun h=>ao5 h (by simp)⟩⟩
    ·show _∈kN l a i k (aj l ⟨1,[i,k],[z0,z1,z2],0⟩ 0) (aj l ⟨1,[i,k],[z0,z1,z2],0⟩ 1) (aj l ⟨1,[i,k],[z0,z1,z2],0⟩ 2);rw[e0,e1,e2];unfold kN;rw[aoy hz,aoy (by rw[hc];simp)];exact al0.2 ⟨m,alh.2 hm,rfl⟩
    ·rw[e0,e1,e2,b0,b1];refine⟨?_,w1,w2⟩;rw[<- me hp (aha hp pe.1 pe.2 pf.1 pf.2)];exact df
 | @pr i z0 z1 j0 j1 t0 t1 ha =>
  have e0:aj l ⟨2,[i],[z0,z1],0⟩ 0=j0:=aw t0.hj;have e1:aj l ⟨2,[i],[z0,z1],0⟩ 1=j1:=aw t1.hj;have b0:ay ⟨2,[i],[z0,z1],0⟩ 0=i:=rfl;have he:(ki l a i (aj l ⟨2,[i],[z0,z1],0⟩ 0) (aj l ⟨2,[i],[z0,z1],0⟩ 1)).2=0:=he;rw[e0,e1]at he
  have br:se l a ⟨2,[i],[z0,z1],0⟩=aW (bh l a j1.b j1.on) (bh l a j1.b j1.to) (aH l a j0 i) (qE (bq (aE l i j1.point) (ak l j0 i))):=by
   rw[sK,IC rfl,e0,e1,b0,<- n7,<- f6,<- f6]
  rw[br]at hX
  have mC:j1.b∉[i]:=by
   rcases t1.tie with⟨_,hb⟩ |⟨_,hb⟩
   ·exact hb
   ·exact ao5 (by simp[ha]) hb
  have qe:∀pt,ae hp (aq l (llq a.rs) (aG a) j1.b pt).1=ae hp (aq l (llq a.rs) ds j1.b pt).1/\ae hp (aq l (llq a.rs) (aG a) j1.b pt).2=ae hp (aq l (llq a.rs) ds j1.b pt).2:=fun pt=>((A z1 (by simp) j1 t1.hj).2 mC).at _
  unfold ki at he;split at he
  ·exact ao5 he (by decide)
  ·rename_i hz;have w1:=vu (amx.2 hz);split at he
   ·rename_i hc;exact ao5 he hc
   ·rename_i hc;have hc:=anj.1 hc
    have df:ao (a9 (bh l a j1.b j1.on) (bh l a j1.b j1.to))≠0:=by
     intro h9;unfold f7 at hc;rw[aoz h9]at hc;exact ao5 hc (by decide)
    have bK:=ac6 (c:=aH l a j0 i) (z:=qE (bq (aE l i j1.point) (ak l j0 i))) df (by rw[hX];omega);obtain⟨m,hm,nH⟩:=C2 hδ hX bK;refine⟨⟨kV (eM (bh l a j1.b j1.on) (bh l a j1.b j1.to) (aH l a j0 i) (qE (bq (aE l i j1.point) (ak l j0 i)))) [⟨ak l j0 i,P2.l (aH l a j0 i),aE l i j1.point⟩] m,?_,nH⟩,⟨fun h=>ao5 h (by simp),fun _=>?_,fun h=>ao5 h (by simp)⟩⟩
    ·show _∈lh l a i (aj l ⟨2,[i],[z0,z1],0⟩ 0) (aj l ⟨2,[i],[z0,z1],0⟩ 1);rw[e0,e1];unfold lh;rw[aoy hz,aoy (by rw[hc];simp)];exact al0.2 ⟨m,alh.2 hm,rfl⟩
    ·rw[e0,e1,b0];refine⟨?_,w1⟩
     have e:ae hp (a9 (aq l (llq a.rs) ds j1.b j1.on) (aq l (llq a.rs) ds j1.b j1.to))=ae hp (a9 (bh l a j1.b j1.on) (bh l a j1.b j1.to)):=by
      refine(rL hp (aq l (llq a.rs) ds j1.b j1.to) (aq l (llq a.rs) ds j1.b j1.on)).trans (Eq.trans ?_ (rL hp (bh l a j1.b j1.to) (bh l a j1.b j1.on)).symm);rw[f6,f6,(qe j1.on).1,(qe j1.on).2,(qe j1.to).1,(qe j1.to).2]
     rw[me hp e];exact df
 | @rp i z0 z1 j0 j1 t0 t1 ha =>
  have e0:aj l ⟨3,[i],[z0,z1],0⟩ 0=j0:=aw t0.hj;have e1:aj l ⟨3,[i],[z0,z1],0⟩ 1=j1:=aw t1.hj;have b0:ay ⟨3,[i],[z0,z1],0⟩ 0=i:=rfl;have he:(jg l a i (aj l ⟨3,[i],[z0,z1],0⟩ 0) (aj l ⟨3,[i],[z0,z1],0⟩ 1)).2=0:=he;rw[e0,e1]at he
  have br:se l a ⟨3,[i],[z0,z1],0⟩=bD l a i j0 j1:=by
   rw[sK,NA rfl,e0,e1,b0,<- n7,<- f6];rfl
  rw[br]at hX;have tb:j1.b=i:=(jR t1).resolve_left ha
  have tn:j1.a∉[i]:=by
   rcases t1.tie with⟨e,_⟩ |⟨_,hb⟩
   ·exact ao5 e ha
   ·exact hb
  have pe:=kv hp A t0 (by simp) (by simp);have qa:ae hp (aq l (llq a.rs) (aG a) j1.a j1.point).1=ae hp (aq l (llq a.rs) ds j1.a j1.point).1/\ae hp (aq l (llq a.rs) (aG a) j1.a j1.point).2=ae hp (aq l (llq a.rs) ds j1.a j1.point).2:=((A z1 (by simp) j1 t1.hj).1 tn).at _;unfold jg at he;split at he
  ·exact ao5 he (by decide)
  ·rename_i hz;have je:¬ ao (bD l a i j0 j1)<0:=by rw[hX]; omega
   have hd:=vi tw je hz
   have hN3:NDg l (llq a.rs) ds ⟨3,[i],[z0,z1],0⟩:=by
    refine⟨fun h=>ao5 h (by simp),fun h=>ao5 h (by simp),fun _=>?_⟩;rw[e0,e1,b0];refine⟨?_,tu au t1.hj (by rw[t1.kd];decide) tb⟩
    have e:ae hp (db (aO (aq l (llq a.rs) ds j1.a j1.point) (pinP l (llq a.rs) ds j0 i)) (aO (aq l (llq a.rs) ds j1.a j1.point) (pinP l (llq a.rs) ds j0 i)))=ae hp (cH l a i j0 j1):=by
     refine(rL hp (aq l (llq a.rs) ds j1.a j1.point) (pinP l (llq a.rs) ds j0 i)).trans (Eq.trans ?_ (rL hp (bh l a j1.a j1.point) (aH l a j0 i)).symm);rw[f6,n7,pe.1,pe.2,qa.1,qa.2]
    rw[me hp e];exact hd
   refine⟨?_,hN3⟩
   have hS:fE l a ⟨3,[i],[z0,z1],0⟩ x=kc l a i j0 j1:=by
    show kc l a i (aj l ⟨3,[i],[z0,z1],0⟩ 0) (aj l ⟨3,[i],[z0,z1],0⟩ 1)=_;rw[e0,e1]
   rw[hS];unfold kc;rw[aoy hz,aoy je]
   by_cases h3:0<ao (bD l a i j0 j1)
   ·rw[aoz h3];obtain⟨m,hm,nH⟩:=C2 (n:=2) hδ hX (by rw[aoy oz]);exact⟨_,al0.2 ⟨m,alh.2 hm,rfl⟩,nH⟩
   ·rw[aoy h3];obtain⟨m,hm,nH⟩:=C2 (n:=1) hδ hX (by rw[aoz oz]);exact⟨_,al0.2 ⟨m,alh.2 hm,rfl⟩,nH⟩
end
section
variable{l:Li}{a:As}{r:Nat}(tw:Tw (llq a.rs) r)(hN:∀p∈aG a,Nq (llq a.rs).length p){ds:List Pq}(hD:∀p∈ds,Nq 0 p)
include tw hN hD
theorem agz{g:Gr}(hg:DyK l g)(jC:∀b∈g.bo,0<=b/\b.toNat<(aG a).length)(au:aM l=0){x:Tn}(he:kD l a g x=0)(A:yE l tw.pos g (aG a) ds)
  (js:∀z∈g.jo,JH l (llq a.rs) ds (l.jo.getD z.toNat default)) (cs:∀b∈g.bo,CH (llq a.rs) (ds.getD b.toNat aN))
  (dr:g.kind=0->dE (llq a.rs) (ds.getD (ay g 0).toNat aN).c=qE (d8 x.half x.t.q)/\dE (llq a.rs) (ds.getD (ay g 0).toNat aN).s=qE (d6 x.half x.t.q)) :
  ∃s∈fE l a g x,∃L:Lf (llq a.rs) s.ts,∀b∈g.bo,Eqp L.pos ((bi (aG a) g.bo s.ps).getD b.toNat aN) (ds.getD b.toNat aN):=by
 have hp:=tw.pos;obtain⟨⟨s,hs,hm⟩,N⟩:=abv tw hg au he A js cs;have H:=OZ tw hN hg jC au hs;have Dt:=Zc tw hN hg jC au hs;have L:=Dt.lf;have nd:∀i,Nq (llq a.rs).length (ds.getD i aN):=fun i=>MX (tY hD i) (ans _)
 have na:∀i,Nq (llq a.rs).length ((aG a).getD i aN):=fun i=>tY hN i
 have sm:∀b:Int,fI ds ds (llq a.rs).length b:=fun b=>⟨rfl,nd _⟩
 have Iz:=G8 hp hg js cs;refine⟨s,hs,L,?_⟩;have js2:∀z∈g.jo,JH l s.ts ds (l.jo.getD z.toNat default):=fun z hz=>L.jh (sm _) (sm _) (js z hz)
 have cs2:∀b∈g.bo,CH s.ts (ds.getD b.toNat aN):=fun b hb=>L.ch (nd _) (cs b hb)
 have zd:=Wv L (l:=l) (g:=g) (bs:=ds) (bs':=ds) (fun _=>⟨sm _,sm _⟩) (fun _=>⟨sm _,sm _⟩) (fun _=>sm _);have zq:=Ue L (k:=g.kind) zd;have zr:=wI L (l:=l) (g:=g) (bs:=ds) (bs':=ds) (fun _=>L.pinP _ (sm _) (sm _)) (fun _=>L.pinP _ (sm _) (sm _)) (fun _ pt=>L.pt l (sm _) pt) (fun _ _ _ pt=>L.pt l (sm _) pt);have gn:∀b:Int,0<=b->b∉g.bo->(bi (aG a) g.bo s.ps).getD b.toNat aN=(aG a).getD b.toNat aN:=fun b h0 hb=>Gi (fun y hy=>(jC y hy).1) hb h0
 have A2:yE l L.pos g ds (bi (aG a) g.bo s.ps):=by
  intro z hz j hj;obtain⟨i1,i2,_⟩:=dZ au hj;have i1:=cS i1;have i2:=cS i2;obtain⟨a1,a2⟩:=A z hz j hj;refine⟨fun h=>?_,fun h=>?_⟩
  ·rw[gn _ i1.1 h];have e:=Eqp.up L (na _) (nd _) (a1 h);exact⟨e.c.symm,e.s.symm,e.x.symm,e.y.symm⟩
  ·rw[gn _ i2.1 h];have e:=Eqp.up L (na _) (nd _) (a2 h);exact⟨e.c.symm,e.s.symm,e.x.symm,e.y.symm⟩
 have N2:NDg l s.ts ds g:=by
  refine⟨fun h=>⟨?_,(N.n1 h).2⟩,fun h=>⟨?_,(N.n2 h).2⟩,fun h=>⟨?_,(N.n3 h).2⟩⟩
  ·have p0:=L.pinP (l:=l) (bs:=ds) (bs':=ds) (j:=aj l g 0) (ay g 0) (sm _) (sm _);have p1:=L.pinP (l:=l) (bs:=ds) (bs':=ds) (j:=aj l g 1) (ay g 1) (sm _) (sm _)
   have e:ae L.pos (aC (pinP l s.ts ds (aj l g 0) (ay g 0)) (pinP l s.ts ds (aj l g 1) (ay g 1)))=ae L.pos (ax s.ts (aC (pinP l (llq a.rs) ds (aj l g 0) (ay g 0)) (pinP l (llq a.rs) ds (aj l g 1) (ay g 1)))):=by
    have m1:=r6 (uw L.pos) (pinP l s.ts ds (aj l g 0) (ay g 0)) (pinP l s.ts ds (aj l g 1) (ay g 1));have m2:=r6 L.hm (pinP l (llq a.rs) ds (aj l g 0) (ay g 0)) (pinP l (llq a.rs) ds (aj l g 1) (ay g 1));rw[m1,m2,p0.1,p0.2,p1.1,p1.2]
   rw[me L.pos e,L.sg];exact(N.n1 h).1
  ·have qb:=fun pt=>L.pt l (sm (aj l g 1).b) pt
   have e:ae L.pos (a9 (aq l s.ts ds (aj l g 1).b (aj l g 1).on) (aq l s.ts ds (aj l g 1).b (aj l g 1).to))=ae L.pos (ax s.ts (a9 (aq l (llq a.rs) ds (aj l g 1).b (aj l g 1).on) (aq l (llq a.rs) ds (aj l g 1).b (aj l g 1).to))):=by
    refine(rL L.pos (aq l s.ts ds (aj l g 1).b (aj l g 1).to) (aq l s.ts ds (aj l g 1).b (aj l g 1).on)).trans ?_;rw[(qb _).1,(qb _).2,(qb _).1,(qb _).2];unfold a9 db dotE aO;dsimp only;simp only[L.sub,L.mul,L.add]
   rw[me L.pos e,L.sg];exact(N.n2 h).1
  ·have qa:=L.pt l (sm (aj l g 1).a) (aj l g 1).point;have p0:=L.pinP (l:=l) (bs:=ds) (bs':=ds) (j:=aj l g 0) (ay g 0) (sm _) (sm _)
   have e:ae L.pos (db (aO (aq l s.ts ds (aj l g 1).a (aj l g 1).point) (pinP l s.ts ds (aj l g 0) (ay g 0))) (aO (aq l s.ts ds (aj l g 1).a (aj l g 1).point) (pinP l s.ts ds (aj l g 0) (ay g 0)))) =
     ae L.pos (ax s.ts (db (aO (aq l (llq a.rs) ds (aj l g 1).a (aj l g 1).point) (pinP l (llq a.rs) ds (aj l g 0) (ay g 0))) (aO (aq l (llq a.rs) ds (aj l g 1).a (aj l g 1).point) (pinP l (llq a.rs) ds (aj l g 0) (ay g 0))))):=by
    refine(rL L.pos (aq l s.ts ds (aj l g 1).a (aj l g 1).point) (pinP l s.ts ds (aj l g 0) (ay g 0))).trans ?_;rw[qa.1,qa.2,p0.1,p0.2];unfold db dotE aO;dsimp only;simp only[L.sub,L.mul,L.add]
   rw[me L.pos e,L.sg];exact(N.n3 h).1
 have lC:ae L.pos (dQ l s.ts ds g)=ae L.pos (dQ l s.ts (bi (aG a) g.bo s.ps) g):=by
  refine S3 L.pos (k:=g.kind) ?_ ?_
  ·rw[me L.pos zd,L.sg,Dt.sg,hm]
  ·rw[zq,G8 L.pos hg H.1.js H.1.cs,Dt.rd];refine(L.z hp Iz).trans ?_;refine L.z hp ?_;have h:=wI (oN hp) (l:=l) (g:=g) (bs:=ds) (bs':=aG a);simp only[dH]at h;rw[sK];refine(h (fun hk=>?_) (fun hk=>?_) (fun hk pt=>?_) (fun h0 h1 h2 pt=>?_)).symm
   ·cases hg with
    |drv t d0 hd hb=>exact ao5 rfl hk
    | @rrr i k z0 z1 z2 j0 j1 j2 ne t0 t1 h0 h2 kd tie =>
     have e0:aj l ⟨1,[i,k],[z0,z1,z2],0⟩ 0=j0:=aw t0.hj;rw[e0];exact kv hp A t0 (by simp) (by simp[ay])
    | @pr i z0 z1 j0 j1 t0 t1 ha =>
     have e0:aj l ⟨2,[i],[z0,z1],0⟩ 0=j0:=aw t0.hj;rw[e0];exact kv hp A t0 (by simp) (by simp[ay])
    | @rp i z0 z1 j0 j1 t0 t1 ha =>
     have e0:aj l ⟨3,[i],[z0,z1],0⟩ 0=j0:=aw t0.hj;rw[e0];exact kv hp A t0 (by simp) (by simp[ay])
   ·cases hg with
    |drv t d0 hd hb=>exact ao5 hk (by simp)
    | @rrr i k z0 z1 z2 j0 j1 j2 ne t0 t1 h0 h2 kd tie =>
     have e1:aj l ⟨1,[i,k],[z0,z1,z2],0⟩ 1=j1:=aw t1.hj;rw[e1];exact kv hp A t1 (by simp) (by simp[ay])
    |pr t0 t1 ha=>exact ao5 hk (by simp)
    |rp t0 t1 ha=>exact ao5 hk (by simp)
   ·cases hg with
    |drv t d0 hd hb=>exact ao5 hk (by simp)
    |rrr ne t0 t1 h0 h2 kd tie=>exact ao5 hk (by simp)
    | @pr i z0 z1 j0 j1 t0 t1 ha =>
     have e1:aj l ⟨2,[i],[z0,z1],0⟩ 1=j1:=aw t1.hj;rw[e1]
     have mC:j1.b∉[i]:=by
      rcases t1.tie with⟨_,hb⟩ |⟨_,hb⟩
      ·exact hb
      ·exact ao5 (by simp[ha]) hb
     exact((A z1 (by simp) j1 t1.hj).2 mC).at _
    |rp t0 t1 ha=>exact ao5 hk (by simp)
   ·cases hg with
    |drv t d0 hd hb=>exact ao5 rfl h0
    |rrr ne t0 t1 h0 h2 kd tie=>exact ao5 rfl h1
    |pr t0 t1 ha=>exact ao5 rfl h2
    | @rp i z0 z1 j0 j1 t0 t1 ha =>
     have e1:aj l ⟨3,[i],[z0,z1],0⟩ 1=j1:=aw t1.hj;rw[e1]
     have tn:j1.a∉[i]:=by
      rcases t1.tie with⟨e,_⟩ |⟨_,hb⟩
      ·exact ao5 e ha
      ·exact hb
     exact((A z1 (by simp) j1 t1.hj).1 tn).at _
 have E:=Zv L.pos hg A2 N2 js2 cs2 H.1.js H.1.cs lC (fun hk=>by
  obtain⟨c1,c2⟩:=H.2 hk;obtain⟨c3,c4⟩:=dr hk;obtain⟨n1,n2,_⟩:=nd (ay g 0).toNat;rw[c1,c2,<- L.low _ n1,<- L.low _ n2,c3,c4,L.q,L.q];exact⟨rfl,rfl⟩)
 intro b hb;have e:=E b hb;exact⟨e.c.symm,e.s.symm,e.x.symm,e.y.symm⟩
end
structure R4 where
  c:Rat
  s:Rat
  x:Rat
  y:Rat
instance:Inhabited R4:=⟨⟨0,0,0,0⟩⟩
namespace R4
def pq(b:R4):Pq:=⟨sh 0 (b.c:Rat),sh 0 (b.s:Rat),sh 0 (b.x:Rat),sh 0 (b.y:Rat)⟩
def pl(b:R4):Pl:=⟨b.pq.c.map rt,b.pq.s.map rt,b.pq.x.map rt,b.pq.y.map rt⟩
structure ok(b:R4):Prop where
  c:Qb 1000 b.c
  s:Qb 1000 b.s
  x:Qb 1000 b.x
  y:Qb 1000 b.y
end R4
instance:Inhabited Pse:=⟨⟨default,⟨⟨false,[],[]⟩,⟨false,[],[]⟩⟩⟩⟩
def Pse.r4(p:Pse):R4:=⟨d8 p.turn.half p.turn.t.q,d6 p.turn.half p.turn.t.q,p.at_.x.q,p.at_.y.q⟩
theorem ahq(p:Pse):p.r4.pq=bZ p:=rfl
def q7(bs:List R4):As:=⟨[],bs.map R4.pl,[]⟩
theorem Bp{q:Rat}(h:Qb 1000 q):NR ((sh 0 (q:Rat)).map rt) 4000:=by
 have h1:=(wz (n:=0) oz h).mono (f:=4000) oz;refine⟨fun x hx=>?_,?_,by rw[dO];exact h1.cb⟩
 ·obtain⟨p,hp,rfl⟩:=al0.1 hx
  have:p=q:=by
   unfold sh at hp;split at hp
   ·cases hp
   ·exact alr.1 hp
  rw[this];exact(h.qs oz).ok
 ·rw[anl];unfold sh;split <;> simp
theorem VI(q:Rat):cA 0 ((sh 0 (q:Rat)).map rt)=0:=ue (ek 0 q)
theorem R4.ok.nr{b:R4}(h:b.ok):∀x∈b.pl.l,NR x 4000:=by
 intro x hx;simp only[Pl.l,R4.pl,an9,aob,or_false]at hx;rcases hx with rfl |rfl |rfl |rfl
 ·exact Bp h.c
 ·exact Bp h.s
 ·exact Bp h.x
 ·exact Bp h.y
theorem af9(b:R4):bc [] b.pl.l=0:=by
 refine rK (by decide) (fun x hx=>?_);simp only[Pl.l,R4.pl,an9,aob,or_false]at hx;rcases hx with rfl |rfl |rfl |rfl <;> exact VI _
theorem R7{r:Nat}(hr:r<=5000000000):TR [] r:=⟨fun d hd=>(by cases hd),fun d hd=>(by cases hd),(by decide),⟨1,1,oz,fun d hd=>(by cases hd),ajr,ajr⟩,hr,.inl (by decide)⟩
theorem adr:TR [] 40000:=R7 oz
theorem acs{bs:List R4}(h:∀b∈bs,b.ok)(hl:bs.length<=20):AL (q7 bs) :=
 ⟨adr,fun b hb=>by obtain⟨r,hr,rfl⟩:=al0.1 hb;exact(h r hr).nr,ans _,by show(bs.map _).length<=20;rw[anl];exact hl⟩
theorem aal{l:Li}(hl:l.ok)(au:aM l=0){bs:List R4}(h:∀b∈bs,b.ok)(bK:bs.length=l.bo.length):Good l (q7 bs) :=
 ⟨hl,au,acs h (by have:=(dC au).2.2.2.1;omega),(by decide:bB []=0),fun b hb=>by obtain⟨r,hr,rfl⟩:=al0.1 hb;exact af9 r,by show(bs.map _).length=_;rw[anl,bK]⟩
theorem BO(x y:Rat):fJ [] x y=decide (x=y):=by
 refine decide_eq_decide.2 ?_;show b9 ((x:Rat)+-y)=0↔x=y;constructor
 ·intro h;have:=pR h;grind
 ·intro h;subst h;have:x+-x=0:=by grind
  rw[this];rfl
def vp(b:R4):Bool:=decide (b.c=1)&&decide (b.s=0)&&decide (b.x=0)&&decide (b.y=0)
def mK(l:Li)(ps:List Pse):Bool :=
  decide (aM l=0/\ps.length=l.bo.length)&&(ps.all Pse.ok&&(decide (splitE l=0)&&(vp ((ps.getD 0 default).r4)&&l.jo.all (fun j=>sI l (q7 (ps.map Pse.r4)) j))))
def fw(l:Li)(ps:List Pse):List Tn:=l.dv.map (fun d=>(ps.getD d.body.toNat default).turn)
theorem Oq{l:Li}{ps:List Pse}(h:mK l ps=true):aM l=0/\ps.length=l.bo.length/\(∀p∈ps,p.ok=true)/\vp ((ps.getD 0 default).r4)=true/\∀j∈l.jo,sI l (q7 (ps.map Pse.r4)) j=true:=by
 unfold mK at h;simp only[anq,ao0,anx]at h;exact⟨h.1.1,h.1.2,h.2.1,h.2.2.2.1,h.2.2.2.2⟩
def qT(s:ByteArray)(n:Int):Bd:=⟨s,[⟨⟨#[97]⟩,rt ((0:Int):Rat),rt ((0:Int):Rat)⟩,⟨⟨#[98]⟩,rt (n:Rat),rt ((0:Int):Rat)⟩]⟩
def fb:Li:=⟨⟨#[102,111,117,114,98,97,114]⟩,[qT ⟨#[102,114,97,109,101]⟩ 4,qT ⟨#[99,114,97,110,107]⟩ 3,qT ⟨#[99,111,117,112,108,101,114]⟩ 5,qT ⟨#[114,111,99,107,101,114]⟩ 6],
  [⟨⟨#[111]⟩,0,1,0,0,0,0⟩,⟨⟨#[112]⟩,0,2,0,1,1,0⟩,⟨⟨#[113]⟩,0,3,0,0,1,0⟩,⟨⟨#[114]⟩,0,2,1,3,1,0⟩],[⟨⟨#[100]⟩,1⟩]⟩
def t0:Tn:=⟨⟨false,[],[]⟩,false⟩
theorem G2(a b:ByteArray):fm a b=(a.data.toList==b.data.toList):=by
 unfold fm;rw[Go.ByteArray.toList_eq,Go.ByteArray.toList_eq]
theorem Qn:aM fb=0:=by
 have h1:kS fb=0:=by
  unfold kS it fZ jN fW;simp only[G2];decide +kernel
 have h2:gN fb=0:=by
  unfold gN it jr jN;simp only[G2];decide +kernel
 have h3:jM fb=0:=by
  unfold jM it fN jN;simp only[G2];decide +kernel
 unfold aM;rw[h1,h2,h3];decide +kernel
theorem ab7{s:ByteArray}(hs:s.size<=281474976710656){n:Int}(hn:-9223372036854775808<=n/\n<=9223372036854775807) :
  (qT s n).name.size<=281474976710656/\(qT s n).pts.length<=281474976710656/\∀m∈(qT s n).pts,m.name.size<=281474976710656/\m.x.wok/\m.y.wok:=by
 have h0:(rt ((0:Int):Rat)).ok:=(uz oz).ok;have h1:(rt (n:Rat)).ok:=(uz hn).ok;refine⟨hs,by show 2<=_;omega,fun m hm=>?_⟩;simp only[qT,an9,aob,or_false]at hm;rcases hm with rfl |rfl
 ·exact⟨by show 1<=_;omega,h0.wok,h0.wok⟩
 ·exact⟨by show 1<=_;omega,h1.wok,h0.wok⟩
theorem aen:fb.okw:=by
 refine⟨by decide,fun b hb=>?_,fun j hj=>?_,fun d hd=>?_,by decide,by decide,by decide⟩
 ·simp only[fb,an9,aob,or_false]at hb;rcases hb with rfl |rfl |rfl |rfl <;> exact ab7 (by decide) oz
 ·simp only[fb,an9,aob,or_false]at hj;rcases hj with rfl |rfl |rfl |rfl <;> decide
 ·simp only[fb,an9,aob,or_false]at hd;rcases hd with rfl;decide
theorem Oi:fb.ok:=Ej (by decide +kernel) aen
open Go.Proofs
theorem oi.ofL{l l':List AV}(h:SubL l l')(ho:l'.all AV.one=true):oi (.agg l) (.agg l') :=
 ⟨h.len,fun j x y hx hy=>⟨anx.1 ho y (ank hy),h.get j x y hx hy⟩⟩
theorem OF(s:ByteArray)(x y:Int)(hx:-9223372036854775808<=x/\x<=9223372036854775807)(hy:-9223372036854775808<=y/\y<=9223372036854775807):FP 262 [.v (.string s),i64 x,i64 y] (Mk.av ⟨s,rt (x:Rat),rt (y:Rat)⟩):=by
 refine am func262 ?_;refine gc (ut x hx) ?_;refine gc (ut y hy) ?_;refine ai ?_
 first |rfl |(simp;done)
theorem Bx(s:ByteArray)(n:Int)(hn:-9223372036854775808<=n/\n<=9223372036854775807):FP 137 [.v (.string s),i64 n] (qT s n).av:=by
 refine am func137 ?_;refine gc (OF _ 0 0 oz oz) ?_;refine gc (OF _ n 0 hn oz) ?_;refine ai ?_
 first |rfl |(simp;done)
theorem abu:FP 51 [] fb.av:=by
 refine am func51 ?_;refine gc (Bx _ 4 oz) ?_;refine gc (Bx _ 3 oz) ?_;refine gc (Bx _ 5 oz) ?_;refine gc (Bx _ 6 oz) ?_;refine ai ?_
 first |rfl |(simp;done)
theorem ada{a:As}(h:AL a)(hc:bB a.rs=0):8*4000+4*kB 40000 a.rs.length+4<=lm a.rs.length:=by
 obtain⟨tw,_⟩:=dg h.tr hc;have h3:=tw.three;rw[D6]at h3;have h1:=La 40000 h3;have h2:=oT a.rs.length;show 8*4000+4*eB 40000 a.rs.length+4<=_;omega
def nQ(a:As)(k:Int):Nat :=
  if bB a.rs≠0 then bB a.rs else if k<0\/(a.bs.length:Int)<=k then 9 else bc a.rs (a.bs.getD k.toNat default).l
theorem EJ{a:As}{k:Int}(h:bB a.rs≠0):nQ a k=bB a.rs:=by unfold nQ;rw[aoz h]
theorem FM{a:As}{k:Int}(h:bB a.rs=0)(hk:k<0\/(a.bs.length:Int)<=k):nQ a k=9:=by unfold nQ;rw[aoy oz,aoz hk]
theorem GF{a:As}{i:Nat}{b:Pl}(h:bB a.rs=0)(hb:a.bs[i]?=some b):nQ a (i:Int)=bc a.rs b.l:=by
 have hi:=(alj.1 hb).1;unfold nQ;rw[aoy oz,aoy oz,aol,aw hb]
theorem Kb(x y:List Rat)(hx:x=[])(hy:y=[]):Sub (.agg [nS,nS]) (aP x y):=by
 subst hx;subst hy
 exact Sub.agg (.cons (.nil _ _ _) (.cons (.nil _ _ _) .nil)) rfl
def wL(a:As)(k:Int)(x y:Rt):List Rat:=if nQ a k=0 then Ed a.rs (a.bs.getD k.toNat default) x y else[]
def wa(a:As)(k:Int)(x y:Rt):List Rat:=if nQ a k=0 then Ee a.rs (a.bs.getD k.toNat default) x y else[]
theorem IZ{a:As}{k:Int}{x y:Rt}(h:nQ a k≠0):wL a k x y=[]:=aoy h
theorem Nd{a:As}{k:Int}{x y:Rt}(h:nQ a k≠0):wa a k x y=[]:=aoy h
theorem acy{a:As}{i:Nat}{b:Pl}{x y:Rt}(h:bB a.rs=0)(hb:a.bs[i]?=some b):wL a i x y=if bc a.rs b.l=0 then Ed a.rs b x y else[]:=by unfold wL;rw[GF h hb,aol,aw hb]
theorem aa1{a:As}{i:Nat}{b:Pl}{x y:Rt}(h:bB a.rs=0)(hb:a.bs[i]?=some b):wa a i x y=if bc a.rs b.l=0 then Ee a.rs b x y else[]:=by unfold wa;rw[GF h hb,aol,aw hb]
abbrev P3(a:As)(k:Int)(x y:Rt):AV:=.agg [nA (wL a k x y),nA (wa a k x y)]
theorem ac7(a:As)(al:AL a)(k:Int)(x y:Rt)(hx:x.ok)(hy:y.ok)(qx:Qb 4000 x.q)(qy:Qb 4000 y.q) :
  FP 52 [a.av,i64 k,x.av,y.av] (.tup [P3 a k x y,bU (nQ a k)]):=by
 have pb:=al.bl;refine am func52 ?_;refine gc (tZ a.rs 40000 al.tr) ?_;refine gC (fun z=>?_) (fun z=>?_)
 ·have h1:=et z;refine gR ?_;exact fa (by rw[EJ h1];exact Sub.tup (.cons (Kb _ _ (IZ (by rw[EJ h1];exact h1)) (Nd (by rw[EJ h1];exact h1))) (.cons (.refl _) .nil)))
 have h1:=d7 z;refine cV ?_;refine gC (fun z=>?_) (fun z=>?_)
 ·have h2:=I4 z;refine gR ?_;exact fa (by rw[FM h1 h2];exact Sub.tup (.cons (Kb _ _ (IZ (by rw[FM h1 h2];decide)) (Nd (by rw[FM h1 h2];decide))) (.cons (.refl _) .nil)))
 have h2:=NB z;obtain⟨i,rfl,hi⟩:=Lo h2;obtain⟨b,hb⟩:=aB hi;have bG:=ada al h1;refine gi (aL hb) ?_;refine gc (ZG a.rs 40000 4000 al.tr h1 b (al.nr b (ank hb)) x y hx hy qx qy bG) ?_;refine gD ?_;refine bO ?_;show _=AV.tup [AV.agg [nA (wL a (i:Nat) x y),nA (wa a (i:Nat) x y)],_];rw[GF h1 hb,acy h1 hb,aa1 h1 hb]
deriving instance DecidableEq for Pq
deriving instance DecidableEq for Aq
def O6:List Aq×Nat:=sJ iR false fb [iP]
theorem SQ:gd fb [iP]=0:=by
 unfold gd zU;rw[aoy (by rw[Qn];decide),aoy (show ¬splitE fb≠0 by decide +kernel),aoy (show ¬[iP].length≠fb.dv.length by decide +kernel)];decide +kernel
def aF:Aq:=⟨[],[⟨[1],[],[],[]⟩,⟨[1],[],[],[]⟩,⟨[-1],[],[3],[]⟩,⟨[-1],[],[4],[]⟩],[1,0]⟩
theorem U9:O6=([aF],0):=by decide +kernel
theorem Yu:WkC fb [iP] 32 134:=by
 have z:iP.t.q=0:=by decide +kernel
 have h0:Qb 32 iP.t.q:=by rw[z];exact Qb.zero.mono oz
 refine⟨Oi,Qn,by decide +kernel,?_,rfl,fun x hx=>?_⟩
 ·have h:∀ b∈fb.bo,∀ m∈b.pts,(m.x.q.num.natAbs<2 ^ 32/\m.x.q.den<2 ^ 32)/\(m.y.q.num.natAbs<2 ^ 32/\m.y.q.den<2 ^ 32):=by decide +kernel
  exact h
 ·rw[alr.1 hx];exact⟨Gk,by decide +kernel,LD,Cb.one (qS h0),Cb.one (qM h0)⟩
theorem SF:WkSt fb 32 134 (splitG fb).length (fY fb):=by
 refine⟨⟨0,0,2,1,FW fb,yh PW ?_ (anp _),?_⟩,akv _⟩
 ·decide +kernel
 ·decide +kernel
theorem aag:FP 12 [fb.av,.lst 4 [iP.av]] (.tup [.lst 3 [aF.av],bU 0]):=by
 have fO:=Ku fb Oi [iP] (fun x hx=>by rw[alr.1 hx];exact Gk) (by show 1<=100;omega);have hp:([]:List Aq).length+2^(splitG fb).length<=1000:=by decide +kernel
 have hw:=F3 Yu iR false (fo:=151) (caps:=[]) (fun k m _=>I9 k m) (splitG fb).length (fY fb) SF [] hp;have hA:=Kx SQ fO (by show 0<4;omega) (by show 4<=100;omega) (R:=O6) hw;rw[U9]at hA;exact hA
theorem N7(n k:Nat)(hn:n<=5):Nm n k []:=⟨hn,.inl rfl,⟨1,0,⟨by decide,fun q h=>by cases h⟩,ajr,ans _⟩⟩
theorem Zk:AL aF.as:=by
 have h1:∀q:Rat,Qb 1000 q->NR [rt q] 4000:=fun q h=>Nm.rt (n:=0) (e:=4000) (l:=[q]) ⟨by omega,.inr ⟨0,anp _,rfl⟩,(Cb.one h).mono oz⟩ (by decide)
 have h0:NR [] 4000:=Nm.rt (n:=0) (e:=4000) (l:=[]) (N7 0 4000 oz) (by decide);have hq:∀q:Rat,q.num.natAbs<2^5/\q.den<2^5->Qb 1000 q:=fun q h=>Qb.mono (e:=5) h oz
 refine⟨(rS.tr).mono oz oz,?_,by decide,by decide⟩;intro b hb x hx;simp only[aF,Aq.as,aow,map_nil,an9,aob,or_false]at hb;rcases hb with rfl |rfl |rfl |rfl <;> simp only[Pl.l,Pq.pl,aow,map_nil,an9,aob,or_false]at hx <;> rcases hx with rfl |rfl |rfl |rfl <;> first |exact h0 |exact h1 _ (hq _ (by decide +kernel))
theorem Wb:FP 52 [aF.av,i64 2,(rt ((5:Int):Rat)).av,(rt 0).av] (.tup [aP [-2] [],bU 0]):=by
 have h:=ac7 aF.as Zk 2 (rt ((5:Int):Rat)) (rt 0) (uz (n:=5) oz).ok Qs.zero.ok (by rw[b7];exact Qb.mono (e:=5) (q:=((5:Int):Rat)) ⟨by decide,by decide⟩ oz) (by rw[b7];exact Qb.zero.mono oz);rw[aF.as_av]at h;have e1:wL aF.as 2 (rt ((5:Int):Rat)) (rt 0)=[-2]:=by decide +kernel
 have e2:wa aF.as 2 (rt ((5:Int):Rat)) (rt 0)=[]:=by decide +kernel
 have e3:nQ aF.as 2=0:=by decide +kernel
 unfold P3 at h;rw[e1,e2,e3]at h;exact h
theorem ahn:Sub (.lst 4 [.agg [.v (.bool false),nS,nS,.v (.bool false)]]) (.lst 4 [iP.av]) :=
 Sub.lst rfl (fun i x y hx hy=>by
  match i,hx,hy with
  |0,hx,hy=>cases hx;cases hy;exact .ofL (.cons (.refl _) (.cons (.nil _ _ _) (.cons (.nil _ _ _) (.cons (.refl _) .nil)))) rfl)
theorem PU:FP 8 [] (bl true):=by
 have ajb:=aag;have nx:Nm 0 10 [(-2:Rat)]:=⟨by omega,.inr ⟨0,anp _,rfl⟩,Cb.mono (Cb.int (z:=-2) (e:=2) (by decide)) oz⟩
 have n0:Nm 0 10 []:=N7 0 10 oz;have hE:=JV (ts:=[]) rS nx n0 nx n0 (by decide);rw[KM,KM]at hE;have RK:=O1 (x:=((-2:Int):Rat)) (y:=0) (uz (n:=-2) oz) Qs.zero;rw[show sh 0 (((-2:Int):Rat):Rat)=[-2] by decide +kernel,show sh 0 (0:Rat)=[] by decide +kernel]at RK;refine am func8 ?_;refine gc abu ?_;refine gc (Con.sA (.cons (.refl _) (.cons ahn .nil)) ajb) ?_;refine SA (fun _=>rfl) ?_;refine oM (fun _=>(rfl)) ?_;refine cm (fun _=>(aae [1,0] (by decide))) ?_;refine gf ?_;refine gi (rfl) ?_;refine gc (ut 5 oz) ?_;refine gc (Con.sA (.cons (.refl _) (.cons (.refl _) (.cons (.refl _) (.cons kA .nil)))) Wb) ?_;refine gD ?_;refine oM (fun _=>(rfl)) ?_;refine cm (fun _=>(ut (-2) oz)) ?_;refine cm (fun _=>(Con.sA (.cons (.refl _) (.cons kA .nil)) RK)) ?_;refine cm (fun _=>hE) ?_;refine gD ?_;refine ai ?_;rfl
theorem GJ{ts:LL}{r:Nat}(hr:r<=400000000)(h2:ts.length<=2):kB r ts.length<=1200000006:=by
 have h:=kl r h2;have h3:eB r 2=3*r+6:=by simp only[eB];omega
 show eB r ts.length<=_;omega
theorem zo{ts:LL}(h2:ts.length<=2):lm ts.length=200000000000:=by unfold lm;rw[aoz h2]
theorem Sp{ts:LL}{r:Nat}(tw:Tw ts r):FP 32 [aZ ts,nS] (i64 (0:Nat)):=by
 have h:=Kg (ts.map (List.map rt)) r 0 tw.tr [] (fun x hx=>by cases hx) (ans _) (by show 0<=_;omega)
 have e:bc (ts.map (List.map rt)) []=0:=by
  unfold bc;rw[aoy (by rw[tw.chk];simp)];rfl
 rw[e,ko]at h;exact Con.sA (.cons (.refl _) (.cons (Sub.nil 1 none 0) .nil)) h
theorem YP{ts:LL}{r e:Nat}(tw:Tw ts r){p:Pq}(hp:Pq.ok ts.length e p)(he:e<=lm ts.length):FP 32 [aZ ts,.lst 1 [nA p.c,nA p.s,nA p.x,nA p.y]] (i64 (0:Nat)):=by
 have h:=Kg (ts.map (List.map rt)) r e tw.tr p.pl.l (hp.nr he) (by rw[anl];exact he) (by show 4<=_;omega)
 have e0:bc (ts.map (List.map rt)) p.pl.l=0:=by
  unfold bc;rw[aoy (by rw[tw.chk];simp),anl];exact tQ (fun x hx=>hp.num x hx)
 have e1:p.pl.l.map nR=[nA p.c,nA p.s,nA p.x,nA p.y]:=by
  unfold Pl.l Pq.pl;simp only[aow,map_nil,eL]
 rw[e0,ko,e1]at h;exact h
section
variable{l:Li}{xs:List Tn}{a:Aq}(F:AqFin l xs a)
include F
end
structure AsmS(l:Li)(xs:List Tn)(A:List Aq)(e:Nat):Prop where
  eq:Ge l xs=(A,e)
  all:FP 12 [l.av,.lst 4 (xs.map Tn.av)] (.tup [.lst 3 (A.map Aq.av),bU e])
  ln:A.length<=1000
theorem ad8{l:Li}{xs:List Tn}{s g:Nat}(W:WkC l xs s g)(St:WkSt l s g (splitG l).length (fY l))(h0:gd l xs=0)(ajn:xs.length<=20):∃A e,AsmS l xs A e:=by
 have fO:=Ku l W.hl xs (fun x hx=>(W.ok x hx).1) oz;have dB:=Cm W.li;have dU:=(dC W.li).2.2.2;have hp:2^(splitG l).length<=256:=an4 (cK (b:=8) oz) (by decide);have hw:=F3 W iR false (fo:=151) (caps:=[]) (fun k m _=>I9 k m) (splitG l).length (fY l) St [] (by simp only[aoa];omega);have hA:=Kx h0 fO oz oz (R:=sJ iR false l xs) hw;have bK:=Fa W iR false (splitG l).length (fY l) St;refine⟨_,_,⟨?_,hA,?_⟩⟩
 ·unfold Ge;rw[aoy (fun h=>h h0)]
  by_cases hE:(sJ iR false l xs).2≠0
  ·rw[aoz hE,aoz hE]
  ·rw[aoy hE,aoy hE]
 ·split
  ·exact ans _
  ·exact an4 bK oz
structure AqS(l:Li)(a:Aq):Prop where
  li:aM l=0
  tw:∃r,r<=400000000/\Tw a.ts r
  two:a.ts.length<=2
  bs:∀p∈a.bs,Pq.ok a.ts.length 3200000000 p
  ln:a.bs.length=l.bo.length
theorem AqFin.s{l:Li}{xs:List Tn}{a:Aq}(F:AqFin l xs a):AqS l a:=⟨F.li,F.tw,F.two,F.bs,F.ln⟩
theorem FX{l:Li}{a:Aq}(F:AqS l a)(hl:l.ok){body pt:Int}(h1:bT body l.bo.length=true)(h2:bT pt (dw l body).length=true) :
  Nm a.ts.length 12100000000 (sX (aq l a.ts a.bs body pt).1)/\Nm a.ts.length 12100000000 (sX (aq l a.ts a.bs body pt).2):=by
 obtain⟨n,k,bd,m,h⟩:=v6 hl F.li h1 h2;obtain⟨r,hr,tw⟩:=F.tw;have hk:=GJ hr F.two;obtain⟨p,hp⟩:=aB (l:=a.bs) (i:=n) (by rw[F.ln];exact(alj.1 h.gbd).1);have po:=F.bs p (ank hp);have e:body.toNat=n:=by have:=h.hn;omega
 have hb:Pq.ok a.ts.length 3200000000 ⟨lq p.pl.c,lq p.pl.s,lq p.pl.x,lq p.pl.y⟩:=by
  unfold Pq.pl;dsimp only;rw[dO,dO,dO,dO];exact po
 have hq:=ah4 tw hb h.sm;unfold Pq.pl at hq;dsimp only[kZ]at hq;rw[dO,dO,dO,dO]at hq;unfold aq;rw[e,aw hp];exact⟨hq.1.mono oz,hq.2.mono oz⟩
def yo(l:Li)(a:Aq)(j:Jt):Bool :=
  if j.kind=0 then decide (T.sgn (az a.ts) a.ts.length (subT a.ts (aq l a.ts a.bs j.a j.point).1 (aq l a.ts a.bs j.b j.on).1)=0/\T.sgn (az a.ts) a.ts.length (subT a.ts (aq l a.ts a.bs j.a j.point).2 (aq l a.ts a.bs j.b j.on).2)=0)
  else decide (T.sgn (az a.ts) a.ts.length (vz a.ts (aq l a.ts a.bs j.b j.on).1 (aq l a.ts a.bs j.b j.on).2 (aq l a.ts a.bs j.b j.to).1 (aq l a.ts a.bs j.b j.to).2 (aq l a.ts a.bs j.a j.point).1 (aq l a.ts a.bs j.a j.point).2)=0)
def Pq.l(p:Pq):LL:=[p.c,p.s,p.x,p.y]
theorem Pq.ok.mem{n e:Nat}{p:Pq}(h:Pq.ok n e p):∀x∈p.l,Nm n e x:=by
 intro x hx;simp only[Pq.l,an9,aob,or_false]at hx;rcases hx with rfl |rfl |rfl |rfl
 ·exact h.c
 ·exact h.s
 ·exact h.x
 ·exact h.y
section
variable{ts:LL}{r e f:Nat}(tw:Tw ts r){x y x2 y2:Et ts}
include tw
end
section
variable{E:Nat}{l:Li}{a:As}(D:DyW l a)(h3:(llq a.rs).length<=2)
include D h3
end
structure AqE(E:Nat)(l:Li)(a:Aq):Prop where
  s:AqS l a
  be:∀p∈a.bs,Pq.ok a.ts.length E p
  le:E<=3200000000
theorem AqS.e{l:Li}{a:Aq}(F:AqS l a):AqE 3200000000 l a:=⟨F,F.bs,anp _⟩
section
variable{E:Nat}{l:Li}(hl:l.ok){a:Aq}(F:AqE E l a)(hs:splitE l=0){k:Nat}{g:Gr}(hg:(splitG l)[k]?=some g)
include hl F hs hg
end
section
variable{l:Li}(hl:l.ok){a:Aq}(F:AqS l a)(hs:splitE l=0){k:Nat}{g:Gr}(hg:(splitG l)[k]?=some g)
include hl F hs hg
end
open Lean.Grind (CommRing)
def fj(ps:List Pse):Aq:=⟨[],ps.map bZ,[]⟩
theorem LF(ps:List Pse):(fj ps).as=q7 (ps.map Pse.r4):=by
 unfold fj Aq.as q7;rw[map_map,map_map];rfl
theorem Sw{l:Li}{a:As}{j:Jt}(h:sI l a j=true):JH l (llq a.rs) (aG a) j:=by
 have e:∀b pt,i9 l a b pt=aq l (llq a.rs) (aG a) b pt:=fun b pt=>f6 l a b pt
 unfold sI at h;unfold JH
 by_cases hk:j.kind=0
 ·rw[aoz hk]at h ⊢;rw[e,e,anq]at h;exact⟨ao1 h.1,ao1 h.2⟩
 ·rw[aoy hk]at h ⊢;rw[e,e,e]at h;exact ao1 h
theorem Zj{U:LL}(hp:dj U)(p:Pse):CH U (bZ p):=by
 have hc:(dE U (bZ p).c:Et U)=qE (d8 p.turn.half p.turn.t.q):=kM _ _;have hs:(dE U (bZ p).s:Et U)=qE (d6 p.turn.half p.turn.t.q):=kM _ _;have q1:(qE 1:Et U)=1:=rfl;unfold CH;rw[hc,hs,<- jS,<- jS,<- rc,L4,q1,show(1:Et U)-1=0 by grind];exact(eG _ _ hp).zero
theorem ads(p:Pse):Nq 0 (bZ p):=⟨(ek 0 _).le,(ek 0 _).le,(ek 0 _).le,(ek 0 _).le⟩
structure Drw(l:Li)(ps:List Pse):Prop where
  hl:l.ok
  li:aM l=0
  sp:splitE l=0
  ln:ps.length=l.bo.length
  lok:∀p∈ps,p.lok
  ok:∀p∈ps,p.ok=true
  js:∀j∈l.jo,JH l [] (ps.map bZ) j
theorem acp{l:Li}{ps:List Pse}(hl:l.ok)(eT:∀p∈ps,p.lok)(h:mK l ps=true):Drw l ps:=by
 obtain⟨h1,h2,h3,h4,h5⟩:=Oq h
 have iC:splitE l=0:=by
  unfold mK at h;simp only[anq,ao0]at h;exact h.2.2.1
 refine⟨hl,h1,iC,h2,eT,h3,fun j hj=>?_⟩;have h9:=h5 j hj;rw[<- LF]at h9;have h8:=Sw h9
 have:∀(U:LL)(bs:List Pq),U=[]->bs=ps.map bZ->JH l U bs j->JH l [] (ps.map bZ) j:=by
  rintro _ _ rfl rfl h;exact h
 exact this _ _ (fj ps).llq (oe (fj ps)) h8
theorem Pr{ps:List Pse}{i:Nat}(h:i<ps.length):(ps.map bZ).getD i aN=bZ (ps.getD i default):=by
 obtain⟨p,hp⟩:=aB h;rw[aw hp];exact aw (by rw[anr,hp];rfl)
def Fc(l:Li)(ps:List Pse)(g:Gr):Nat:=kD l (fj ps).as g (cD g (fw l ps))
section
variable{l:Li}{ps:List Pse}(D:Drw l ps)
include D
theorem Drw.ch{U:LL}(hp:dj U){b:Int}(h0:0<=b)(hb:b<l.bo.length):CH U ((ps.map bZ).getD b.toNat aN):=by
 have:=D.ln;rw[Pr oz];exact Zj hp _
theorem Drw.w:WkC l (fw l ps) 1000 1000:=by
 refine⟨D.hl,D.li,D.sp,fun b hb m hm=>?_,anl _,fun x hx=>?_⟩
 ·have h:=(D.hl.bo b hb).pts m hm;exact⟨h.qx,h.qy⟩
 ·obtain⟨d,hd,rfl⟩:=al0.1 hx;obtain⟨i,hi,rfl⟩:=alx.1 hd;have hb:=cS (lZ D.li (ano hi));have eg:=D.ln;obtain⟨p,hp⟩:=aB (l:=ps) (i:=l.dv[i].body.toNat) oz;rw[aw hp];have hm:=ank hp;have hk:=D.lok p hm;exact⟨hk.ok.t,(Fj (D.ok p hm)).1,hk.t.mono oz,Cb.one ((qS hk.t).mono oz),Cb.one ((qM hk.t).mono oz)⟩
theorem Drw.q:QInv l 0 0 1000 (fj ps):=by
 refine⟨rS,anp _,fun p hp=>?_,?_⟩
 ·obtain⟨q,hq,rfl⟩:=al0.1 hp;exact DZ (by show 0<=5;omega) (D.lok q hq)
 ·show(ps.map bZ).length=_;rw[anl];exact D.ln
theorem Drw.tn{g:Gr}(hg:DyK l g)(hk:g.kind=0):∃p∈ps,(ps.map bZ).getD (ay g 0).toNat aN=bZ p/\cD g (fw l ps)=p.turn/\ps[(ay g 0).toNat]?=some p:=by
 cases hg with
 | @drv b z d j dr t d0 hd hb =>
  have hi:=(alj.1 hd).1;have s9:=cS (lZ D.li hd);have eg:=D.ln;have e0:ay ⟨0,[b],[z],d⟩ 0=b:=rfl;obtain⟨p,hp⟩:=aB (l:=ps) (i:=b.toNat) oz;refine⟨p,ank hp,?_,?_,by rw[e0];exact hp⟩
  ·rw[e0];exact aw (by rw[anr,hp];rfl)
  ·show(if(0:Int)=0 then(fw l ps).getD d.toNat iP else iP)=_;rw[aoz rfl];refine aw ?_;unfold fw;rw[anr,hd];show some (ps.getD dr.body.toNat default).turn=_;rw[hb,aw hp]
 |rrr ne t0 t1 h0 h2 kd tie=>exact ao5 hk (by simp)
 |pr t0 t1 ha=>exact ao5 hk (by simp)
 |rp t0 t1 ha=>exact ao5 hk (by simp)
variable{k:Nat}{g:Gr}(hg:(splitG l)[k]?=some g)
include hg
theorem Drw.err:Fc l ps g=0\/Fc l ps g=15:=by
 unfold Fc;have W:=D.w;have Q:=D.q;obtain⟨dy,ok⟩:=W.grp hg;have tw:=QInv.twl W hg Q;have hp:=tw.pos;have hb:aG (fj ps).as=ps.map bZ:=oe (fj ps);obtain⟨_,_,IA⟩:=W.tn hg;cases dy with
 | @drv b z d j dr t d0 hd hb' =>
  left;obtain⟨x,hx,ex⟩:=IA rfl;have he:=(W.ok x hx).2.1;rw[ex];show(no l (fj ps).as b (aj l ⟨0,[b],[z],d⟩ 0) x).2=0;unfold no;rw[aoy oz]
 | @rrr i k z0 z1 z2 j0 j1 j2 ne t0 t1 h0 h2 kd tie =>
  show(kE l (fj ps).as i k (aj l ⟨1,[i,k],[z0,z1,z2],0⟩ 0) (aj l ⟨1,[i,k],[z0,z1,z2],0⟩ 1) (aj l ⟨1,[i,k],[z0,z1,z2],0⟩ 2)).2=0\/(kE l (fj ps).as i k (aj l ⟨1,[i,k],[z0,z1,z2],0⟩ 0) (aj l ⟨1,[i,k],[z0,z1,z2],0⟩ 1) (aj l ⟨1,[i,k],[z0,z1,z2],0⟩ 2)).2=15;unfold kE;split
  ·exact .inr rfl
  ·split
   ·rename_i hc;right;show gh _ _ _ _=15;unfold gh mJ at hc ⊢;split at hc
    ·rename_i h1;rw[aoz h1];split at hc
     ·rename_i h2;rw[aoz h2]
     ·exact ao5 rfl hc
    ·exact ao5 rfl hc
   ·exact .inl rfl
 | @pr i z0 z1 j0 j1 t0 t1 ha =>
  have e1:aj l ⟨2,[i],[z0,z1],0⟩ 1=j1:=aw t1.hj
  have IB:f7 (bh l (fj ps).as j1.b j1.on) (bh l (fj ps).as j1.b j1.to)=0:=by
   unfold f7;rw[aoy];intro h9;obtain⟨i1,i2,_⟩:=dZ D.li t1.hj;have i2:=cS i2;have hv:=tu D.li t1.hj (by rw[t1.kd];decide) rfl;have hc:=D.ch hp i2.1 i2.2;have hd:=ve hp hc (aE l j1.b j1.on) (aE l j1.b j1.to)
   have e:ae hp (a9 (bh l (fj ps).as j1.b j1.on) (bh l (fj ps).as j1.b j1.to))=ae hp (qE (bq (aE l j1.b j1.to) (aE l j1.b j1.on))):=by
    refine(rL hp _ _).trans ?_;rw[f6,f6,hb];exact hd
   have h8:=(me hp e).symm.trans h9;rw[yB]at h8;exact hv (pR h8)
  show(ki l (fj ps).as i (aj l ⟨2,[i],[z0,z1],0⟩ 0) (aj l ⟨2,[i],[z0,z1],0⟩ 1)).2=0\/(ki l (fj ps).as i (aj l ⟨2,[i],[z0,z1],0⟩ 0) (aj l ⟨2,[i],[z0,z1],0⟩ 1)).2=15;rw[e1];unfold ki;split
  ·exact .inr rfl
  ·rw[aoy (by rw[IB];simp)];exact .inl rfl
 | @rp i z0 z1 j0 j1 t0 t1 ha =>
  show(jg l (fj ps).as i (aj l ⟨3,[i],[z0,z1],0⟩ 0) (aj l ⟨3,[i],[z0,z1],0⟩ 1)).2=0\/(jg l (fj ps).as i (aj l ⟨3,[i],[z0,z1],0⟩ 0) (aj l ⟨3,[i],[z0,z1],0⟩ 1)).2=15;unfold jg;split
  ·exact .inr rfl
  ·split
   ·exact .inl rfl
   ·split
    ·exact .inl rfl
    ·exact .inl rfl
end
theorem I5{k:Nat}{f:Sv->List Aq×Nat}:∀{S:List Sv},(gq (iR k) false f S).2=0->(∀s∈S,(f s).2=0)/\(gq (iR k) false f S).1=S.flatMap fun s=>(f s).1
 |[],h=>⟨(fun s hs=>by cases hs),rfl⟩
 |s::S,h=>by
  rw[ss,aoy (show ¬iR k s.mode=false by simp[iR])]at h ⊢
  by_cases he:(f s).2≠0
  ·rw[aoz he]at h;exact ao5 h he
  ·rw[aoy he,aoy (by decide)] at h ⊢;obtain⟨h1,h2⟩:=I5 (S:=S) h;refine ⟨fun t ht=>?_,?_⟩
   ·rcases an9.1 ht with rfl |ht
    ·exact anj.1 he
    ·exact h1 t ht
   ·rw[List.flatMap_cons,<- h2]
theorem Ly{F:Nat->Int->Bool}{sg:Bool}{l:Li}{xs:List Tn}{n:Nat}{a:Aq}{gr:Gr}(hg:(splitG l)[a.ms.length]?=some gr) :
  iL F sg l xs (splitG l) (n+1) a=if kD l a.as gr (cD gr xs)≠0 then([],kD l a.as gr (cD gr xs))else gq (F a.ms.length) sg (fun sv=>iL F sg l xs (splitG l) n (a.nxt gr sv)) (fE l a.as gr (cD gr xs)):=by
 conv=>lhs;unfold iL
 rw[aw hg]
section
variable{l:Li}{xs:List Tn}{s g:Nat}(W:WkC l xs s g)
include W
end
section
variable{l:Li}{xs:List Tn}{s g:Nat}(W:WkC l xs s g)
include W
end
open Go.Proofs
open Lean.Grind (CommRing)
structure DwI(l:Li)(ds:List Pq)(a:Aq):Prop where
  lf:Lf [] a.ts
  eq:∀hp:dj a.ts,∀b:Int,0<=b->kn (jv l (splitG l) a.ms.length) b=true->Eqp hp (a.bs.getD b.toNat aN) (ds.getD b.toNat aN)
section
variable{l:Li}{ps:List Pse}(D:Drw l ps){s g:Nat}(W:WkC l (fw l ps) s g)
include D W
theorem Sq{n:Nat}{a:Aq}(St:WkSt l s g (n+1) a)(H:DwI l (ps.map bZ) a){gr:Gr}(hg:(splitG l)[a.ms.length]?=some gr)(he:kD l a.as gr (cD gr (fw l ps))=0) :
  ∃sv∈fE l a.as gr (cD gr (fw l ps)),DwI l (ps.map bZ) (a.nxt gr sv):=by
 obtain⟨⟨j,r,E,y,Q,ok,hc⟩,hl⟩:=St;have tw:=QInv.twl W hg Q;have hq:(Lw.llq a.as.rs)=a.ts:=a.llq;obtain⟨dy,gok⟩:=W.grp hg;have N:=Bj W.li W.sp hg;have eg:=D.ln
 have hN:∀p∈aG a.as,Nq (Lw.llq a.as.rs).length p:=by
  intro p hp;rw[oe]at hp;rw[hq];exact(Q.bs p hp).nq
 have nd:∀p∈ps.map bZ,Nq 0 p:=fun p hp=>by
  obtain⟨q,_,rfl⟩:=al0.1 hp;exact ads q
 have sm:∀b:Int,fI (ps.map bZ) (ps.map bZ) ([]:LL).length b:=fun b=>⟨rfl,tY nd _⟩
 have L0:Lf [] (Lw.llq a.as.rs):=by rw[hq];exact H.lf
 have eqc:∀(T:LL),T=a.ts->∀hp:dj T,∀b:Int,0<=b->kn (jv l (splitG l) a.ms.length) b=true->Eqp hp (a.bs.getD b.toNat aN) ((ps.map bZ).getD b.toNat aN):=by
  rintro _ rfl hp b h0 hk;exact H.eq hp b h0 hk
 obtain⟨sv,hs,L,hE⟩:=agz tw (ds:=ps.map bZ) hN nd dy (fun b hb=>by
  have:=gok.b b hb
  rw[oe,Q.ln];omega) W.li he (fun z hz jt hj=>by
   rw[oe];obtain⟨na,nb⟩:=N.j z hz jt hj;obtain⟨i1,i2,_⟩:=dZ W.li hj;exact⟨fun h=>eqc _ hq tw.pos _ (cS i1).1 (na.resolve_left h),fun h=>eqc _ hq tw.pos _ (cS i2).1 (nb.resolve_left h)⟩) (fun z hz=>by
   obtain⟨jt,hj⟩:=aB (l:=l.jo) (i:=z.toNat) (by have:=gok.j z hz;omega);rw[aw hj];exact L0.jh (sm _) (sm _) (D.js jt (ank hj))) (fun b hb=>D.ch tw.pos (gok.b b hb).1 (gok.b b hb).2) (fun hk=>by
   obtain⟨p,_,e1,e2,_⟩:=D.tn dy hk;rw[e1,e2];exact⟨kM _ _,kM _ _⟩)
 rw[oe]at hE;have L1:Lf a.ts sv.ts:=KI hq L;refine⟨sv,hs,H.lf.trans L1,fun hp b h0 hk=>?_⟩;have fP:(a.nxt gr sv).ms.length=a.ms.length+1:=by show(a.ms++[sv.mode]).length=_;simp
 rw[fP,Bc hg gok h0]at hk;show Eqp hp ((bi a.bs gr.bo sv.ps).getD b.toNat aN) ((ps.map bZ).getD b.toNat aN)
 by_cases hb:b∈gr.bo
 ·exact hE b hb
 ·have hn:gr.bo.any (fun x=>decide (x=b))=false:=by
   cases h:gr.bo.any (fun x=>decide (x=b))with
   |false=>rfl
   |true =>
    rw[ald]at h;obtain⟨x,hx,e⟩:=h;exact ao5 (ao1 e▸hx) hb
  rw[hn,Bool.false_or]at hk;rw[Gi (fun x hx=>(gok.b x hx).1) hb h0];obtain⟨r2,gG⟩:∃r2,Tw a.ts r2:=⟨_,Q.tw⟩
  exact Eqp.up L1 (tY (fun p hp=>(Q.bs p hp).nq) _) (MX (tY nd _) (ans _)) (H.eq gG.pos b h0 hk)
theorem Qd:∀(n:Nat)(a:Aq),WkSt l s g n a->DwI l (ps.map bZ) a->(iL iR false l (fw l ps) (splitG l) n a).2=0->∃b∈(iL iR false l (fw l ps) (splitG l) n a).1,WkSt l s g 0 b/\DwI l (ps.map bZ) b
 |0,a,h,H,_=>⟨a,alr.2 rfl,h,H⟩
 |n+1,a,h,H,he=>by
  obtain⟨gr,hg,_,hP,hn⟩:=h.next W;rw[Ly hg]at he ⊢;split at he
  ·rename_i h1;exact ao5 he h1
  ·rename_i h1;rw[aoy h1];obtain⟨h2,h3⟩:=I5 he;obtain⟨sv,hs,H2⟩:=Sq D W h H hg (anj.1 h1);obtain⟨b,hb,h4⟩:=Qd n _ (hn sv hs) H2 (h2 sv hs);rw[h3];exact⟨b,List.mem_flatMap.2 ⟨sv,hs,hb⟩,h4⟩
end
theorem FJ{F:Int->Bool}{sg:Bool}{f:Sv->List Aq×Nat}{P:Nat->Prop}(h0:P 0):∀{S:List Sv},(∀s∈S,P (f s).2)->P (gq F sg f S).2
 |[],_=>h0
 |s::S,h=>by
  rw[ss];split
  ·exact FJ h0 (fun t ht=>h t (aom _ ht))
  ·split
   ·exact h s aok
   ·split
    ·exact h s aok
    ·exact FJ (F:=F) (sg:=sg) h0 (fun t ht=>h t (aom _ ht))
section
variable{l:Li}{xs:List Tn}{s g:Nat}(W:WkC l xs s g)
include W
theorem afq{gr:Gr}{a:Aq}(hg:(splitG l)[a.ms.length]?=some gr){j r E:Nat}(Q:QInv l j r E a)(H:WkH l xs a):kD l a.as gr (cD gr xs)=0\/kD l a.as gr (cD gr xs)=15:=by
 obtain⟨dy,ok⟩:=W.grp hg;have tw:=QInv.twl W hg Q;have hp:=tw.pos;have hq:(Lw.llq a.as.rs)=a.ts:=a.llq;have hb:aG a.as=a.bs:=oe a;have N:=Bj W.li W.sp hg;obtain⟨_,_,IA⟩:=W.tn hg;cases dy with
 | @drv b z d j dr t d0 hd hb' =>
  left;obtain⟨x,hx,ex⟩:=IA rfl;have he:=(W.ok x hx).2.1;rw[ex];show(no l a.as b (aj l ⟨0,[b],[z],d⟩ 0) x).2=0;unfold no;rw[aoy oz]
 | @rrr i k z0 z1 z2 j0 j1 j2 ne t0 t1 h0 h2 kd tie =>
  show(kE l a.as i k (aj l ⟨1,[i,k],[z0,z1,z2],0⟩ 0) (aj l ⟨1,[i,k],[z0,z1,z2],0⟩ 1) (aj l ⟨1,[i,k],[z0,z1,z2],0⟩ 2)).2=0\/(kE l a.as i k (aj l ⟨1,[i,k],[z0,z1,z2],0⟩ 0) (aj l ⟨1,[i,k],[z0,z1,z2],0⟩ 1) (aj l ⟨1,[i,k],[z0,z1,z2],0⟩ 2)).2=15;unfold kE;split
  ·exact .inr rfl
  ·split
   ·rename_i hc;right;show gh _ _ _ _=15;unfold gh mJ at hc ⊢;split at hc
    ·rename_i h1;rw[aoz h1];split at hc
     ·rename_i h2;rw[aoz h2]
     ·exact ao5 rfl hc
    ·exact ao5 rfl hc
   ·exact .inl rfl
 | @pr i z0 z1 j0 j1 t0 t1 ha =>
  have e1:aj l ⟨2,[i],[z0,z1],0⟩ 1=j1:=aw t1.hj
  have IB:f7 (bh l a.as j1.b j1.on) (bh l a.as j1.b j1.to)=0:=by
   unfold f7;rw[aoy];intro h9;obtain⟨i1,i2,_⟩:=dZ W.li t1.hj;have i2:=cS i2;have hv:=tu W.li t1.hj (by rw[t1.kd];decide) rfl
   have uD:j1.b∉([i]:List Int):=by
    rcases t1.tie with h |h
    ·exact h.2
    ·exact ao5 (alr.2 ha) h.2
   have bw:=((N.j z1 (by simp) j1 t1.hj).2).resolve_left uD;have rj:=H.cs j1.b i2.1 bw;have hc:CH (Lw.llq a.as.rs) (a.bs.getD j1.b.toNat aN):=by rw[hq];exact rj
   have hd:=ve hp hc (aE l j1.b j1.on) (aE l j1.b j1.to)
   have e:ae hp (a9 (bh l a.as j1.b j1.on) (bh l a.as j1.b j1.to))=ae hp (qE (bq (aE l j1.b j1.to) (aE l j1.b j1.on))):=by
    refine(rL hp _ _).trans ?_;rw[f6,f6,hb];exact hd
   have h8:=(me hp e).symm.trans h9;rw[yB]at h8;exact hv (pR h8)
  show(ki l a.as i (aj l ⟨2,[i],[z0,z1],0⟩ 0) (aj l ⟨2,[i],[z0,z1],0⟩ 1)).2=0\/(ki l a.as i (aj l ⟨2,[i],[z0,z1],0⟩ 0) (aj l ⟨2,[i],[z0,z1],0⟩ 1)).2=15;rw[e1];unfold ki;split
  ·exact .inr rfl
  ·rw[aoy (by rw[IB];simp)];exact .inl rfl
 | @rp i z0 z1 j0 j1 t0 t1 ha =>
  show(jg l a.as i (aj l ⟨3,[i],[z0,z1],0⟩ 0) (aj l ⟨3,[i],[z0,z1],0⟩ 1)).2=0\/(jg l a.as i (aj l ⟨3,[i],[z0,z1],0⟩ 0) (aj l ⟨3,[i],[z0,z1],0⟩ 1)).2=15;unfold jg;split
  ·exact .inr rfl
  ·split
   ·exact .inl rfl
   ·split
    ·exact .inl rfl
    ·exact .inl rfl
theorem Jm:∀(n:Nat)(a:Aq),WkSt l s g n a->WkH l xs a->(iL iR false l xs (splitG l) n a).2=0\/(iL iR false l xs (splitG l) n a).2=15
 |0,a,h,H=>.inl rfl
 |n+1,a,h,H=>by
  obtain⟨gr,hg,_,hP,hn⟩:=h.next W;obtain⟨⟨j,r,E,y,Q,ok,hc⟩,hl⟩:=h;rw[Ly hg];have he:=afq W hg Q H;split
  ·rename_i h1;exact .inr (he.resolve_left h1)
  ·exact FJ (P:=fun e=>e=0\/e=15) (.inl rfl) (fun sv kJ=>Jm n _ (hn sv kJ) (WkH.step W hg Q H kJ))
end
theorem ZK{half:Bool}{t:Rat}{e:Nat}(h:Qb e t):Cb (2*e+2) [d8 half t]/\Cb (2*e+2) [d6 half t]:=by
 cases half with
 |true =>
  have h1:Qb (2*e+2) (d8 true t):=by
   show Qb (2*e+2) (-1);exact Qb.one.neg.mono oz
  have h2:Qb (2*e+2) (d6 true t):=by
   show Qb (2*e+2) 0;exact Qb.zero.mono oz
  exact⟨Cb.one h1,Cb.one h2⟩
 |false =>
  obtain⟨hn,hd⟩:=h
  have fh:((t.den:Int):Rat)≠0:=by
   intro h0;have:(t.den:Int)=0:=amk.1 h0;have:=t.den_nz;omega
  have hq:t=(t.num:Rat)/((t.den:Int):Rat):=by
   rw[<- amg,amm]
  have hv:t*((t.den:Int):Rat)=(t.num:Rat):=by
   have h1:(t.num:Rat)/((t.den:Int):Rat)*((t.den:Int):Rat)=(t.num:Rat):=amn fh;rw[<- hq]at h1;exact h1
  have bV:(1:Rat)+t*t≠0:=by
   have:=pN t;intro h0;grind
  obtain⟨n,mv⟩:∃n,n=t.num:=⟨_,rfl⟩
  obtain⟨d,hd9⟩:∃d,d=t.den:=⟨_,rfl⟩
  have RL:0<d:=by have:=t.den_nz;omega
  rw[<- mv]at hn hv;rw[<- hd9]at hd hv;obtain⟨D,hD⟩:∃D,D=d*d+n.natAbs*n.natAbs:=⟨_,rfl⟩
  have hDi:(D:Int)=(d:Int)*d+n*n:=by
   rw[hD,Int.natCast_add,Int.natCast_mul,Int.natAbs_mul_self]
  have RM:((D:Int):Rat)=(1+t*t)*(((d:Int):Rat)*((d:Int):Rat)):=by
   rw[hDi,Rat.intCast_add,ami,ami,<- hv];grind
  have hp:2^(2*e+2)=4*(2^e*2^e):=by
   rw[aoo,Nat.two_mul,aoo];omega
  have b1:d*d<=2^e*2^e:=akw (le_of_lt hd) (le_of_lt hd);have b2:n.natAbs*n.natAbs<=2^e*2^e:=akw (le_of_lt hn) (le_of_lt hn);have b3:n.natAbs*d<=2^e*2^e:=akw (le_of_lt hn) (le_of_lt hd)
  have RN:0<D:=by
   have:=aju RL RL;omega
  have RO:D<=2^(2*e+2):=by omega
  refine⟨⟨D,2^(2*e+2),⟨RN,fun x hx=>?_⟩,RO,anp _⟩,⟨D,2^(2*e+2),⟨RN,fun x hx=>?_⟩,RO,anp _⟩⟩
  ·rw[alr.1 hx];refine⟨(d:Int)*d-n*n,?_,?_⟩
   ·show(1-t*t)/(1+t*t)*_=_;rw[RM,<- Rat.mul_assoc,amn bV,Rat.intCast_sub,ami,ami,<- hv];grind
   ·have e1:((d*d:Nat):Int)=(d:Int)*d:=Int.natCast_mul _ _;have e2:((n.natAbs*n.natAbs:Nat):Int)=n*n:=Int.natAbs_mul_self;rw[<- e1,<- e2];omega
  ·rw[alr.1 hx];refine⟨n*d+n*d,?_,?_⟩
   ·show(t+t)/(1+t*t)*_=_;rw[RM,<- Rat.mul_assoc,amn bV,Rat.intCast_add,ami,<- hv];grind
   ·have e1:(n*(d:Int)).natAbs=n.natAbs*d:=by rw[al3,aoj]
    omega
section
variable{l:Li}{ps:List Pse}(D:Drw l ps)
include D
theorem Drw.tq{x:Tn}(hx:x∈fw l ps):Qb 96 x.t.q:=by
 obtain⟨d,hd,rfl⟩:=al0.1 hx;obtain⟨i,hi,rfl⟩:=alx.1 hd;have hb:=cS (lZ D.li (ano hi));have eg:=D.ln;obtain⟨p,hp⟩:=aB (l:=ps) (i:=l.dv[i].body.toNat) oz;rw[aw hp];exact(D.lok p (ank hp)).t
theorem Drw.op:gd l (fw l ps)=0:=by
 rw[FU D.li D.sp,aoy (fun h=>h (anl _))];exact tQ fun y hy=>(D.w.ok y hy).2.1
theorem Drw.cls(hL:mH l []=true):∃s g,WkC l (fw l ps) s g/\WkSt l s g (splitG l).length (fY l):=by
 have au:=D.li;have iC:=D.sp;have hl:=D.hl;unfold mH at hL;simp only[anq,ao0]at hL;obtain⟨⟨_,_⟩,_,hM,hR⟩:=hL;rw[anx]at hM;rw[aoz au]at hR;unfold BG at hR;rw[km,km,jw]at hR;have pu:=OH au iC;have df:=vO au;have hcn:=OI (splitG l)
 have Au:∀(s g n y:Nat),fL s g n y 0 0 2=true->(splitG l).length<=n->(splitG l).countP oJ<=y->WkSt l s g (splitG l).length (fY l):=fun s g n y ok h1 h2 =>
  ⟨⟨0,0,2,y,FW l,yh ok h1 (anp _),h2⟩,akv _⟩
 have iV:∀x∈fw l ps,x.t.ok/\x.err=0/\Qb 1000 x.t.q/\Cb 200 [d8 x.half x.t.q]/\Cb 200 [d6 x.half x.t.q]:=fun x hx=>by
  obtain⟨h1,h2,h3,_⟩:=D.w.ok x hx;obtain⟨c1,c2⟩:=ZK (half:=x.half) (D.tq hx);exact⟨h1,h2,h3,c1.mono oz,c2.mono oz⟩
 have eg:(fw l ps).length=l.dv.length:=anl _
 by_cases hn:(splitG l).length<=l.dv.length+1
 ·refine⟨32,200,⟨hl,au,iC,?_,eg,iV⟩,Au 32 200 3 1 ag5 oz oz⟩;intro b hb m hm;have h9:=hM b hb;rw[anx]at h9;have h8:=h9 m hm;unfold oX at h8;rw[ao0]at h8;have ho:=(hl.bo b hb).pts m hm;exact⟨(Rt.qb ho.x (k:=1) oz h8.1 h8.2.1).mono oz,(Rt.qb ho.y (k:=1) oz h8.2.2.1 h8.2.2.2).mono oz⟩
 ·have Ix:(splitG l).length=l.dv.length+2/\rN l=true:=by
   simp only[aos,anq]at hR;rcases hR with(h9 |h9) |⟨h9,h8⟩
   ·rw[iC]at h9;exact ao5 h9 (by simp[aa])
   ·have:((splitG l).length:Int) - l.dv.length<=1:=by simpa[aa] using h9
    omega
   ·have:((splitG l).length:Int) - l.dv.length=2:=by simpa[aa] using h9
    exact⟨by omega,h8.2⟩
  obtain⟨bK,uR⟩:=Ix;refine⟨9,200,⟨hl,au,iC,?_,eg,iV⟩,Au 9 200 4 2 ag6 oz oz⟩;intro b hb m hm;unfold rN at uR;rw[anx]at uR;have h9:=uR b hb;unfold wA at h9;rw[anx]at h9;have h8:=h9 m hm;simp only[all_cons,List.all_nil,Bool.and_true,anq]at h8;have ho:=(hl.bo b hb).pts m hm;exact⟨yP ho.x h8.1,yP ho.y h8.2⟩
theorem Y9(hf:mK l ps=true):DwI l (ps.map bZ) (fY l):=by
 have hb:=(dC D.li).2.2.2;have eg:=D.ln;refine⟨oN rS.pos,fun hp b h0 hk=>?_⟩;have:b=0:=Pe h0 hk;subst this;have e0:(fY l).bs.getD (0:Int).toNat aN=oC:=qg (by rw[aon];omega);rw[e0];obtain⟨_,_,_,h4,_⟩:=Oq hf;have e1:(ps.map bZ).getD (0:Int).toNat aN=bZ (ps.getD 0 default):=Pr oz;rw[e1]
 have e2:bZ (ps.getD 0 default)=oC:=by
  rw[<- ahq];unfold vp at h4;simp only[anq,ao0]at h4;obtain⟨⟨⟨c,s⟩,x⟩,y⟩:=h4;unfold R4.pq;rw[c,s,x,y];rfl
 rw[e2];exact Eqp.rf _ _
variable{s g:Nat}(W:WkC l (fw l ps) s g)
include W
theorem XJ{b:Aq}(St:WkSt l s g 0 b)(H:DwI l (ps.map bZ) b)(hp:dj b.ts){i:Nat}(hi:i<l.bo.length):Eqp hp (b.bs.getD i aN) ((ps.map bZ).getD i aN):=by
 have _:=D;obtain⟨_,hl⟩:=St;obtain⟨r1,r2,r3⟩:=ade W.sp;have bK:(cq l).length=l.bo.length:=by unfold cq;rw[No Gr.bo,kC]
 have hk:=ah1 r1 (i:=i) oz
 have e:cq l=jv l (splitG l) b.ms.length:=by
  unfold jv cq;rw[r3]at hl ⊢;rw[an1 oz]
 rw[e]at hk;have:=H.eq hp i oz hk
 rwa [aol]at this
end
theorem GB{l:Li}(hl:l.ok){a:Aq}(F:AqS l a){body pt:Int}(h1:bT body l.bo.length=true)(h2:bT pt (dw l body).length=true) :
  FP 148 [l.av,a.av,i64 body,i64 pt] (aP (sX (aq l a.ts a.bs body pt).1) (sX (aq l a.ts a.bs body pt).2)):=by
 obtain⟨n,k,bd,m,h⟩:=v6 hl F.li h1 h2;obtain⟨r,hr,tw⟩:=F.tw;have lA:=GJ hr F.two;have dW:=zo F.two;have dU:=(dC F.li).2.2.2.1;obtain⟨p,hp⟩:=aB (l:=a.bs) (i:=n) (by rw[F.ln];exact(alj.1 h.gbd).1);have po:=F.bs p (ank hp);have hn:=h.hn;have hk:=h.hk
 have e:aq l a.ts a.bs body pt=a8 a.ts p (aE l body pt):=by
  unfold aq;rw[hn,aol,aw hp]
 have nG:FP 253 [aZ a.ts,p.av,m.x.av,m.y.av] (aP (sX (aq l a.ts a.bs body pt).1) (sX (aq l a.ts a.bs body pt).2)):=by
  rw[h.ex,h.ey,e];exact aef tw po.c po.s po.x po.y (h.sm.x.mono oz) (h.sm.y.mono oz) oz
 have gb:=h.gbd;have gm:=h.gm;clear h h1 h2 e;subst hn;subst hk;refine am func148 ?_;refine gi (aL gb) ?_;refine gi (aL gm) ?_;refine gi (aL hp) ?_;refine gc nG ?_;refine gD ?_;refine ai ?_
 first |rfl |(simp;done)
theorem XF{l:Li}(hl:l.ok){a:Aq}(F:AqS l a){i:Nat}{j:Jt}(hj:l.jo[i]?=some j):FP 61 [l.av,a.av,j.av] (bl (yo l a j)):=by
 obtain⟨r,hr,tw⟩:=F.tw;have lA:=GJ hr F.two;have dW:=zo F.two;obtain⟨i1,i2,i3,i4,i5⟩:=dZ F.li hj;have np:=FX F hl i1 i3;have nq:=FX F hl i2 i4;refine am func61 ?_;refine gc (GB hl F i1 i3) ?_;refine gc (GB hl F i2 i4) ?_;refine gC (fun z=>?_) (fun z=>?_)
 ·have hk:j.kind=0:=dI z;have RP:=JV tw np.1 np.2 nq.1 nq.2 oz;rw[show af a.ts.length (sX (aq l a.ts a.bs j.a j.point).1)=_ from bn _ _,show af a.ts.length (sX (aq l a.ts a.bs j.a j.point).2)=_ from bn _ _,show af a.ts.length (sX (aq l a.ts a.bs j.b j.on).1)=_ from bn _ _,show af a.ts.length (sX (aq l a.ts a.bs j.b j.on).2)=_ from bn _ _]at RP;refine gc RP ?_;refine ai ?_;unfold yo;rw[aoz hk];exact ao6 bl (amp _ _).symm
 have hk:j.kind≠0:=fq z;have nr:=FX F hl i2 (i5 hk);have RQ:=Wx tw nq.1 nq.2 nr.1 nr.2 np.1 np.2 oz;rw[show af a.ts.length (sX (aq l a.ts a.bs j.a j.point).1)=_ from bn _ _,show af a.ts.length (sX (aq l a.ts a.bs j.a j.point).2)=_ from bn _ _,show af a.ts.length (sX (aq l a.ts a.bs j.b j.on).1)=_ from bn _ _,show af a.ts.length (sX (aq l a.ts a.bs j.b j.on).2)=_ from bn _ _,show af a.ts.length (sX (aq l a.ts a.bs j.b j.to).1)=_ from bn _ _,show af a.ts.length (sX (aq l a.ts a.bs j.b j.to).2)=_ from bn _ _]at RQ
 refine gc (GB hl F i2 (i5 hk)) ?_;refine gc RQ ?_;refine gD ?_;refine ai ?_;unfold yo;rw[aoy hk];exact ao6 bl vV
theorem JS(ps:List Pse)(eT:∀p∈ps,p.lok)(kH:ps.length<=20)(h2:∀p∈ps,p.ok=true):FP 15 [.lst 10 (ps.map Pse.av)] (JB (ps.map bZ)):=by
 refine am func15 ?_;refine gl ?_;refine gW (Wk.virt 900 4 rfl) ?_;refine aY [2,3,6,7] [2] (fun(i:Nat)=>[pP 8 (i64 i)]) (fun i=>[pP 3 (.box [nS,.ms 900 4 0 i,nS]),pP 900 (.row 4 (((ps.take i).map bZ).map Pq.av))]) (fun i=>i<=ps.length) (fun i=>ps.length-i) 0 (ans _) ?_ (h2:=(.cons rfl (BlkSub.bL (.cons (.refl _) (.cons (.nM _ _ _) (.cons (.refl _) .nil))) rfl) (.k .nil)));rintro i hi K1 J1;refine gC (fun z=>?_) (fun z=>?_) (st2:=(7,0))
 ·have ah:=bf z;obtain⟨p,hp⟩:=aB ah;have nB:=ank hp;have kK:=eT p nB;have h1:=h2 p nB;have hc:=aeh p.turn.half kK.t oz;rw[<- Rt.eq_rt kK.ok.t (Tn.ok_valid (Fj h1).1)]at hc;have hs:=Vb p.turn.half kK.t oz;rw[<- Rt.eq_rt kK.ok.t (Tn.ok_valid (Fj h1).1)]at hs;refine gi (aL hp) ?_;refine gc hc ?_;refine gc (yT ((qS kK.t).qs oz)) ?_;refine gc hs ?_;refine gc (yT ((qM kK.t).qs oz)) ?_;refine gc (Hx p.at_.x kK.ok.x (kK.x.qs oz)) ?_;refine gc (Hx p.at_.y kK.ok.y (kK.y.qs oz)) ?_;refine gs (cZ (.tmp rfl) rfl (by rw[anl,anl,an6];omega) (.tmp rfl) T45 rfl T55 rfl rfl (by dsimp only;simp only[an0,aoa];omega) rfl rfl) ?_;refine gD ?_ (6,0);refine gW (Wk.of (sl:=[pP 2 (.ptr 2 0),pP 3 (.ptr 3 0),pP 6 (.lst 10 (ps.map Pse.av)),pP 7 (i64 ps.length),pP 8 (i64 i)]) (hp:=[pP 2 (.box [nS,nS,nS]),pP 3 (.box [nS,.ms 32 4 0 (i+1),nS]),pP 32 (.row 4 (((ps.take (i+1)).map bZ).map Pq.av))]) bg (.k (.k (.cons rfl (.of (by rw[dR hp,aoc,aoc];rfl)) .nil)))) ?_ (6,0);refine gW (Wk.rk (k:=32) (d:=900) rfl rfl) ?_;refine ga aU ?_;exact aS J1 (i+1) ah
 have ah:=bu hi z;subst ah;refine gW ((Wk.freeze (k:=900) rfl).trans<|Wk.of (sl:=[pP 2 (.ptr 2 0),pP 3 (.ptr 3 0)]) (hp:=[pP 2 (.box [nS,nS,nS]),pP 3 (.box [nS,.lst 4 ((ps.map bZ).map Pq.av),nS])]) bg (.k (.cons rfl (BlkSub.bL (.cons (.refl _) (.cons (.of (by rw[cz (by rw[anl,anl,an6];omega),an3])) (.cons (.refl _) .nil))) rfl) .nil))) ?_;refine gR ?_;exact kX Zz
theorem Wj{l:Li}(au:aM l=0){ps:List Pse}(eT:∀p∈ps,p.lok)(eg:ps.length=l.bo.length):AqS l (fj ps):=by
 refine⟨au,⟨0,by omega,rS⟩,by show 0<=2;omega,fun p hp=>?_,by show(ps.map bZ).length=_;rw[anl];exact eg⟩;obtain⟨q,hq,rfl⟩:=al0.1 hp;exact Pq.ok.up (DZ (n:=0) oz (eT q hq)) (anp _) (by show 0<=5;omega) oz
theorem YI{l:Li}{ps:List Pse}{j:Jt}:yo l (fj ps) j=sI l (q7 (ps.map Pse.r4)) j:=by
 rw[<- LF]
 have e:∀(U:LL)(bs:List Pq),U=[]->bs=ps.map bZ->(if j.kind=0 then decide (T.sgn (az U) U.length (subT U (aq l U bs j.a j.point).1 (aq l U bs j.b j.on).1)=0/\T.sgn (az U) U.length (subT U (aq l U bs j.a j.point).2 (aq l U bs j.b j.on).2)=0)
   else decide (T.sgn (az U) U.length (vz U (aq l U bs j.b j.on).1 (aq l U bs j.b j.on).2 (aq l U bs j.b j.to).1 (aq l U bs j.b j.to).2 (aq l U bs j.a j.point).1 (aq l U bs j.a j.point).2)=0))=yo l (fj ps) j:=by
  rintro _ _ rfl rfl;rfl
 rw[<- e _ _ (fj ps).llq (oe (fj ps))];have g:∀b pt,i9 l (fj ps).as b pt=aq l (llq (fj ps).as.rs) (aG (fj ps).as) b pt:=fun b pt=>f6 l (fj ps).as b pt
 unfold sI;rw[g,g,g];split
 ·exact amp _ _
 ·rfl
theorem ae5{p:Pse}(h:p.lok):p.r4.ok:=⟨(qS h.t).mono oz,(qM h.t).mono oz,h.x.mono oz,h.y.mono oz⟩
theorem VW{p:Pse}(h:p.lok):FP 17 [.agg [.lst 1 []],(bZ p).av,.agg [nA [1],nA [],nA [],nA []]] (bl (vp p.r4)):=by
 have hp:=DZ (n:=0) oz h;have hf:=VR (n:=0) oz;have h1:=M9 (ts:=[]) rS (hp.c.mono oz) (hp.s.mono oz) (hp.x.mono oz) (hp.y.mono oz) hf.c hf.s hf.x hf.y (by have:=zo (ts:=[]) (by show 0<=2;omega);omega)
 have e:(fJ [] (af 0 (bZ p).c) (af 0 yj.c)&&fJ [] (af 0 (bZ p).s) (af 0 yj.s)&&fJ [] (af 0 (bZ p).x) (af 0 yj.x)&&fJ [] (af 0 (bZ p).y) (af 0 yj.y))=vp p.r4:=by
  rw[show af 0 (bZ p).c=p.r4.c from bn 0 _,show af 0 (bZ p).s=p.r4.s from bn 0 _,show af 0 (bZ p).x=p.r4.x from bn 0 _,show af 0 (bZ p).y=p.r4.y from bn 0 _];unfold vp;rw[<- BO,<- BO,<- BO,<- BO];rfl
 rw[<- e];exact h1
theorem SP{e n m:Nat}(h:cond (aa .neq (e:Int) 0) true (aa .neq (n:Int) (m:Int))=true):decide (e=0/\n=m)=false:=by
 refine ao4 (fun⟨h1,h2⟩=>?_);subst h1;subst h2
 simp[aa]at h
theorem S5{e n m:Nat}(h:cond (aa .neq (e:Int) 0) true (aa .neq (n:Int) (m:Int))=false):e=0/\n=m:=by
 cases h1:aa .neq (e:Int) 0
 ·rw[h1]at h;exact⟨jp h1,by have:=C9 h;omega⟩
 ·rw[h1]at h;cases h
theorem YS{l:Li}(hl:l.ok)(ps:List Pse)(eT:∀p∈ps,p.lok)(kH:ps.length<=20):FP 10 [yu l ps] (bl (mK l ps)):=by
 have dU:=hl.lb;have tg:=hl.lj;have hrp:∀b∈ps.map Pse.r4,b.ok:=fun b hb=>by obtain⟨p,hp,rfl⟩:=al0.1 hb;exact ae5 (eT p hp)
 refine am func10 ?_;refine gc (Pv l hl) ?_;refine cV ?_;refine cV ?_;refine gC (fun z=>?_) (fun z=>?_)
 ·have h1:=SP z;refine ai ?_;unfold mK;rw[h1];rfl
 have h1:=S5 z;have Av:decide (aM l=0/\ps.length=l.bo.length)=true:=ao3 h1;refine gl ?_;refine aY [1,25,26] [1] (fun(i:Nat)=>[pP 27 (i64 i)]) (fun _=>[]) (fun i=>i<=ps.length/\(ps.take i).all Pse.ok=true) (fun i=>ps.length-i) 0 ⟨ans _,rfl⟩ ?_;rintro i ⟨hi,hj⟩ K1 J1;refine gC (fun z=>?_) (fun z=>?_)
 ·have ah:=bf z;obtain⟨p,hp⟩:=aB ah;have kK:=eT p (ank hp);refine gi (aL hp) ?_;refine gc (Zw p kK.ok.t kK.ok.x kK.ok.y) ?_;refine gC (fun z=>?_) (fun z=>?_)
  ·have h2:=kt hp (dP z);refine ai ?_;unfold mK;rw[Av,h2];rfl
  have h2:=dN z;refine ga aU ?_;exact aS J1 (i+1) ⟨ah,l7 hj hp h2⟩
 have uP:=lO (bu hi z) hj;have ci:∀p∈ps,p.ok=true:=anx.1 uP;have bK:(ps.map Pse.r4).length=l.bo.length:=by rw[anl,h1.2]
 have hg:=aal hl h1.1 hrp bK;obtain⟨p0,xg⟩:=aB (l:=ps) (i:=0) (by have:=(dC h1.1).2.2.2.2;omega);refine gc (KG l hl h1.1) ?_;refine gC (fun z=>?_) (fun z=>?_)
 ·have h3:=jI z;refine ai ?_;unfold mK;rw[Av,uP,ao4 h3];rfl
 have h3:=jp z;refine gc (JS ps eT kH ci) ?_;refine gi (aL (show(ps.map bZ)[0]?=some (bZ p0) by rw[anr,xg];rfl)) ?_;refine gc ac3 ?_;refine gc (VW (eT p0 (ank xg))) ?_;refine gD ?_;refine gC (fun z=>?_) (fun z=>?_)
 ·have h4:=dP z;refine ai ?_;unfold mK;rw[Av,uP,ao3 h3,aw xg,h4];rfl
 have h4:=dN z;refine gl ?_;refine aY [1,7,57,58] [1,7] (fun(i:Nat)=>[pP 59 (i64 i)]) (fun _=>[]) (fun i=>i<=l.jo.length/\(l.jo.take i).all (fun j=>sI l (q7 (ps.map Pse.r4)) j)=true) (fun i=>l.jo.length-i) 0 ⟨ans _,rfl⟩ ?_;rintro i ⟨mt,pF⟩ K2 J2;refine gC (fun z=>?_) (fun z=>?_)
 ·have ah:=bf z;obtain⟨j,mz⟩:=aB ah;have hh:=XF hl (Wj h1.1 eT h1.2) mz;rw[YI]at hh;refine gi (aL mz) ?_;refine gc hh ?_;refine gC (fun z=>?_) (fun z=>?_)
  ·have h5:=kt (p:=fun j=>sI l (q7 (ps.map Pse.r4)) j) mz (dP z);refine ai ?_;unfold mK;rw[Av,uP,ao3 h3,aw xg,h4,h5];rfl
  have h5:=dN z;refine ga aU ?_;exact aS J2 (i+1) ⟨ah,l7 pF mz h5⟩
 have h6:=lO (bu mt z) pF;refine ai ?_;unfold mK;rw[Av,uP,ao3 h3,aw xg,h4,h6];rfl
def zL(U:LL)(p q:Pq):Bool:=fJ U (af U.length p.c) (af U.length q.c)&&fJ U (af U.length p.s) (af U.length q.s)&&fJ U (af U.length p.x) (af U.length q.x)&&fJ U (af U.length p.y) (af U.length q.y)
theorem aci{U:LL}{hp:dj U}{p q:Pq}(h:Eqp hp p q):zL U p q=true:=by
 have e:∀{a b:Et U},ae hp a=ae hp b->fJ U a b=true:=fun h=>ao3 ((ig hp).1 h)
 unfold zL;rw[anq,anq,anq];exact⟨⟨⟨e h.c,e h.s⟩,e h.x⟩,e h.y⟩
def ur(ps:List Pse)(a:Aq)(n:Nat):Bool:=(List.range n).all fun k=>zL a.ts (a.bs.getD k aN) ((ps.map bZ).getD k aN)
theorem XS{ps:List Pse}{a:Aq}{n:Nat}{p q:Pq}(hp:a.bs[n]?=some p)(hq:(ps.map bZ)[n]?=some q):ur ps a (n+1)=(ur ps a n&&zL a.ts p q):=by
 unfold ur;rw[List.range_succ,all_append,<- aw (d:=aN) hp,<- aw (d:=aN) hq];simp
theorem ack{d:Bool}(h:cond (!true) true (!d)=false):d=true:=by cases d <;> simp_all
theorem UL{d f g:Bool}(h:cond (cond (cond (!true) true (!d)) true (!f)) true (!g)=false):d=true/\f=true/\g=true:=by cases d <;> cases f <;> cases g <;> simp_all
theorem PR{l:Li}{ps:List Pse}(h:vG l ps=true)(hw:l.okw)(eT:∀p∈ps,p.wok):l.ok/\(∀p∈ps,p.lok)/\ps.length<=20:=by
 unfold vG at h;simp only[anq,anx,ao0]at h;exact⟨Ej h.2.2 hw,fun p hp=>Y8 (h.1 p hp) (eT p hp),h.2.1⟩
structure AqT(l:Li)(a:Aq):Prop where
  li:aM l=0
  tw:∃r,r<=400000000/\Tw a.ts r
  two:a.ts.length<=2
  bs:∀p∈a.bs,Pq.ok a.ts.length 10200000000 p
  ln:a.bs.length=l.bo.length
theorem WkSt.aqt{l:Li}{s g:Nat}{a:Aq}(au:aM l=0)(h:WkSt l s g 0 a):AqT l a:=by
 obtain⟨⟨j,r,E,y,Q,ok,_⟩,hl⟩:=h;obtain⟨hE,hr,hj⟩:=E8 ok;have h1:=Q.lv;exact⟨au,⟨r,hr,Q.tw⟩,by omega,fun p hp=>(Q.bs p hp).up (anp _) Q.tw.five hE,Q.ln⟩
theorem MZ(e:Nat)(n:Int):FP 14 [bU e,i64 n] (bl (aa .eql (e:Int) n)):=by
 refine am func14 ?_;refine gc (aex e) ?_;refine ai ?_;rfl
theorem ado{l:Li}{a:Aq}(F:AqT l a):FP 16 [l.av,a.av] (bl true):=by
 have eg:=F.ln;obtain⟨r,hr,tw⟩:=F.tw;have dW:=zo F.two;have pb:=(dC F.li).2.2.2.1;refine am func16 ?_;refine gc (Sp tw) ?_;refine cV ?_;refine cV ?_;refine gC (fun z=>?_) (fun z=>?_) (st1:=(2,0));exact ao5 (ao6 (Nat.cast (R:=Int)) eg) (by simpa[aa]using z);refine gl ?_;refine aY [2,3,4,21,22] [2,3] (fun(i:Nat)=>[pP 23 (i64 i)]) (fun _=>[]) (fun i=>i<=a.bs.length) (fun i=>a.bs.length-i) 0 (ans _) ?_;rintro i hi K1 J1;refine gC (fun z=>?_) (fun z=>?_)
 ·have ah:=bf z;obtain⟨b,hb⟩:=aB ah;have Am:=ank hb;refine gi (aL hb) ?_;refine gc (YP tw (F.bs b Am) oz) ?_;refine gf ?_;refine ga aU ?_;exact aS J1 (i+1) ah
 refine ai ?_
 first |rfl |(simp;done)
theorem U2{l:Li}(hl:l.ok)(au:aM l=0)(ps:List Pse)(bK:ps.length=l.bo.length)(kH:ps.length<=20)(pu:l.dv.length<=30):FP 13 [yu l ps] (.lst 4 ((fw l ps).map Tn.av)):=by
 refine am func13 ?_;refine gl ?_;refine gW (Wk.virt 900 4 rfl) ?_;refine aY [1,8,9] [1] (fun(i:Nat)=>[pP 3 (.ms 900 4 0 i),pP 10 (i64 i)]) (fun i=>[pP 900 (.row 4 (((fw l ps).take i).map Tn.av))]) (fun i=>i<=l.dv.length) (fun i=>l.dv.length-i) 0 (ans _) ?_;rintro i hi K1 J1;refine gC (fun z=>?_) (fun z=>?_) (st2:=(7,0))
 ·have ah:=bf z;obtain⟨d,hd⟩:=aB ah;have hb:=cS (lZ au hd);obtain⟨p,hp⟩:=aB (l:=ps) (i:=d.body.toNat) oz;have htr:(fw l ps)[i]?=some p.turn:=by unfold fw; rw[anr,hd,<- aw hp]; rfl
  have Ie:(fw l ps).length=l.dv.length:=anl _;refine gi (aL hd) ?_;refine gi (aL hp) ?_;refine gs (cZ (.tmp rfl) rfl (by rw[anl,an6];omega) (.tmp rfl) T38 rfl T115 rfl rfl (by dsimp only;simp only[an0,aoa];omega) rfl rfl) ?_ (6,0);refine gW (Wk.of (sl:=[pP 1 (.ptr 1 0),pP 3 (.ms 23 4 0 (i+1)),pP 8 (.lst 2 (l.dv.map Dr.av)),pP 9 (i64 l.dv.length),pP 10 (i64 i)]) (hp:=[pP 1 (.box (yu l ps).cells),pP 23 (.row 4 (((fw l ps).take (i+1)).map Tn.av))]) bg (.k (.cons rfl (.of (by rw[dR htr,aoc];rfl)) .nil))) ?_ (6,0);refine gW (Wk.rk (k:=23) (d:=900) rfl rfl) ?_;refine ga aU ?_;exact aS J1 (i+1) ah
 have ah:=bu hi z;subst ah;have Ie:(fw l ps).length=l.dv.length:=anl _;refine gW ((Wk.freeze (k:=900) rfl).trans<|Wk.of (sl:=[pP 3 (.lst 4 ((fw l ps).map Tn.av))]) (hp:=[]) (.cons rfl (.of (by rw[cz (by rw[anl,an6];omega),an1 oz])) .nil) .nil) ?_;refine ai ?_
 first |rfl |(simp;done)
theorem XU{l:Li}{ps:List Pse}(D:Drw l ps){a:Aq}(F:AqT l a){i:Nat}{p q:Pq}(hp:a.bs[i]?=some p)(hq:(ps.map bZ)[i]?=some q):FP 17 [aZ a.ts,p.av,q.av] (bl (zL a.ts p q)):=by
 obtain⟨r,hr,tw⟩:=F.tw;have dW:=zo F.two;have po:=F.bs p (ank hp);have qo:Pq.ok a.ts.length 10200000000 q:=(D.q.bs q (ank hq)).up (ans _) tw.five oz;exact M9 tw po.c po.s po.x po.y qo.c qo.s qo.x qo.y oz
theorem YV{l:Li}{ps:List Pse}(D:Drw l ps)(hf:mK l ps=true)(hL:mH l []=true):∃A e,AsmS l (fw l ps) A e/\(e≠0->e=15)/\(e=0->(∀a∈A,AqT l a)/\∃(i0:Nat)(b:Aq),A[i0]?=some b/\ur ps b l.bo.length=true):=by
 obtain⟨s,g,W,St⟩:=D.cls hL;have eg:=D.ln;have df:=vO D.li;have hb:=(dC D.li).2.2.2;obtain⟨A,e,P⟩:=ad8 W St D.op (by show(List.map _ _).length<=20;rw[anl];omega);have hA:=P.eq;unfold Ge at hA;rw[aoy (fun h=>h D.op)]at hA;refine⟨A,e,P,fun he=>?_,fun he=>?_⟩
 ·have h9:=Jm W _ _ St (ags l (fw l ps) oz);split at hA
  ·rename_i h1;have h2:(sJ iR false l (fw l ps)).2=e:=ao6 Prod.snd hA;rw[<- h2];exact h9.resolve_left h1
  ·rename_i h1;exact ao5 ((ao6 Prod.snd hA).symm.trans (anj.1 h1)) he
 ·split at hA
  ·rename_i h1;exact ao5 ((ao6 Prod.snd hA).trans he) h1
  ·rename_i h1;have h1:=anj.1 h1;have e1:(sJ iR false l (fw l ps)).1=A:=ao6 Prod.fst hA;have hw:=IS W (F:=iR) (sg:=false) (splitG l).length (fY l) St;refine⟨fun a ha=>?_,?_⟩
   ·rw[<- e1]at ha;exact(hw a ha).aqt D.li
   ·obtain⟨b,Am,h2,h3⟩:=Qd D W _ _ St (Y9 D hf) h1;have hbA:b∈A:=by rw[<- e1]; exact Am
    obtain⟨i0,td⟩:=alt hbA;obtain⟨r,_,tw⟩:=(h2.aqt D.li).tw;refine⟨i0,b,td,?_⟩;unfold ur;rw[anx];intro k hk;exact aci (XJ D W h2 h3 tw.pos (alh.1 hk))
theorem ag9(l:Li)(hw:l.okw)(ps:List Pse)(eT:∀p∈ps,p.wok)(kH:ps.length<=281474976710656):FP 3 [yu l ps] (bl true):=by
 have hL0:FP 11 [l.av,nS] (bl (mH l [])):=Con.sA (.cons (.refl _) (.cons (Sub.nil _ none 0) .nil)) (Tp l hw [] (ans _));refine am func3 ?_;refine gc PU ?_;refine cm (fun _=>(Vj l ps hw eT kH)) ?_;refine cm (fun h=>(by have hd:=PR (ack h) hw eT;exact YS hd.1 ps hd.2.1 hd.2.2)) ?_;refine cm (fun _=>hL0) ?_;refine gC (fun z=>?_) (fun z=>?_)
 ·refine gc PU ?_;refine ai ?_
  first |rfl |(simp;done)
 obtain⟨g1,g2,g3⟩:=UL z;obtain⟨hl,RR,RS⟩:=PR g1 hw eT;have D:=acp hl RR g2;have au:=D.li;have dU:=(dC au).2.2.2;have eg:=D.ln;have df:=vO au;have hTu:=U2 hl au ps eg RS oz;obtain⟨A,e,P,ajc,DH⟩:=YV D g2 g3;have hAl:=P.ln;have hR:=JS ps RR RS D.ok;refine gc hTu ?_;refine gc P.all ?_;refine gD ?_;refine gC (fun z=>?_) (fun z=>?_)
 ·have he:e≠0:=et z;have he:=ajc he;subst he;refine gc (MZ 15 15) ?_;refine cm (fun _=>(MZ 15 4)) ?_;refine ai ?_;rfl
 have he:e=0:=d7 z;obtain⟨FF,i0,b0,td,ajd⟩:=DH he;have ajo:=(alj.1 td).1;refine gc hR ?_;refine gl ?_;refine aY [1,5,48,49] [1,5] (fun(i:Nat)=>[pP 50 (i64 i)]) (fun _=>[]) (fun i=>i<=i0) (fun i=>A.length-i) 0 (ans _) ?_;rintro i hi K1 J1;refine gC (fun z=>?_) (fun z=>?_) (st2:=(77777,0))
 ·have ah:i<A.length:=bf z;obtain⟨a,ha⟩:=aB ah;have F:=FF a (ank ha);have bQ:=F.ln;refine gi (aL ha) ?_;refine gc (ado F) ?_;refine gf ?_;refine gl ?_;refine aY [1,5,48,49,50,7,61] [1,5,7] (fun(j:Nat)=>[pP 8 (bl (ur ps a j)),pP 62 (i64 j)]) (fun _=>[]) (fun j=>j<=a.bs.length) (fun j=>a.bs.length-j) 0 (ans _) ?_;rintro j hj K2 J2;refine gC (fun z=>?_) (fun z=>?_)
  ·have fC:j<a.bs.length:=bf z;obtain⟨p,hp⟩:=aB fC;obtain⟨q,hq⟩:=aB (l:=ps.map bZ) (i:=j) (by rw[anl];omega);refine oM (fun _=>(aL hp)) ?_;refine oM (fun _=>(aL hq)) ?_;refine cm (fun _=>(XU D F hp hq)) ?_;refine gD ?_;refine ga aU ?_;exact aS J2 (j+1) fC (hw:=Wk.of (.cons rfl (.of (by rw[XS hp hq];cases ur ps a j <;> rfl)) (.k (.k (.k (.k (.k (.k (.k (.k .nil))))))))) (.k (.k (.k .nil))))
  have fC:=bu hj z;subst fC;refine gC (fun t82=>?_) (fun t82=>?_)
  ·refine ai ?_;rfl
  have bV:i≠i0:=by
   intro e9;subst e9;rw[ha]at td;cases td;rw[bQ,ajd]at t82;cases t82
  refine ga aU ?_;exact aS J1 (i+1) (show i+1<=i0 by omega)
 exact ao5 (wE z) oz
open Go.Proofs Go.Proofs.YtokaoegjfpjjnaaGreat
open Go.ChangeShapes Go.WideShapes Go.ChangeAt Go.RowKit
set_option maxRecDepth 100000 in
theorem SN(os:Os)(started:os.Started)(H:Type)(enc:apa×ao9->H) :
  ReturnsInHanded {} Tryz.checked os 3 .any (Rows.assembleCompleteSpec.pre6 enc prog Tryz.f3 Rows.assembleCompleteRow.domain false) (Rows.assembleCompleteSpec.post enc prog Tryz.f3 false true false false):=by
 refine returnsInHanded_of_change_sized (C:=Tryz.checked) own started (by kernel_rfl) func3
  (ChangeSpec.witness6 (enc:=enc) (C:=Tryz.checked) false ⟨#[],#[.agg #[.string ⟨#[]⟩,.slice none 0 0,.slice none 0 0,.slice none 0 0,.slice none 0 0]],[]⟩ 8 (by kernel_rfl) (by kernel_rfl) (by kernel_rfl) (by kernel_rfl)) ?_
 intro W base args ds gs before RT hW ajp RU _;have mh:∀(j:Nat) t v,Tryz.f3.params[j]?=some t->args[j]?=some v->Value.okWide prog W .any base t v:=RT;have eU:(DataW.weightsEach prog (Tryz.f3.params.toList++Rows.assembleCompleteSpec.plain.varTypes prog) (ds++gs)).all (·<=reachBytes)=true:=RU;have hW':=hW;obtain⟨p,q,DH,hV,rfl,hfz,dA⟩:=hW;have hA:DataW.TrodAll enc prog W 0 (fun _=>true) true Tryz.f3.params.toList args.toList ds p:=DH;rw[Tryz.params3]at hA mh eU;obtain⟨v0,d0,rfl,rfl,h0⟩:=trodAll_one hA;obtain⟨rfl,rfl⟩:=trodVars_none hV;clear DH RT RU;have hlt:∀x∈p,x.block<W.heap.size:=fun x hx=>hW'.lt x (by simpa using hx)
 have H4:∀n∈d0.weights prog 29,n<=reachBytes:=fun n hn=>by
  have:=anx.1 eU n (DataW.weights_mem_each (j:=0) rfl rfl n hn);simpa using this
 obtain⟨x0,q0,r0⟩:=Ts Tryz.underlying29 TN (mh 0 29 v0 rfl rfl) h0 H4
 have hc:=lR.calls (W:=W) (vs:=#[v0]) (ag9 x0.1 q0.1 x0.2 q0.2.1 q0.2.2) rfl (fun j v x hv hx=>by
  match j,hv,hx with
  |0,hv,hx=>cases hv;cases hx;exact r0)
 refine hc.mono fun e W' ⟨he,hb⟩=>?_
 subst he;refine⟨_,rfl,agt hW' rfl rfl (fun _ _ _=>trodAll_mk1 (shut_bool Tryz.underlying4 _)) (fun sp iC=>?_) rfl hb (ok_one (by kernel_rfl) rfl (okWide_bool_mk Tryz.underlying4 _))⟩;rw[Tryz.params3];have hs:∀x∈p,sp x.block=true:=fun x hx=>iC x (by simpa using hx)
 have g0:=Xc (sp':=sp) (by kernel_rfl) (ao1 (by kernel_rfl)) h0 hb (fun x hx=>hlt x (by simp[hx])) (fun x hx=>hs x (by simp[hx]));have g:=trodAll_mk1 g0;rw[show p++[]=p from by simp];exact g
set_option maxRecDepth 100000 in
theorem TJ:prog.closure 3=[3,8,51,137,262,53,141,271,371,142,140,267,365,423,366,268,269,367,424,428,426,385,425,369,270,368,427,370,12,63,113,222,75,168,294,389,390,440,169,178,307,300,304,396,393,397,442,443,411,444,445,441,446,447,302,228,227,308,299,303,170,295,296,391,173,298,395,171,344,417,455,463,457,466,467,465,418,456,464,459,458,419,223,345,84,179,151,65,116,174,175,301,392,394,115,172,297,226,316,347,348,64,152,277,278,154,153,90,138,263,193,317,335,415,337,362,414,334,251,79,195,318,401,196,320,412,319,402,408,454,403,449,404,450,451,405,452,453,462,406,407,409,410,128,192,279,314,400,330,448,361,421,315,197,203,191,139,264,256,265,333,210,413,331,209,336,250,205,266,204,374,201,329,102,207,332,211,93,383,350,257,99,208,97,100,375,280,92,198,202,376,430,460,431,95,377,199,321,342,322,87,200,324,206,323,326,325,328,327,432,433,434,461,435,436,437,381,438,439,378,384,281,96,190,379,282,103,212,98,104,101,380,382,155,283,27,52,55,66,156,284,177,305,306,398,285,157,286,386,54,50,136,217,107,215,339,216,340,416,341,218,364,158,260,261,288,9,56,143,57,10,19,71,164,291,290,292,72,165,73,166,167,293,160,74,58,144,272,145,59,146,273,147,274,372,275,373,429,276,15,67,161,159,287,387,68,60,17,61,148,253,358,255,360,130,252,254,359,357,149,245,246,33,109,11,62,150,13,14,40,16,32,108]:=by kernel_rfl
theorem ae4:joinedFacts prog 3 Tryz.f3 Rows.assembleCompleteSpec Rows.assembleCompleteRow=true:=by
 unfold joinedFacts Program.recurses Program.inPlace Program.unfollowed Program.varsNamed;rw[TJ,Lg,YA,abz,SB,Wm,UP]
 kernel_rfl
theorem assembleComplete_holds:Rows.AssembleCompleteSaid :=
 OpenClaim.holds_of_wide 3 Tryz.f3 rfl rfl rfl rfl rfl rfl rfl ⟨rfl,rfl,rfl,rfl,rfl⟩ rfl rfl rfl rfl rfl (by kernel_rfl) func3 ae4
  (ao1 (by kernel_rfl)) (by unfold Func.isWrapper;first |(rw[aoz (by decide +kernel)];kernel_rfl) |(rw[aoy (by decide +kernel)];exact⟨rfl,rfl⟩))
  (fun os started H enc _=>SN os started H enc)
end Go.Lw
namespace Go.Proofs.YtokaoegjfpjjnaaGreat
theorem assembleComplete_proved:Rows.AssembleCompleteSaid:=Go.Lw.assembleComplete_holds
end Go.Proofs.YtokaoegjfpjjnaaGreat
