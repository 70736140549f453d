/- CertifyAccepts: for any linkage, any turns and a further turn the law returns true and leaves its arguments as they were. No other condition. Part 8 of 8: the statement -/
import Derived.Test.YtpdiojikejnehaaGreatUg
set_option linter.unusedVariables false
open List (mem_of_getElem? mem_cons_of_mem mem_append mem_cons all_cons length_cons mem_cons_self all_eq_true getElem?_map getElem?_eq_getElem length_take take_of_length_le take_length not_mem_nil length_map getElem?_of_mem getElem_mem)
open Nat (le_refl le_trans mul_le_mul_right zero_le)
open Option (map_eq_some_iff)
open Bool (and_eq_true)
open Array (getD_eq_getD_getElem?)
open Go.Proofs.Tryz
namespace Go.Lw
open Go.Proofs
theorem Mc{z:Int}(h:cond (!(cZ .nilIface)) true (aa .neq z 0)=true):decide (z=0)=false:=decide_eq_false (lN h)
theorem U9{z:Int}(h:cond (!(cZ .nilIface)) true (aa .neq z 0)=false):decide (z=0)=true:=decide_eq_true (oI h)
theorem OF(a:As)(ha:AL a)(ps:List Pse)(hps:∀p∈ps,p.lok)(hpl:ps.length<=20):FP 103 [a.av,.lst 10 (ps.map Pse.av)] (.tup [bl (mB a ps),bg (mE a ps)]):=by
 have hbl:=ha.bl;have hlm:=iJ a.rs.length;have hlm2:=iJ (llq a.rs).length;refine ai func103 ?_;refine gc (mN a.rs 40000 ha.tr) ?_;refine gC (fun t26=>?_) (fun t26=>?_)
 ·have h1:=cE t26;refine bh ?_;rw[tD (by rw[FY h1];exact h1),FY h1];rfl
 have h1:=cC t26;obtain⟨tw,hta⟩:=db ha.tr h1;have h5:a.rs.length<=5:=by have:=tw.five;rwa [length_map]at this
 refine gc (Bx ps hps hpl) ?_;refine gC (fun t34=>?_) (fun t34=>?_)
 ·have h2:=cE t34;refine bh ?_;rw[tD (by rw[Eu h1 h2];exact h2),Eu h1 h2];rfl
 have h2:=cC t34;have hol:=CV (Dz h2);refine gl ?_;refine gl ?_;refine gC (fun t41=>?_) (fun t41=>?_)
 ·have h3 : a.bs.length ≠ ps.length := by have := lN t41; omega
  refine bh ?_;rw[tD (by rw[DJ h1 h2 h3];decide),DJ h1 h2 h3];rfl
 have h3:a.bs.length=ps.length:=by have:=oI t41;omega
 refine gl ?_;refine aN [2,7,44,45] [2,7] (fun(i:Nat)=>[(46,some (i64 i))]) (fun _=>[]) (fun i=>i<=a.bs.length/\∀b∈a.bs.take i,bt a.rs b.l=0) (fun i=>a.bs.length-i) 0 ⟨zero_le _,fun b hb=>by simp at hb⟩ ?_;rintro i ⟨hi,hj⟩ K1 J1;refine gC (fun t47=>?_) (fun t47=>?_)
 ·have hin:=aS t47;obtain ⟨b,hb⟩:=ax hin;have hbn:=ha.nr b (mem_of_getElem? hb);refine gi (aA hb) ?_;refine ge rfl ?_;refine aN [2,7,44,45,46,58,59] [2,7] (fun (k:Nat)=>[(60,some (i64 k))]) (fun _=>[]) (fun k=>k <= 4 /\ ∀ x ∈ b.l.take k,bX a.rs.length x = 0) (fun k=>4 - k) 0 ⟨zero_le _,fun x hx=>by simp at hx⟩ ?_;rintro k ⟨hk,hkj⟩ K2 J2;refine gC (fun t61=>?_) (fun t61=>?_)
  ·have hkn:k<4:=aS (b:=4) t61;obtain⟨x,hx⟩:∃x,b.l[k]?=some x:=ax (l:=b.l) hkn;have hxn:=hbn x (mem_of_getElem? hx);have hone:bt a.rs [x]=bX a.rs.length x:=HF h1;refine gi (aA hx) ?_;refine gc (xZ a.rs 40000 ha.tr x 4000 hxn oz) ?_;refine gC (fun t72=>?_) (fun t72=>?_)
   ·have h4:=cE t72;rw [hone] at h4;have h6:mE a ps = bX a.rs.length x:=by rw [Dn h1 h2 h3,yk hb hj (by rw [vU h1 hx hkj h4]; exact h4),vU h1 hx hkj h4]
    refine bh ?_;rw[tD (by rw[h6];exact h4),h6,hone];rfl
   have h4:=cC t72;rw[hone]at h4;refine ga aF ?_;exact aH J2 (k+1) ⟨hkn,fun y hy=>by rw[dG hx]at hy;rcases List.mem_append.1 hy with h9 |h9;exact hkj y h9;(rw[List.mem_singleton.1 h9];exact h4)⟩
  have hkn:k=4:=aZ (b:=4) hk t61;subst hkn;have h4:bt a.rs b.l=0:=rc h1 hkj;refine ga aF ?_;exact aH J1 (i+1) ⟨hin,fun y hy=>by rw[dG hb]at hy;rcases List.mem_append.1 hy with h9 |h9;exact hj y h9;(rw[List.mem_singleton.1 h9];exact h4)⟩
 have hin:=aZ hi t47;subst hin;rw[take_length]at hj;have h6:mE a ps=0:=by rw[Dn h1 h2 h3];exact lL (fun e he=>by obtain⟨b,hb,rfl⟩:=List.mem_map.1 he;exact hj b hb)
 have h7:=JY h6;have hts:(llq a.rs).length=a.rs.length:=length_map _;refine gl ?_;refine aN [2,7,77,78] [2,7] (fun(i:Nat)=>[(79,some (i64 i))]) (fun _=>[]) (fun i=>i<=a.bs.length/\((a.bs.zip ps).take i).all (fun z=>pP (llq a.rs) z.1 (fy z.2))=true) (fun i=>a.bs.length-i) 0 ⟨zero_le _,rfl⟩ ?_;rintro i ⟨hi,hja⟩ K3 J3;refine gC (fun t80=>?_) (fun t80=>?_)
 ·have hin:=aS t80;obtain ⟨b,hb⟩:=ax hin;obtain ⟨p,hp⟩:∃ p,ps[i]? = some p:=ax oz;have hz:=Uu hb hp;obtain ⟨hba,hbo⟩:=Cj (hj b (mem_of_getElem? hb)) (ha.nr b (mem_of_getElem? hb)) h5;have hpo:=OQ h5 (hps p (mem_of_getElem? hp));have hgb:(a.bs.map Pl.av)[i]? = some (Pq.av ⟨lq b.c,lq b.s,lq b.x,lq b.y⟩):=by rw [aA hb,hba]
  have hgp:((ofL ps).map Pq.av)[i]?=some (fy p).av:=by rw[hol];exact aA (show(ps.map fy)[i]?=some (fy p) by rw[getElem?_map,hp];rfl)
  have hzn:=U3 hbo hpo;refine gi hgb ?_;refine gi hgp ?_;refine gs (TA (.cons (.tmp rfl) (.cons (.tmp rfl) (.cons (.tmp rfl) (.cons (.tmp rfl) .nil)))) T289 rfl T288 rfl rfl rfl) ?_;refine aN [2,7,77,78,79,109] [2,7] (fun(k:Nat)=>[(110,some (i64 k))]) (fun _=>[]) (fun k=>k<=4/\((oW b (fy p)).take k).all (sE (llq a.rs))=true) (fun k=>4-k) 0 ⟨zero_le _,rfl⟩ ?_;rintro k ⟨hk,hka⟩ K4 J4;refine gC (fun t111=>?_) (fun t111=>?_)
  ·have hkn:k<4:=aS (b:=4) t111;obtain⟨z,hz1,hz2⟩:=Qt (b:=b) (w:=fy p) hkn;obtain⟨hn1,hn2⟩:=hzn z (mem_of_getElem? hz1);rw[<- hts]at hn1 hn2;have hcmp:=tZ tw hn1 hn2 oz;rw[<- hta]at hcmp;refine gs (Qd (.tmp rfl) (.tmp rfl) T289 rfl T288 rfl rfl hkn hz2 rfl) ?_;refine gc hcmp ?_;refine gC (fun t128=>?_) (fun t128=>?_)
   ·have h8:sE (llq a.rs) z=false:=Mc t128;refine bh ?_;rw[h6,h7,iD hz (by rw[<- D9];exact iD hz1 h8)];rfl
   have h8:sE (llq a.rs) z=true:=U9 t128;refine ga aF ?_;exact aH J4 (k+1) ⟨hkn,jz hka hz1 h8⟩
  have hkn:k=4:=aZ (b:=4) hk t111;subst hkn;have h8:pP (llq a.rs) b (fy p)=true:=by rw[<- D9];exact hka
  refine ga aF ?_;exact aH J3 (i+1) ⟨hin,jz hja hz h8⟩
 have hin:=aZ hi t80;refine bh ?_;rw[h6,h7,j7 (by rw[hin,List.length_zip,h3,Nat.min_self]) hja];rfl
def yz:Pl:=⟨[rt 1],[],[],[]⟩
def jw:Pse:=⟨t0,⟨⟨false,[],[]⟩,⟨false,[],[]⟩⟩⟩
def pc:As:=⟨[],[yz],[]⟩
theorem tL:(⟨false,[],[]⟩:Rt).ok:=⟨n6,n6,zero_le _,zero_le _⟩
theorem yp:(⟨false,[],[]⟩:Rt).q=0:=Rt.zero (fun h=>h.2 rfl)
theorem BZ:jw.lok:=by
 have h:Qb 96 (⟨false,[],[]⟩:Rt).q:=by rw[yp];exact Qb.zero.mono oz
 exact⟨⟨tL,tL,tL⟩,h,h,h⟩
theorem LF:(rt 1).ok:=(oA (n:=1) oz).ok
theorem TQ:gq yz.l:=by
 intro x hx;simp only[Pl.l,yz,mem_cons,not_mem_nil,or_false]at hx;rcases hx with rfl |rfl |rfl |rfl
 ·exact⟨fun r hr=>by rw[List.mem_singleton.1 hr];exact LF.wok,by show 1<=_;omega⟩
 ·exact⟨fun r hr=>(by cases hr),(by show 0<=_;omega)⟩
 ·exact⟨fun r hr=>(by cases hr),(by show 0<=_;omega)⟩
 ·exact⟨fun r hr=>(by cases hr),(by show 0<=_;omega)⟩
theorem PT:AL pc:=NN (by decide +kernel) ⟨FB,by decide,fun b hb=>by simp only[pc,mem_cons,not_mem_nil,or_false]at hb;rcases hb with rfl;exact TQ,by decide⟩
theorem KP:mE pc [jw]=0:=by decide +kernel
theorem Ng:mB pc [jw]=true:=by decide +kernel
theorem UH:gS [jw]=0:=by decide +kernel
theorem Va:vc (ofL [jw])=pc.av:=by
 have h:ofL [jw]=[fy jw]:=rfl;have c1:bV false 0=1:=by decide +kernel
 have s1:cm false 0=0:=by decide +kernel
 have h2:fy jw=⟨[1],[],[],[]⟩:=by
  show(⟨sh 0 (bV false (⟨false,[],[]⟩:Rt).q:Rat),sh 0 (cm false (⟨false,[],[]⟩:Rt).q:Rat),sh 0 ((⟨false,[],[]⟩:Rt).q:Rat),sh 0 ((⟨false,[],[]⟩:Rt).q:Rat)⟩:Pq)=_;rw[yp,c1,s1];rfl
 rw[h,h2];rfl
theorem Sub.lst1{sz:Nat}{e e':AV}(h:gV e e'):Sub (.lst sz [e]) (.lst sz [e']):=by
 refine Sub.lst rfl (fun i x y hx hy=>?_)
 match i,hx,hy with
 |0,hx,hy=>cases hx;cases hy;exact h
theorem oB:Sub (.v (.bool false)) (bl false):=.refl _
theorem l0:Sub (nS) (ws []):=.nil _ _ _
theorem Qr:gV (.agg [.v (.bool false),nS,nS,.v (.bool false),.v (.bool false),nS,nS,.v (.bool false),nS,nS]) jw.av :=
 .ofL (.cons oB (.cons l0 (.cons l0 (.cons oB (.cons oB (.cons l0 (.cons l0 (.cons oB (.cons l0 (.cons l0 .nil)))))))))) rfl
theorem MF:gV (.agg [.v (.bool false),nS,nS,.v (.bool false)]) t0.av :=
 .ofL (.cons oB (.cons l0 (.cons l0 (.cons oB .nil)))) rfl
def AO:Aq:=⟨[],[gh,gh,gh,gh],[]⟩
theorem NQ:AqS fb AO:=by
 refine⟨HJ,⟨0,by omega,y9⟩,by decide,fun p hp=>?_,rfl⟩
 have e:p=gh:=by
  simp only[AO,mem_cons,not_mem_nil,or_false]at hp;rcases hp with h |h |h |h <;> exact h
 rw[e];exact EK.up (le_refl _) (by show 0<=5;omega) oz
theorem LP:fX fb [t0]=0:=zf HJ rfl (fun y hy=>by rw[List.mem_singleton.1 hy];decide +kernel)
theorem UD:fp fb [t0] AO=(3,1):=by decide +kernel
theorem E6:FP 36 [] (bl true):=by
 have hv:=Ae UP NQ [t0] (fun x hx=>by rw[List.mem_singleton.1 hx];exact⟨tL,by show Qb 1000 (⟨false,[],[]⟩:Rt).q;rw[yp];exact Qb.zero.mono oz⟩) (by decide);rw[LP,if_pos rfl,UD]at hv;have ho:=Bx [jw] (fun p hp=>by rw[List.mem_singleton.1 hp];exact BZ) (by decide);rw[UH,Va]at ho;have hm:=OF pc PT [jw] (fun p hp=>by rw[List.mem_singleton.1 hp];exact BZ) (by decide);rw[KP,Ng]at hm;have sp:Sub (.lst 10 [.agg [.v (.bool false),nS,nS,.v (.bool false),.v (.bool false),nS,nS,.v (.bool false),nS,nS]]) (.lst 10 ([jw].map Pse.av)):=Sub.lst1 Qr;have st:Sub (.lst 4 [.agg [.v (.bool false),nS,nS,.v (.bool false)]]) (.lst 4 ([t0].map Tn.av)):=Sub.lst1 MF;refine ai func36 ?_;refine gc Ud ?_;refine gc U6 ?_;refine gc (Con.sA (.cons (.refl _) (.cons st (.cons (.agg (.cons (.nil _ _ _) (.cons (.refl _) (.cons (.nil _ _ _) .nil))) rfl) .nil))) hv) ?_;refine gD ?_;refine gc (Con.sA (.cons sp .nil) ho) ?_;refine gc (Con.sA (.cons (.refl _) (.cons sp .nil)) hm) ?_;refine gs (d5 rfl rfl rfl (fun h=>DQ (.opt rfl (o1 h)) (.opt rfl (o1 h)) (by kernel_rfl) rfl)) ?_;refine af ?_;rfl
theorem UT{l:Li}{xs:List Tn}{a:Aq}(F:AqFin l xs a):fX l xs=0:=zf F.li F.lx (fun x hx=>(F.xo x hx).1)
theorem LT{l:Li}{xs:List Tn}{a:Aq}(F:AqFin l xs a):fp l xs a=(0,0):=by
 have f1:bU a.bs.length (fun i=>lc a.ts i (a.bs.getD i bc))=none:=eP (fun i hi=>by
  have hc:=F.cs i (by rw[<- F.ln];exact hi);unfold lc;rw[BF hc,Bool.true_and]
  by_cases h0:i=0
  ·subst h0;rw[F.fr,GG];simp
  ·rw[decide_eq_true (by omega:0<i)];rfl)
 have f2:bU l.jo.length (fun i=>kr l a (l.jo.getD i default))=none:=eP (fun i hi=>by
  obtain⟨j,hj⟩:=ax hi;rw[aC hj];exact EB (F.js j (mem_of_getElem? hj)))
 have f3:bU l.dv.length (ko l xs a)=none:=eP (fun i hi=>by
  obtain⟨d,hd⟩:=ax hi;have h:=F.dr i d hd;unfold ko sQ;rw[aC hd,fR,fR];rw[show ae a.ts.length (a.bs.getD d.body.toNat bc).c=T.ofQ a.ts.length (bV (xs.getD i gd).half (xs.getD i gd).t.q)from h.1,show ae a.ts.length (a.bs.getD d.body.toNat bc).s=T.ofQ a.ts.length (cm (xs.getD i gd).half (xs.getD i gd).t.q)from h.2,wG,wG];rfl)
 unfold fp;rw[f1,f2,f3]
theorem Qw{l:Li}{y:Tn}{xs:List Tn}(h:ft l (y::xs)=true):ft l xs=true:=by
 unfold ft at h ⊢;simp only[and_eq_true,decide_eq_true_eq,all_cons,length_cons]at h ⊢;refine⟨⟨h.1.1,by omega⟩,h.2.1.2,h.2.2.1,?_⟩;have h3:=h.2.2.2;split at h3
 ·rename_i h4;rw[if_pos h4];unfold uo at h3 ⊢
  have e:lR (y::xs)=true->lR xs=true:=fun h=>by
   unfold lR at h ⊢;simp only[all_cons,and_eq_true]at h;exact h.2
  generalize cond (aa .neq (splitE l:Int) 0) true (aa .leq (((splitG l).length:Int)-l.dv.length) 1)=b at h3 ⊢;generalize aa .eql (((splitG l).length:Int)-l.dv.length) 2=c at h3 ⊢;cases b
  ·cases c
   ·exact h3
   ·simp only[cond_false,cond_true,and_eq_true]at h3 ⊢;exact⟨e h3.1,h3.2⟩
  ·rfl
 ·rename_i h4;rw[if_neg h4]
theorem xx(t:Rat):(1+bV false t)*(1+t*t)=2/\t*(1+bV false t)=cm false t:=by
 have h:1+t*t≠0:=by
  have:=mb t;intro e;grind
 unfold bV cm;simp only[Bool.false_eq_true,if_false];have e2:(1+t*t)*(1+t*t)⁻¹=1:=Rat.mul_inv_cancel _ h;rw[Rat.div_def,Rat.div_def];generalize(1+t*t)⁻¹=k at e2 ⊢;constructor
 ·grind
 ·have : 1 + (1 - t * t) * k = (1 + t * t) * k + (1 - t * t) * k := by rw [e2]
  rw[this];grind
theorem Sr{x y:Tn}(hx:x.err=0)(hy:y.err=0)(hc:bV x.half x.t.q=bV y.half y.t.q)(hs:cm x.half x.t.q=cm y.half y.t.q):x.t.q=y.t.q/\x.half=y.half:=by
 have zq:∀{z:Tn},z.err=0->z.half=true->z.t.q=0:=fun {z} he hh=>by
  unfold Tn.err at he;split at he
  ·rename_i h;exact h.2 hh
  ·cases he
 have bad:∀t:Rat,bV false t=-1->False:=fun t e=>by
  have:=(xx t).1;rw[e]at this;have e0:(1+-1:Rat)=0:=by decide +kernel
  rw[e0,Rat.zero_mul]at this;exact absurd this (by decide +kernel)
 cases h1:x.half <;> cases h2:y.half <;> rw[h1,h2]at hc hs
 ·refine⟨?_,rfl⟩;obtain⟨a1,a2⟩:=xx x.t.q;obtain⟨b1,b2⟩:=xx y.t.q;rw[hc]at a1 a2
  have e:(x.t.q-y.t.q)*(1+bV false y.t.q)=0:=by
   have:(x.t.q-y.t.q)*(1+bV false y.t.q)=x.t.q*(1+bV false y.t.q)-y.t.q*(1+bV false y.t.q):=by grind
   rw[this,a2,b2,hs];grind
  rcases Rat.mul_eq_zero.1 e with g |g
  ·grind
  ·rw[g,Rat.zero_mul]at b1;exact absurd b1 (by decide +kernel)
 ·exact(bad _ hc).elim
 ·exact(bad _ hc.symm).elim
 ·exact⟨by rw[zq hx h1,zq hy h2],rfl⟩
theorem HK{ts:LL}{u v:Rat}(h:fM ts (T.ofQ ts.length u) (T.ofQ ts.length v)=true):u=v:=by
 have h1:T.sgn (au ts) ts.length (T.add ts.length (T.ofQ ts.length u) (T.neg ts.length (T.ofQ ts.length v)))=0:=of_decide_eq_true h;rw[<- T.ofQ_neg,<- T.ofQ_add,T.sgn_ofQ]at h1;rcases lK (u+-v)with⟨g,_⟩ |⟨_,g⟩ |⟨g,_⟩
 ·omega
 ·grind
 ·omega
theorem UO{l:Li}{xs:List Tn}{a:Aq}(F:AqFin l xs a){x y:Tn}(hx:xs[0]?=some x)(hy:y.err=0)(hne:¬(x.t.q=y.t.q/\x.half=y.half)):fp l (y::xs.drop 1) a=(4,0):=by
 have f1:bU a.bs.length (fun i=>lc a.ts i (a.bs.getD i bc))=none:=eP (fun i hi=>by
  have hc:=F.cs i (by rw[<- F.ln];exact hi);unfold lc;rw[BF hc,Bool.true_and]
  by_cases h0:i=0
  ·subst h0;rw[F.fr,GG];simp
  ·rw[decide_eq_true (by omega:0<i)];rfl)
 have f2:bU l.jo.length (fun i=>kr l a (l.jo.getD i default))=none:=eP (fun i hi=>by
  obtain⟨j,hj⟩:=ax hi;rw[aC hj];exact EB (F.js j (mem_of_getElem? hj)))
 have hl0:0<l.dv.length:=by rw[<- F.lx];exact(List.getElem?_eq_some_iff.1 hx).1
 obtain⟨d,hd⟩:=ax hl0
 have f3 : bU l.dv.length (ko l (y :: xs.drop 1) a) = some 0 := fL hl0 (fun j hj => by omega) (by
  have h:=F.dr 0 d hd;rw[aC hx]at h;cases hq:ko l (y::xs.drop 1) a 0 with
  |false=>rfl
  |true =>
   exfalso;unfold ko sQ at hq;rw[aC hd,and_eq_true,fR,fR]at hq;rw[show ae a.ts.length (a.bs.getD d.body.toNat bc).c=T.ofQ a.ts.length (bV x.half x.t.q)from h.1,show ae a.ts.length (a.bs.getD d.body.toNat bc).s=T.ofQ a.ts.length (cm x.half x.t.q)from h.2]at hq;exact hne (Sr (F.xo x (mem_of_getElem? hx)).1 hy (HK hq.1) (HK hq.2)))
 unfold fp;rw[f1,f2,f3]
theorem Ja{l:Li}(hl:l.ok){xs:List Tn}{a:Aq}(F:AqFin l xs a){x y:Tn}(hx:xs[0]?=some x)(hyo:y.t.ok)(hyq:Qb 1000 y.t.q)(hne:¬(x.t.q=y.t.q/\x.half=y.half)) :
  ∃(b:Bool)(k i e:Nat),FP 37 [l.av,.lst 4 ((y::xs.drop 1).map Tn.av),a.av] (.tup [bl b,.agg [i64 k,i64 i],bg e])/\(e=0->b=false/\k=4/\i=0):=by
 have h:=Ae hl F.s (y::xs.drop 1) (fun z hz=>by
  rcases List.mem_cons.1 hz with rfl |hz
  ·exact⟨hyo,hyq⟩
  ·have:=F.xo z (List.mem_of_mem_drop hz);exact⟨this.2.2,this.2.1⟩) (by
  have h1:=F.lx;have h2:=rZ F.li;rw[length_cons,List.length_drop];omega)
 generalize hys:y::xs.drop 1=ys at h ⊢;refine⟨decide (fX l ys=0)&&decide ((fp l ys a).1=0),(if fX l ys=0 then fp l ys a else(0,0)).1,(if fX l ys=0 then fp l ys a else(0,0)).2,fX l ys,h,fun h0=>?_⟩;subst hys
 have hy0:y.err=0:=by
  have h3:(y::xs.drop 1).length=l.dv.length:=by
   have h1:=F.lx;have h4:=(List.getElem?_eq_some_iff.1 hx).1;rw[length_cons,List.length_drop];omega
  apply Decidable.byContradiction;intro hn;exact hn ((z8 F.li h3 (i:=0) (x:=y) rfl (fun z hz=>by cases hz) hn).symm.trans h0)
 rw[if_pos h0,UO F hx hy0 hne];exact⟨by simp,rfl,rfl⟩
theorem M3{b:Bool}{k i e:Nat}(hf:e=0->b=false/\k=4/\i=0)(h:cond (cZ (fi e)) (cond (cond b true (aa .neq (k:Int) 4)) true (aa .neq (i:Int) 0)) false=true):False:=by
 cases h1:cZ (fi e)
 ·rw[h1]at h;cases h
 ·obtain⟨rfl,rfl,rfl⟩:=hf (Hz h1);rw[h1]at h;cases h
theorem UB{n:Nat}{q1 q2:Rat}{b1 b2:Bool}(h:cond (aa .eql (n:Int) 0) true (cond (aa .eql (bA (q1-q2)) 0) (b1==b2) false)=false):n≠0/\¬(q1=q2/\b1=b2):=by
 cases h1:aa .eql (n:Int) 0
 ·refine⟨qX h1,?_⟩;rintro⟨rfl,rfl⟩;rw[h1,show q1-q1=0 by grind,show bA 0=0 by decide +kernel]at h;simp[aa]at h
 ·rw[h1]at h;cases h
theorem CR{l:Li}{xs:List Tn}(h:ft l xs=true)(hxw:∀x∈xs,x.t.wok):∀x∈xs,Qb 1000 x.t.q:=fun x hx=>by
 have h2:=(uN h hxw).2.2 x hx;unfold ft at h;simp only[and_eq_true]at h;have h9:=List.all_eq_true.1 h.2.1 x hx;unfold kf at h9;rw[decide_eq_true_eq]at h9;exact(Rt.qb h2 (k:=1) oz h9.1 h9.2).mono oz
variable{P:Program}{N:Nat}{R:Array Oper}{s:AS}{pos:String}{after:Array Edge}
theorem CN{d n:Nat}{os:List Operand}{es:List AV}{T E t:TypeId}{ti te:TI}{parts:Array (Nat×Operand)}
  (hp:parts=(jJ 0 os).toArray) (hx:EvL s os es) (hT:ao P T=some ti) (hk:ti.k=.slice E) (hE:ao P E=some te) (hz:te.zero.all Value.oneCell'=true)
  (hz0:Nat.beq te.zero.length te.size=true) (hes:(es.all fun e=>Nat.beq e.cells.length te.size&&e.ok)=true) (hnm:AV.nms es=[])
  (hn:n=es.length) (hb:Nat.ble (n*te.size) 16777216=true) (hb':Nat.ble n 16777216=true) (hN:Nat.blt d N=true) :
  Step P N R s ⟨some d,.buildSlice T n parts,t,pos,after,none⟩ ⟨some (.ms d te.size 0 n),[(d,some (.row te.size es))],dU os,[]⟩ :=
 oM rfl rfl hN (by simp) fun s' hag hfr C m a w hr => by
  subst hp;rw[Nat.ble_eq]at hb hb';have hx':=hx.agree hag (fun _ h=>h);obtain⟨c,h1,h2⟩:=xQ (w:=w) hT hk hE hz hz0 (fun o x h=>h.rep hr) hx' hes hn oz;have hlen:c.toList.length=es.length*te.size:=h2.1.trans (yR es (rW hes));have hcs:c.size=es.length*te.size:=by rw[<- Array.length_toList];exact hlen
  have hnm':∀x∈eW es,x.nm=[]:=by
   have hh:=wH hnm;clear h2 h1 hx' hx hes hb hb' hnm hag hlen hcs hn
   induction es with
   |nil=>intro x hx;cases hx
   |cons e es ih =>
    intro x hx;simp only[eW,mem_append]at hx;rcases hx with hx |hx
    ·have := hh e (by simp)
     cases e <;> simp only[AV.cells,List.mem_singleton]at hx <;> first
      |(subst hx;exact this)
      |(exact wH this x hx)
    ·exact ih (fun e he=>hh e (by simp[he])) x hx
  refine⟨.slice (some ⟨w.heap.size,0,none⟩) n n,c,E,w.drawn,?_,fun h=>h,?_,?_⟩
  ·have : ((jJ 0 os).toArray.map fun p => (p.1, a.eval p.2)) = ((jJ 0 os).map fun p => (p.1, a.eval p.2)).toArray := by simp
   simp only[execOp,Sem.run_bind,this,h1,Result.andThen_ok,Sem.run_pure]
  ·intro g S m' w' hg hS hm hw;have h3:cP g S cB c.toList (eW es):=h2.mono hg hS (fun x hx k b hk _=>by have:=hk.mem; rw [hnm' x hx] at this; cases this);refine .row hw oz (by subst hn; unfold aR; omega) (fun i e he=>rW hes e (mem_of_getElem? he)) ?_ ?_
   ·intro i j e x he hx;exact h3.2.1 _ x (uI es (rW hes) i j e x he hx)
   ·intro i j e u x he hx hu;refine h3.2.2 (i*te.size+j) u x ?_ (uI es (rW hes) i j e x he hx);rw[Array.getElem?_toList];exact hu
  ·intro g S m' hm hS;have h:=Rep.ms (g:=g) (S:=S) (m:=m') (k:=d) (sz:=te.size) (off:=0) (len:=n) (cap:=n) hm (le_refl _) (by rw[Nat.zero_add,hn,<- hcs];exact hS);rw[Nat.zero_mul]at h;exact h
theorem MH{d:Nat}{x y:Operand}{a b c e:Int}{S T t:TypeId}(hx:Ev s x (.agg [.v (.int .i64 a),.v (.int .i64 b)]))(hy:Ev s y (.agg [.v (.int .i64 c),.v (.int .i64 e)]))
  (hS:uT P S=true) (hN:Nat.blt d N=true) :
  Step P N R s ⟨some d,.binOp .neq S x y T,t,pos,after,none⟩ ⟨some (.v (.bool (!(a==c&&b==e)))),[],am x++am y,[]⟩ :=
 cR rfl rfl hN fun s' hag C m ac w hr=>⟨.bool (!(a==c&&b==e)),by
  have h:=(hx.agree hag (fun _ h=>List.mem_append.2 (.inl h))).rep hr;have h':=(hy.agree hag (fun _ h=>List.mem_append.2 (.inr h))).rep hr
  have pair:∀{v:Value}{p q:Int},Rep (Im C.ext s'.hp m w) (Sz w) m v (.agg [.v (.int .i64 p),.v (.int .i64 q)])->v=.agg #[.int .i64 p,.int .i64 q]:=by
   intro v p q hv;cases hv with
   | @agg _ vs _ hn h1 hrr =>
    have i0:0<vs.size:=by rw[hn];simp
    have i1:1<vs.size:=by rw[hn];simp
    have r0:=hrr 0 vs[0] _ (by simp[i0]) rfl;have r1:=hrr 1 vs[1] _ (by simp[i1]) rfl;generalize hz0:vs[0]=z0 at r0;generalize hz1:vs[1]=z1 at r1;cases r0;cases r1
    congr 1;refine Array.ext (by rw[hn];rfl) (fun i hi _=>?_)
    match i,hi with
    |0,_=>exact hz0
    |1,_=>exact hz1
    |i+2,hi=>rw[hn]at hi;simp at hi;omega
  have hu:=pair h;have hv:=pair h';obtain⟨r1,r2⟩:=DX hS w a b c e;simp only[execOp,hu,hv,Sem.run_bind,run_eqGuard_agg w .neq S x y _ _ r2,Result.andThen_ok,run_neq_struct,r1,Sem.run_pure],.v _⟩
end Go.Lw
namespace Go.Lw
open Go.Proofs
theorem IA(l:Li)(hw:l.okw)(xs:List Tn)(hxw:∀x∈xs,x.t.wok)(hxl:xs.length*64<=140737488351232)(y:Tn)(hy:y.t.wok):FP 6 [l.av,.lst 4 (xs.map Tn.av),y.av] (bl true):=by
 have hyw:∀x∈y::xs,x.t.wok:=fun x hx=>by
  rcases List.mem_cons.1 hx with rfl |hx
  ·exact hy
  ·exact hxw x hx
 refine ai func6 ?_;refine gc E6 ?_ (1,6);refine gs (AD (want:=false) rfl rfl rfl (fun hne=>absurd rfl hne) (fun _=>CN rfl (.cons (.opt rfl rfl) .nil) T88 rfl T47 rfl rfl rfl rfl rfl rfl rfl rfl)) ?_;refine gs (AD (want:=false) rfl rfl rfl (fun hne=>absurd rfl hne) (fun _=>tf (.opt rfl rfl) rfl rfl (.opt rfl rfl) T88 rfl T47 rfl rfl (by simp only[length_map];omega) rfl rfl)) ?_;refine bM (fun _=>(KV l hw (y::xs) (by rw[length_cons];omega))) ?_;refine gD ?_;refine gC (fun t25=>?_) (fun t25=>?_)
 ·refine gc E6 ?_;refine af ?_
  first |rfl |(simp;done)
 have g0:ft l (y::xs)=true:=PM t25;have g1:=Qw g0;obtain⟨_,_,hxo'⟩:=uN g0 hyw;obtain⟨g2,hx20,hxo⟩:=uN g1 hxw;have hl:=Au g2 hw;obtain⟨A,e,P⟩:=N0 hl g1 hxw;have FF:=KZ hl g1 hxw P.eq;have hAl:=P.ln;have hyo:=hxo' y mem_cons_self;refine gc P.all ?_;refine gC (fun t34=>?_) (fun t34=>?_)
 ·have he:e≠0:=cE t34;have hA:=IP P.eq he;subst hA;refine gl ?_;refine af ?_;rfl
 obtain⟨x0,ex0⟩:∃x0,xs.getD 0 gd=x0:=⟨_,rfl⟩
 have hx0:xs.length≠0->xs[0]?=some x0:=fun h=>by
  obtain⟨x,hx⟩:=ax (l:=xs) (i:=0) oz;rw[<- ex0,aC hx];exact hx
 have hx0o:x0.t.ok/\Qb 1000 x0.t.q:=by
  by_cases h:xs.length=0
  ·rw[<- ex0,List.eq_nil_of_length_eq_zero h];exact⟨CL,C5⟩
  ·have:=mem_of_getElem? (hx0 h);exact⟨hxo _ this,CR g1 hxw _ this⟩
 have hyq:=CR g0 hyw y mem_cons_self;have hqs:Qs (x0.t.q-y.t.q):=(hx0o.2.sub hyq).qs oz;refine gl ?_;refine aN [1,3,5,38,39] [3,5] (fun(i:Nat)=>[(40,some (i64 i))]) (fun _=>[]) (fun i=>i<=A.length) (fun i=>A.length-i) 0 (zero_le _) ?_;rintro i hi K1 J1;refine gC (fun t41=>?_) (fun t41=>?_)
 ·have hin:=aS t41;obtain ⟨a,ha⟩:=ax hin;have F:=FF a (mem_of_getElem? ha);have hv:=Ae hl F.s xs (fun x hx=>⟨(F.xo x hx).2.2,(F.xo x hx).2.1⟩) oz;rw [UT F,if_pos rfl,LT F] at hv;have z0:cZ (fi 0) = true:=rfl;refine gi (aA ha) ?_;refine gc hv ?_;refine gs (d5 rfl rfl rfl (fun h=>MH (.opt rfl (o1 h)) (.opt rfl (o1 h)) (by kernel_rfl) rfl)) ?_;refine gC (fun t62=>?_) (fun t62=>?_) (st1:=(11,0));cases t62;refine gl ?_;refine lO (fun h=>(aA (hx0 (qX (by simpa using h))))) ?_;refine bM (fun _=>(ye x0.t y.t hx0o.1 hyo hqs)) ?_;refine lO (fun ⟨h,h2⟩=>(aA (hx0 (qX (by simpa using h))))) ?_;refine gD ?_;refine gC (fun t84=>?_) (fun t84=>?_) (st2:=(13,2))
  ·refine ga aF ?_;exact aH J1 (i+1) hin
  obtain⟨hn,hne⟩:=UB t84;have hx:=hx0 hn;obtain⟨b,k,i',e',hv2,hf⟩:=Ja hl F hx hyo hyq hne
  have hls:[y.av]++List.take ((List.map Tn.av xs).length-Int.toNat 1) (List.drop (Int.toNat 1) (List.map Tn.av xs))=(y::xs.drop 1).map Tn.av:=by
   show y.av::List.take ((List.map Tn.av xs).length-1) (List.drop 1 (List.map Tn.av xs))=y.av::(xs.drop 1).map Tn.av;rw[take_of_length_le (by rw[List.length_drop];exact le_refl _),List.map_drop]
  rw[<- hls]at hv2;refine gs (CN rfl (cq rfl) T88 rfl T47 rfl rfl rfl rfl rfl rfl rfl rfl) ?_;refine gs (d9 (.tmp rfl) (.some _ (.const _) oz) (.none _) T88 rfl T47 rfl (by rw[length_map];omega) (le_refl _) rfl) ?_;refine gs (tf (.tmp rfl) rfl rfl (.tmp rfl) T88 rfl T47 rfl rfl (by simp only[length_map,length_take,List.length_drop];omega) rfl rfl) ?_;refine gD ?_;refine gc hv2 ?_;refine gC (fun t112=>?_) (fun t112=>?_) (st1:=(16,0));exact(M3 hf t112).elim;refine ga aF ?_;exact aH J1 (i+1) hin
 refine af ?_;rfl
variable{P:Program}{W:World}{H:Type}{enc:TypeId×Value->H}
theorem Qn{t e:TypeId}{n:Nat}{α:Type}{f:α->AV}{p:α->Prop}(ht:P.underlying t=some (.slice e))(hc:P.cellsOf e=n)(hn:0<n)(hby:Nat.blt 0 (P.bytesOf e)=true)(hel:cK P W enc e f p)(hln:∀a,(f a).cells.length=n) :
  cK P W enc t (fun l:List α=>.lst n (l.map f)) (fun l=>(∀a∈l,p a)/\l.length*P.bytesOf e<=reachBytes):=by
 intro sp fuel cs x h hwt;rcases DataW.trod_slice ht h with⟨rfl,_⟩ |⟨a,len,cap,elems,rest,m,_,rfl,hxe,_,hl,hm,hlen,hE,_,_⟩
 ·exact⟨[],⟨fun a ha=>by(cases ha),by show 0*_<=_;rw[Nat.zero_mul];exact zero_le _⟩,mS (.lst0 _ _ _) rfl⟩
 ·obtain⟨l,hll,hq⟩:=Ar (q:=fun i a'=>p a'/\∃cs',W.cells? 0 (a.add (i*n)) n=some cs'/\lC W cs' (f a').cells) len (fun i hi=>by
   have h1:=hE i hi;rw[hc,getElem?_eq_getElem oz,Option.bind_eq_some_iff]at h1;obtain⟨cs',h2,h3⟩:=h1
   obtain⟨a',ha,hc'⟩:=hel _ _ _ _ h3 (fun k hk=>hwt k (by
    rw[hxe];simp only[DataW.weights,ht];exact mem_cons_of_mem _ (List.mem_append_left _ (zR (List.mem_map.2 ⟨_,getElem_mem (by omega:i<elems.length),rfl⟩) k hk))))
   exact⟨a',ha,cs',h2,hc'⟩)
  have hcm:len<=281474976710656:=by
   have h1:=hwt ((elems.length+rest.length)*P.bytesOf e) (by
    rw[hxe];simp only[DataW.weights,ht,length_map];exact mem_cons_self ..)
   rw[Nat.blt_eq]at hby;have h2:elems.length+rest.length<=(elems.length+rest.length)*P.bytesOf e:=Nat.le_mul_of_pos_right _ hby;have h3:reachBytes<=281474976710656:=by decide
   omega
  have hcB:len*P.bytesOf e<=reachBytes:=by
   have h1:=hwt ((elems.length+rest.length)*P.bytesOf e) (by
    rw[hxe];simp only[DataW.weights,ht,length_map];exact mem_cons_self ..)
   exact le_trans (mul_le_mul_right _ oz) h1
  refine⟨l,⟨fun a' ha=>?_,by rw[hll];exact hcB⟩,mS ?_ rfl⟩
  ·obtain⟨i,hi⟩:=getElem?_of_mem ha;exact(hq i a' hi).1
  ·by_cases h0:len=0
   ·subst h0;have:l=[]:=List.eq_nil_of_length_eq_zero hll;subst this;exact .lst0 _ _ _
   ·-- the block
    have hget:∀(i j:Nat)(e' c':AV),(l.map f)[i]?=some e'->e'.cells[j]?=some c'->∃v,W.cell? ((a.add (i*n)).add j)=some v/\Rep (Gw W) (Sz W) cB v c':=by
     intro i j e' c' he hc';rw[getElem?_map,map_eq_some_iff]at he;obtain⟨a',ha,rfl⟩:=he;obtain⟨_,cs',h2,h3⟩:=hq i a' ha;obtain⟨_,h4,h5⟩:=World.cells?_some h2;have hj:j<n:=by rw[<- hln a'];exact(List.getElem?_eq_some_iff.1 hc').1
     have h6:=h5 j hj;rw[getElem?_eq_getElem oz]at h6;exact⟨_,h6,h3.2.2 j _ c' (getElem?_eq_getElem oz) hc'⟩
    obtain⟨a0,ha0⟩:∃a0,l[0]?=some a0:=⟨l[0]'oz,getElem?_eq_getElem oz⟩
    obtain⟨c0,hc0⟩:∃c0,(f a0).cells[0]?=some c0:=⟨(f a0).cells[0]'(by rw[hln];omega),getElem?_eq_getElem (by rw[hln];omega)⟩
    obtain⟨v0,hv0,_⟩:=hget 0 0 _ _ (by rw[getElem?_map,ha0];rfl) hc0;have e0:(a.add (0*n)).add 0=a:=by simp[Addr.add]
    rw[e0]at hv0;obtain⟨b,off,rfl⟩:=Cr hv0;obtain⟨c,t',fr,hb,_⟩:=uk hv0;have hll':(l.map f).length=len:=by rw[length_map,hll]
    have hcell:∀(i j:Nat)(e' c':AV),(l.map f)[i]?=some e'->e'.cells[j]?=some c'->∃v,c[off+i*n+j]?=some v/\Rep (Gw W) (Sz W) cB v c':=by
     intro i j e' c' he hc';obtain⟨v,hv,hr⟩:=hget i j e' c' he hc';rw[gP,gP]at hv;obtain⟨c2,t2,tV,hb2,hv2⟩:=uk hv;rw[hb]at hb2;cases hb2;exact⟨v,hv2,hr⟩
    have := Rep.lst (g := Gw W) (S := Sz W) (m := cB) (b := b) (off := off) (cap := cap) (sz := n) (es := l.map f) (cs := c) (fun i j => c.getD (off + i * n + j) undef) (Fn hb) oz (by rw [hll']; exact hcm)
     (fun i e' he=>by
      rw[getElem?_map,map_eq_some_iff]at he;obtain⟨a',_,rfl⟩:=he;exact hln a')
     (fun i j e' c' he hc'=>by
      rw[getElem?_map,map_eq_some_iff]at he;obtain⟨a',ha,rfl⟩:=he;obtain⟨_,cs',_,h3⟩:=hq i a' ha;exact h3.2.1 j c' hc')
     (fun i j e' c' he hc'=>by
      obtain⟨v,hv,_⟩:=hcell i j e' c' he hc';rw[getD_eq_getD_getElem?,hv];rfl)
     (fun i j e' c' he hc'=>by
      obtain⟨v,hv,hr⟩:=hcell i j e' c' he hc';rw[getD_eq_getD_getElem?,hv];exact hr)
    rwa [hll']at this
end Go.Lw
namespace Go.Lw
open Go.Proofs Go.Proofs.YtpdiojikejnehaaGreat
open Go.ChangeShapes Go.WideShapes Go.ChangeAt Go.RowKit
theorem QW{W:World}{H:Type}{enc:TypeId×Value->H}:cK prog W enc 88 (fun l:List Tn=>.lst 4 (l.map Tn.av)) (fun l=>(∀x∈l,x.t.wok)/\l.length*64<=140737488351232):=by
 have h:=Qn (W:=W) (enc:=enc) Tryz.underlying88 (n:=4) (by kernel_rfl) oz (by kernel_rfl) HU (fun _=>rfl);rw[show prog.bytesOf 47=64 from by kernel_rfl]at h;exact h
set_option maxRecDepth 100000 in
theorem M7(os:Os)(started:os.Started)(H:Type)(enc:TypeId×Value->H) :
  ReturnsInHanded {} Tryz.checked os 6 .any (Rows.certifyAcceptsSpec.pre6 enc prog Tryz.f6 Rows.certifyAcceptsRow.domain false) (Rows.certifyAcceptsSpec.post enc prog Tryz.f6 false true false false):=by
 refine returnsInHanded_of_change_sized (C := Tryz.checked) own started (by kernel_rfl) func6
  (ChangeSpec.witness6 (enc:=enc) (C:=Tryz.checked) false ⟨#[],#[.agg #[.string ⟨#[]⟩,.slice none 0 0,.slice none 0 0,.slice none 0 0],.slice none 0 0,.agg #[.bool false,.slice none 0 0,.slice none 0 0,.bool false]],[]⟩ 8 (by kernel_rfl) (by kernel_rfl) (by kernel_rfl) (by kernel_rfl)) ?_
 intro W base args ds gs before hval0 hW hcnd hwt0 _;have hval:∀(j:Nat) t v,Tryz.f6.params[j]?=some t->args[j]?=some v->Value.okWide prog W .any base t v:=hval0;have hwt:(DataW.weightsEach prog (Tryz.f6.params.toList++Rows.certifyAcceptsSpec.plain.varTypes prog) (ds++gs)).all (· <= reachBytes)=true:=hwt0;have hW':=hW;obtain⟨p,q,hA0,hV,rfl,hfz,hnd⟩:=hW;have hA:DataW.TrodAll enc prog W 0 (fun _=>true) true Tryz.f6.params.toList args.toList ds p:=hA0;rw[Tryz.params6]at hA hval hwt;obtain⟨v0,v1,v2,d0,d1,d2,p0,p1,p2,rfl,rfl,rfl,h0,h1,h2⟩:=trodAll_three hA;obtain⟨rfl,rfl⟩:=trodVars_none hV;clear hA0 hval0 hwt0;have hlt:∀x∈p0++p1++p2,x.block<W.heap.size:=fun x hx=>hW'.lt x (by simpa using hx)
 have hw0:∀n∈d0.weights prog 26,n<=reachBytes:=fun n hn=>by
  have:=List.all_eq_true.1 hwt n (DataW.weights_mem_each (j:=0) rfl rfl n hn);simpa using this
 have hw1:∀n∈d1.weights prog 88,n<=reachBytes:=fun n hn=>by
  have:=List.all_eq_true.1 hwt n (DataW.weights_mem_each (j:=1) rfl rfl n hn);simpa using this
 have hw2:∀n∈d2.weights prog 47,n<=reachBytes:=fun n hn=>by
  have:=List.all_eq_true.1 hwt n (DataW.weights_mem_each (j:=2) rfl rfl n hn);simpa using this
 obtain⟨x0,q0,r0⟩:=DI Tryz.underlying26 U5 (hval 0 26 v0 rfl rfl) h0 hw0;obtain⟨x1,q1,r1⟩:=Oc QW (fun _=>rfl) (Qf Tryz.underlying88 (hval 1 88 v1 rfl rfl)) h1 hw1;obtain⟨x2,q2,r2⟩:=DI Tryz.underlying47 HU (hval 2 47 v2 rfl rfl) h2 hw2
 have hc:=ia.calls (W:=W) (vs:=#[v0,v1,v2]) (IA x0 q0 x1 q1.1 q1.2 x2 q2) rfl (fun j v x hv hx=>by
  match j,hv,hx with
  |0,hv,hx=>cases hv;cases hx;exact r0
  |1,hv,hx=>cases hv;cases hx;exact r1
  |2,hv,hx=>cases hv;cases hx;exact r2)
 refine hc.mono fun e W' ⟨he,hb⟩=>?_
 subst he;refine⟨_,rfl,Ur hW' rfl rfl (fun _ _ _=>trodAll_mk1 (shut_bool Tryz.underlying4 _)) (fun sp hsp=>?_) rfl hb (ok_one (by kernel_rfl) rfl (okWide_bool_mk Tryz.underlying4 _))⟩;rw[Tryz.params6];have hs:∀x∈p0++p1++p2,sp x.block=true:=fun x hx=>hsp x (by simpa using hx)
 have g0:=wK (sp':=sp) (by kernel_rfl) (of_decide_eq_true (by kernel_rfl)) h0 hb (fun x hx=>hlt x (by simp[hx])) (fun x hx=>hs x (by simp[hx]));have g1:=wK (sp':=sp) (by kernel_rfl) (of_decide_eq_true (by kernel_rfl)) h1 hb (fun x hx=>hlt x (by simp[hx])) (fun x hx=>hs x (by simp[hx]));have g2:=wK (sp':=sp) (by kernel_rfl) (of_decide_eq_true (by kernel_rfl)) h2 hb (fun x hx=>hlt x (by simp[hx])) (fun x hx=>hs x (by simp[hx]));have g:=trodAll_mk3 g0 g1 g2;rw[show p0++p1++p2++[]=p0++(p1++p2)from by simp];exact g
set_option maxRecDepth 100000 in
theorem SN:prog.closure 6=[6,36,45,88,188,295,362,189,187,221,312,368,313,292,293,360,386,375,388,335,387,334,294,361,389,336,60,107,220,236,326,327,374,247,139,248,337,54,131,243,37,104,204,300,363,364,390,205,208,303,305,325,367,366,373,391,392,351,393,394,397,395,396,323,258,257,304,306,324,206,301,302,365,232,321,372,207,105,209,106,144,252,318,230,237,278,328,319,238,329,286,233,234,322,370,371,330,331,239,231,320,240,121,211,212,307,229,80,174,171,190,147,284,177,280,127,357,285,356,151,308,165,128,213,210,215,216,309,89,153,191,283,176,172,192,310,311,332,173,175,116,214,218,219,148,256,262,353,385,404,149,217,102,202,203,103,32,56,40,111,225,316,315,317,112,226,113,227,228,38,108,222,114,16,58,135,59,136,245,137,246,333,138,98,197,33,99,143,250,339,376,398,405,400,408,409,407,377,399,406,402,401,378,251,340,198,101,100,199,297,298,200,18,63,145,253,341,146,255,352,254,342,348,384,343,379,344,380,381,345,382,383,403,346,347,349,350,64,150,170,91,152,169,261,71,163,281,358,77,75,78,154,65,70,166,156,155,259,354,260,73,157,167,272,273,274,168,282,275,270,266,276,267,263,264,265,355,268,269,271,161,277,279,158,164,66,74,90,159,67,81,178,76,82,79,160,162,201,299]:=by kernel_rfl
theorem Jj:joinedFacts prog 6 Tryz.f6 Rows.certifyAcceptsSpec Rows.certifyAcceptsRow=true:=by
 unfold joinedFacts Program.recurses Program.inPlace Program.unfollowed Program.varsNamed;rw[SN,DM,Rz,Pw,L9,I9,Ou]
 kernel_rfl
theorem certifyAccepts_holds:Rows.CertifyAcceptsSaid :=
 OpenClaim.holds_of_wide 6 Tryz.f6 rfl rfl rfl rfl rfl rfl rfl ⟨rfl, rfl, rfl, rfl, rfl⟩ rfl rfl rfl rfl rfl (by kernel_rfl) func6 Jj
  (of_decide_eq_true (by kernel_rfl)) (by unfold Func.isWrapper;first |(rw[if_pos (by decide +kernel)];kernel_rfl) |(rw[if_neg (by decide +kernel)];exact⟨rfl,rfl⟩))
  (fun os started H enc _=>M7 os started H enc)
end Go.Lw
namespace Go.Proofs.YtpdiojikejnehaaGreat
theorem certifyAccepts_proved:Rows.CertifyAcceptsSaid:=Go.Lw.certifyAccepts_holds
end Go.Proofs.YtpdiojikejnehaaGreat
