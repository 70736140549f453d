/- LimitsDyads: for any linkage and any turn the law returns true and leaves its arguments as they were. No other condition. Part 6 of 9: what the later parts need -/
import Derived.Test.YtmencaoblogmeaaGreatZe
import Derived.Laws.Cover3
set_option linter.unusedVariables false
open List (cons_append nil_append map_nil map_take all_append map_map)
open List renaming mem_of_getElem? → ar1, mem_cons_of_mem → ass, mem_append → ar9, map_cons → atb, mem_cons → asj, length_cons → asi, mem_cons_self → as2, length_append → asx, length_nil → asu, getD_eq_getElem?_getD → ar2, getElem?_append_left → asq, getElem?_eq_none → asg, all_eq_true → asd, getElem?_take → asy, getElem?_map → asa, getElem?_append_right → asm, getElem?_replicate → ast, map_append → asz, length_take → aso, take_of_length_le → asn, drop_zero → as8, take_length → asK, not_mem_nil → asf, length_map → ar3, length_replicate → asr, map_replicate → as5, map_set → as7, length_set → as9, replicate → apf, mem_of_mem_take → apg, map_congr_left → apk, drop_length → apn, mem_or_eq_of_mem_set → apo, mem_range → apt, contains_eq_any_beq → apw, length_drop → apx, drop_eq_getElem_cons → ap7, mem_of_mem_drop → ap8, getElem?_eq_some_iff → ap9, length_pos_iff → aqb, mem_map → aqd, take_append_drop → aqe, mem_singleton → aqf
open Nat renaming eq_of_beq_eq_true → ar4, le_refl → ar8, lt_or_ge → asb, le_trans → asv, mul_le_mul_right → asl, zero_le → ase, pow_add → as6, add_mul → an5, mul_assoc → an8, blt → aob, add_sub_cancel → aod, two_pow_pos → aoe, mul_comm → aog, zero_add → aoj, min_eq_left → aon, eq_zero_or_pos → aov, add_zero → aoy, mul_le_mul → aoz, add_assoc → ao0, pow_succ → ao1, beq → ao6, mul_pos → apa
open Option renaming map_eq_some_iff → ar6
open Bool renaming and_eq_true → ar5, or_eq_true → ata, not_true → aq7, false_eq_true → aq9, eq_false_iff → ara, not_eq_false' → arb, not_eq_true' → arf
open Int renaming toNat_natCast → as4, natAbs_mul → aqv
open Rat renaming intCast_mul → aq0
open Decidable renaming not_not → ar0
open Go renaming Operand → atn, Value → ato, TypeId → atp, Program → atq, World → atr
open Go.Result renaming andThen_ok → ats
open Go.Sem renaming run_bind → att, run_pure → atu
open Go.Proofs.Tryz
namespace Go.Lw
open Go.Proofs
abbrev svC(l:Li)(g:Gr)(a:As):List AV:=[.v (.string l.name),.lst 2 (l.bo.map Bd.av),.lst 7 (l.jo.map Jt.av),.lst 2 (l.drivers.map Dr.av),i64 g.kind,.lst 1 (g.bo.map i64),.lst 1 (g.jo.map i64),i64 g.driver,
  .lst 1 (a.rs.map nR),.lst 4 (a.bs.map Pl.av),.lst 1 (a.ms.map i64),.v .nilIface]
abbrev gE(l:Li)(g:Gr)(a:As):Blk:=.box (svC l g a)
def RM(e:Nat):AV:=if e=0 then .ptr 900 0 else .v (.pointer none)
def OX(e:Nat)(l:Li)(g:Gr)(a:As):Hp:=if e=0 then[pP 900 (gE l g a)]else[]
theorem vN{e:Nat}(h:e≠0):RM e=.v (.pointer none):=atd h
theorem uM{e:Nat}{l:Li}{g:Gr}{a:As}(h:e≠0):OX e l g a=[]:=atd h
theorem Qn(l:Li)(g:Gr):dp l g true=b7 l g++g.bo:=rfl
theorem Du(l:Li)(g:Gr):dp l g false=b7 l g:=by unfold dp;simp
theorem aa5{rs:List (List Rt)}{b:Pl}{i:Nat}{x:List Rt}(h:bp rs=0)(hx:b.l[i]?=some x)(hb:∀y∈b.l.take i,cW rs.length y=0)(hn:cW rs.length x≠0):cr rs b.l=cW rs.length x:=SD h hx hb hn
theorem ads{l:Li}{g:Gr}{a:As}{own:Bool}{j:Nat}{b:Int}(hb:(eK (dp l g own))[j]?=some b)(hj:∀c∈(eK (dp l g own)).take j,jA a c=0)(hn:jA a b≠0):iH ((eK (dp l g own)).map (jA a))=jA a b:=by
 have h1:eK (dp l g own)=(eK (dp l g own)).take j++b::(eK (dp l g own)).drop (j+1):=by
  obtain⟨hi,e⟩:=ap9.1 hb;rw[<- e,<- ap7 hi,aqe]
 generalize eK (dp l g own)=xs at *;rw[h1,asz,DA _ _ (DH hj),atb,QK,ate hn]
theorem abh(l:Li)(hl:l.ok)(k:Int)(a:As)(al:AB a)(own:Bool) :
  Con prog 49 [l.av,i64 k,a.av,bl own] [] (.tup [RM (iT l k a own),bQ (iT l k a own)]) (OX (iT l k a own) l (nD l k) a):=by
 have qJ:=al.bl;refine gF func49 (fun k z h=>by cases h) ?_;refine gc (Ch l hl) ?_;refine gC (fun y=>?_) (fun y=>?_)
 ·have h1:=gQ y;refine gR ?_;rw[aj1 rfl h1,vN h1,uM h1];exact pO rfl
 have h1:=gV y;obtain⟨ae,fp⟩:=WG h1;rw[show(if ax l=0 then ay l else[])=ay l from ate ae];have j4:=(f8 ae).2.2.2.1;have J6:=(y9 ae).2;have sH:ay l=cP l:=by unfold ay;rw[ate fp]
 refine cG ?_;refine gC (fun y=>?_) (fun y=>?_)
 ·have h2:=M4 y;have he:iT l k a own=9:=(uO ae).trans (aer fp h2);refine gR ?_;rw[he,vN (by decide),uM (by decide)];exact pO rfl
 have h2:=aaw y;refine gl ?_;refine gl ?_;refine gC (fun y=>?_) (fun y=>?_)
 ·have h3:=Wl y;have he:iT l k a own=10:=(uO ae).trans (W4 fp h2 h3);refine gR ?_;rw[he,vN (by decide),uM (by decide)];exact pO rfl
 have h3:=YF y;refine gc (AH a.rs 400000000 al.tr) ?_;refine gC (fun y=>?_) (fun y=>?_)
 ·have h4:=gQ y;refine gR ?_;rw[(uO ae).trans (acz fp h2 h3 h4),vN h4,uM h4];exact pO rfl
 have h4:=gV y;obtain⟨i,rfl,hi⟩:=aff h2;obtain⟨g,hg⟩:=aJ hi;obtain⟨hgd,dM⟩:=kF ae (ar1 hg);have sL:nD l (i:Nat)=g:=aS hg;rw[sL];have UB:iT l (i:Nat) a own=iH ((eK (dp l g own)).map (jA a)):=by rw[<- sL];exact(uO ae).trans (M9 fp h2 h3 h4)
 have cT:(dp l g own).length<=5:=M6 dM;have Jx:=dM.lb;have uG:=dM.lj;refine gi (aw hg) ?_;refine gt (aG (Fq l hl ae g dM) (b9 rfl rfl) aK rfl rfl) ?_;refine gD ?_;refine gf ?_;refine v7 [1,4,6,10] [4,6] [pP 13 (.ms 900 1 0 (dp l g own).length)] [pP 900 (.row 1 ((dp l g own).map i64))] (True) ?_ ?_
 ·intro K1 J1;refine gC (fun y=>?_) (fun y=>?_)
  ·have ho:own=true:=y;subst ho;refine gi (aw hg) ?_;refine gs (eQ (.tmp rfl) rfl (by rw[ar3,lV]) (.tmp rfl) T30 rfl T3 rfl rfl (by simp only[ar3];omega) rfl rfl) ?_;exact k8 J1 trivial (hw:=(Wk.of (sl:=[pP 1 (i64 i),pP 4 (.ptr 4 0),pP 6 (.ptr 6 0),pP 10 (.lst 4 ((ay l).map Gr.av)),pP 13 (.ms 71 1 0 (dp l g true).length)]) (hp:=[pP 4 (.box l.av.cells),pP 6 (.box a.av.cells),pP 71 (.row 1 ((dp l g true).map i64))]) (.k (.k (.k (.k (.cons rfl (.of (by rw[Qn,asx,lV,ar3])) .nil))))) (.k (.k (.cons rfl (.of (by rw[Qn,asz])) .nil)))).trans<|(Wk.rk (k:=71) (d:=900) rfl rfl).trans<|Wk.o)
  have ho:own=false:=y;subst ho;exact k8 J1 trivial (hw:=Wk.of (.cons rfl (.of (by rw[Du,lV])) (.k (.k (.k (.k .nil))))) (.cons rfl (.of (by rw[Du])) (.k (.k .nil))))
 rintro -;refine gt (aG (Con.rk 900 rfl rfl (Ni (dp l g own) oz)) (eJ rfl) aK rfl rfl) ?_ (17,0);refine gW ((Wk.freeze (k:=900) rfl).trans<|Wk.of (sl:=[pP 1 (i64 i),pP 4 (.ptr 4 0),pP 6 (.ptr 6 0),pP 10 (.lst 4 ((ay l).map Gr.av)),pP 13 (.lst 1 ((eK (dp l g own)).map i64))]) (hp:=[pP 4 (.box l.av.cells),pP 6 (.box a.av.cells)]) (.k (.k (.k (.k (.cons rfl (.of (cq (by rw[ar3,CE]))) .nil))))) (.k (.k .nil))) ?_;refine gl ?_;refine aP [1,4,6,10,74,75] [4,6] (fun(j:Nat)=>[pP 76 (i64 j)]) (fun _=>[]) (fun j=>j<=(eK (dp l g own)).length/\∀b∈(eK (dp l g own)).take j,jA a b=0) (fun j=>(eK (dp l g own)).length-j) 0 ⟨ase _,fun b hb=>by simp at hb⟩ ?_;rintro j ⟨hj,EV⟩ K2 J2;refine gC (fun y=>?_) (fun y=>?_)
 ·have fa:=aT y;obtain ⟨b,hb⟩:=aJ fa;have Kb:=AG.1 (ar1 hb);have hbr:=AP ae dM b Kb;have fm:(eK (dp l g own)).length <= 5:=by rw [CE]; exact cT
  refine gi (aw hb) ?_;refine gC (fun y=>?_) (fun y=>?_)
  ·have hz : jA a b = 0 := by unfold jA; rw [ate (by simpa [aa] using y)]
   refine ga aL ?_;exact aM J2 (j+1) ⟨fa,fun c hc=>by rw[fO hb]at hc;rcases ar9.1 hc with h9 |h9;exact EV c h9;(rw[aqf.1 h9];exact hz)⟩
  have iP:0<=b:=by have:=ath (p:=b<0) y;omega
  obtain⟨p,hp⟩:=aJ (l:=a.bs) (i:=b.toNat) oz;have fo:=al.nr p (ar1 hp);have cE:jA a b=cr a.rs p.l:=by unfold jA;rw[atd oz,aS hp]
  refine gi (eI (n:=b.toNat) oz hp) ?_;refine ge rfl ?_;refine aP [1,4,6,10,74,75,76,95,96] [4,6] (fun(q:Nat)=>[pP 97 (i64 q)]) (fun _=>[]) (fun q=>q<=4/\∀x∈p.l.take q,cW a.rs.length x=0) (fun q=>4-q) 0 ⟨ase _,fun x hx=>by simp at hx⟩ ?_;rintro q ⟨hq,Au⟩ K3 J3;refine gC (fun y=>?_) (fun y=>?_)
  ·have bH:q<4:=aT (b:=4) y;obtain⟨x,hx⟩:∃x,p.l[q]?=some x:=aJ (show q<p.l.length from bH);have Kc:=fo x (ar1 hx);have qI:cr a.rs [x]=cW a.rs.length x:=adi h4;refine gi (aw hx) ?_;refine gc (Ts a.rs 400000000 al.tr x 50000000000 Kc (agq _)) ?_;refine gC (fun y=>?_) (fun y=>?_)
   ·have h5:=gQ y;rw [qI] at h5 ⊢;have h6:jA a b = cW a.rs.length x:=cE.trans (aa5 h4 hx Au h5);have h7:iT l (i:Nat) a own = cW a.rs.length x:=by rw [UB,ads hb EV (by rw [h6]; exact h5),h6]
    refine gR ?_;rw[h7,vN h5,uM h5];exact pO rfl
   have h5:=gV y;rw[qI]at h5;refine ga aL ?_;exact aM J3 (q+1) ⟨bH,fun z hz=>by rw[fO hx]at hz;rcases ar9.1 hz with h9 |h9;exact Au z h9;(rw[aqf.1 h9];exact h5)⟩
  have bH:q=4:=bc (b:=4) hq y;subst bH;have Au:∀x∈p.l,cW a.rs.length x=0:=Au;refine ga aL ?_;exact aM J2 (j+1) ⟨fa,fun c hc=>by rw[fO hb]at hc;rcases ar9.1 hc with h9 |h9;exact EV c h9;(rw[aqf.1 h9,cE];exact BP h4 Au)⟩
 have fa:=bc hj y
 have h8:iT l (i:Nat) a own=0:=by
  rw[UB];exact DH (fun b hb=>EV b (by rw[fa,asK];exact hb))
 refine gi (aw hg) ?_;refine gD ?_ (77777,0);refine gW (Wk.o (sl:=[pP 8 (.ptr 120 0),pP 9 (.v .nilIface)]) (hp:=[pP 120 (gE l g a)])) ?_ (77777,0);refine gW (Wk.rk (k:=120) (d:=900) rfl rfl) ?_;refine gR ?_;rw[h8];exact aD.keep (bt rfl)
theorem ac8{ts:LL}{r e:Nat}(tw:Tw ts r){a b c d:List Rat}(ha:Nm ts.length e a)(hb:Nm ts.length e b)(hc:Nm ts.length e c)(hd:Nm ts.length e d)(he:2*e<=lm ts.length) :
  FP 61 [bA ts,aQ a b,aQ c d] (.tup [aQ (sh ts.length (subT ts (ai ts.length a) (ai ts.length c))) (sh ts.length (subT ts (ai ts.length b) (ai ts.length d))),.v .nilIface]):=by
 refine am func61 ?_;refine gc (ye (e:=e) tw [(a,b),(c,d)] (by simp only[asj,asf,or_false];rintro p (rfl |rfl);exact⟨ha,hb⟩;exact⟨hc,hd⟩) oz (by simp)) ?_;refine gf ?_;refine gt (aG (Con.rekeyB 21 rfl rfl rfl rfl (ME tw ha hb hc hd he)) (aB rfl rfl rfl) aK rfl rfl) ?_;refine gt (aG (Con.rekeyB 21 rfl rfl rfl rfl (IM _ _ _)) (b9 rfl rfl) aK rfl rfl) ?_;refine bu ?_;rfl
theorem RJ{ts:LL}{r e:Nat}(tw:Tw ts r){a b c d:List Rat}(ha:Nm ts.length e a)(hb:Nm ts.length e b)(hc:Nm ts.length e c)(hd:Nm ts.length e d)(he:2*(e+e+kB r ts.length)<=lm ts.length) :
  FP 62 [bA ts,aQ a b,aQ c d] (.tup [nA (sh ts.length (vq ts (ai ts.length a) (ai ts.length b) (ai ts.length c) (ai ts.length d))),.v .nilIface]):=by
 refine am func62 ?_;refine gc (Con.sA (.cons (.refl _) (.cons (.refl _) (.cons (.refl _) (.cons (Sub.fn0 _) .nil)))) (OU tw ha hb hc hd oz _ _ (al3 tw ha hb hc hd he))) ?_;refine bu ?_
 first |rfl |(simp;done)
section
variable{ts:LL}{u k:Nat}{a b a2 b2:List Rat}{x y x2 y2:Et ts}{w v w' v' w2 v2 w3 v3:Nat}
theorem Gk [c : Ct ts u k] [ha : Zl ts u k a x w v] [hb : Zl ts u k b y w' v'] [sK : Zl ts u k a2 x2 w2 v2] [bg : Zl ts u k b2 y2 w3 v3] (h : w + v + (w' + v') + (w2 + v2 + (w3 + v3)) <= 2500 := by decide) :
  FP 61 [bA ts,aQ a b,aQ a2 b2] (.tup [aQ (sX (x-x2)) (sX (y-y2)),.v .nilIface]):=by
 obtain⟨R,tw,hk⟩:=c.ex;have h0:=G4 c hk;have h1:=ac8 (e:=2500*1000000) tw (ha.up c oz) (hb.up c oz) (sK.up c oz) (bg.up c oz) oz;rw[ha.eq,hb.eq,sK.eq,bg.eq]at h1;exact h1
theorem Yq [c : Ct ts u k] [ha : Zl ts u k a x w v] [hb : Zl ts u k b y w' v'] [sK : Zl ts u k a2 x2 w2 v2] [bg : Zl ts u k b2 y2 w3 v3] (h : w + v + (w' + v') + (w2 + v2 + (w3 + v3)) <= 2500 := by decide) :
  FP 62 [bA ts,aQ a b,aQ a2 b2] (.tup [nA (sX (crsE x y x2 y2)),.v .nilIface]):=by
 obtain⟨R,tw,hk⟩:=c.ex;have h0:=G4 c hk;have h1:=RJ (e:=2500*1000000) tw (ha.up c oz) (hb.up c oz) (sK.up c oz) (bg.up c oz) oz;rw[ha.eq,hb.eq,sK.eq,bg.eq]at h1;exact h1
end
variable{P:atq}{N:Nat}{R:Array Oper}{s:AS}{pos:String}{after:Array Edge}
theorem aX{d f k:Nat}{bx:Blk}{args:Array atn}{ts:Array atp}{xs:List AV}{r:AV}{t:atp}
  (dh:Con P f xs [(k,some bx)] r [(k,some bx)]) (ha:EvL s args.toList xs) (hk:s.blk k=some bx) (bm:g9 s [(k,some bx)] [(k,some bx)] r=true) (hN:aob d N=true) :
  Step P N R s ⟨some d,.call ⟨.value (.func f),args,ts⟩,t,pos,after,none⟩ ⟨some r,[],dk args.toList,[k]⟩:=by
 refine Step.weaken (aG (d:=d) dh ha (fun k' z h=>by
  obtain⟨rfl,h9⟩:=io h;cases h9;exact hk) bm hN) (fun s' h=>h) (fun s' h k' hk'=>?_) (fun s' h=>?_)
 ·left;simp only[asz,cU,atb,map_nil,ar9,asj,asf,or_false]at hk' ⊢;rcases hk' with h9 |h9 <;> exact h9
 ·intro C m a w hr;refine⟨m,hr.weak (fun t x hx=>⟨x,hx,.refl _⟩) (fun k' x hx=>⟨x,?_,.refl _⟩)⟩;have hb:lk s'.hp k=some bx:=(h.2 k (aqf.2 rfl)).trans hk;show lk ([(k,some bx)]++cU [(k,some bx)]++s'.hp) k'=some x;have hx':lk s'.hp k'=some x:=hx;simp only[cU,atb,map_nil,cons_append,nil_append,aE]
  by_cases e:k'=k
  ·rw[ate e];rw[e,hb]at hx';exact hx'
  ·rw[atd e,atd e];exact hx'
theorem qV{k1 k2 k':Nat}{x y:Option Blk}{z:Blk}(h:lk [(k1,x),(k2,y)] k'=some z):(k'=k1/\x=some z)\/(k'≠k1/\k'=k2/\y=some z):=by
 rw[aE]at h
 by_cases e:k'=k1
 ·rw[ate e]at h;exact .inl ⟨e,h⟩
 ·rw[atd e]at h;obtain⟨h1,h2⟩:=io h;exact .inr ⟨e,h1,h2⟩
theorem sf{k1 k2:Nat}{x y:Option Blk}:lk [(k1,x),(k2,y)] k1=x:=by rw[aE,ate rfl]
theorem rr{k1 k2:Nat}{x y:Option Blk}(h:k1≠k2):lk [(k1,x),(k2,y)] k2=y:=by rw[aE,atd (fun e=>h e.symm),aE,ate rfl]
theorem Qh{k1 k2:Nat}(aO:k1≠k2){x y:Blk}{m:Nat->Option Nat}{b:Nat}:aW [(k1,some x),(k2,some y)] m b↔m k1=some b\/m k2=some b:=by
 constructor
 ·rintro⟨k',z,hz,hb⟩;rcases qV hz with⟨e,_⟩ |⟨_,e,_⟩
  ·exact .inl (e▸hb)
  ·exact .inr (e▸hb)
 ·rintro(h |h)
  ·exact⟨k1,x,sf,h⟩
  ·exact⟨k2,y,rr aO,h⟩
theorem Rw{k1 k2 d1 d2:Nat}(hk:k1≠k2)(hd:d1≠d2){x y x' y':Blk}{m m2:Nat->Option Nat}(h1:m2 d1=m k1)(h2:m2 d2=m k2):aW [(d1,some x'),(d2,some y')] m2=aW [(k1,some x),(k2,some y)] m:=by
 funext b;apply propext;rw[Qh hk,Qh hd,h1,h2]
theorem Fj{ext:Nat->Prop}{k1 k2 d1 d2:Nat}(hk:k1≠k2)(hd:d1≠d2){x y x' y':Blk}{m m2:Nat->Option Nat}{w:atr}(h1:m2 d1=m k1)(h2:m2 d2=m k2):Im ext [(d1,some x'),(d2,some y')] m2 w=Im ext [(k1,some x),(k2,some y)] m w:=by
 funext b cs;simp only[Im,Rw hk hd (x:=x) (y:=y) (x':=x') (y':=y') h1 h2]
theorem RQ{ext:Nat->Prop}{k1 k2 d1 d2:Nat}(hk:k1≠k2)(hd:d1≠d2){x y:Blk}{m m2:Nat->Option Nat}{w:atr}(hx:x.nm=[])(hy:y.nm=[])(h1:m2 d1=m k1)(h2:m2 d2=m k2)
  (hr:HeapRel ext [(k1,some x),(k2,some y)] m w):HeapRel ext [(d1,some x),(d2,some y)] m2 w:=by
 refine⟨?_,?_,?_⟩
 ·intro k' z hz;rw[Fj hk hd (x:=x) (y:=y) h1 h2];rcases qV hz with⟨rfl,h9⟩ |⟨_,rfl,h9⟩
  ·cases h9;exact BlkRep.mono (w:=w) (fun _ _ h=>h) (fun _ _ h=>h) (fun _ _ hn=>(G6 hx hn).elim) h1 (fun _ _=>rfl) (hr.blk k1 _ sf)
  ·cases h9;exact BlkRep.mono (w:=w) (fun _ _ h=>h) (fun _ _ h=>h) (fun _ _ hn=>(G6 hy hn).elim) h2 (fun _ _=>rfl) (hr.blk k2 _ (rr hk))
 ·intro k k' z z' b hz hz' hb hb';rcases qV hz with⟨rfl,_⟩ |⟨_,rfl,_⟩ <;> rcases qV hz' with⟨rfl,_⟩ |⟨_,rfl,_⟩
  ·rfl
  ·exact atk (hr.inj k1 k2 _ _ b sf (rr hk) (h1▸hb) (h2▸hb')) hk
  ·exact atk (hr.inj k1 k2 _ _ b sf (rr hk) (h1▸hb') (h2▸hb)) hk
  ·rfl
 ·intro k' z b hz hb;rcases qV hz with⟨rfl,h9⟩ |⟨_,rfl,h9⟩
  ·exact hr.sep k1 _ b sf (h1▸hb)
  ·exact hr.sep k2 _ b (rr hk) (h2▸hb)
theorem Con.rekeyBB{P:atq}{f:FuncId}{k1 k2 o1 o2:Nat}{x y x' y':Blk}{xs:List AV}{r:AV}(d1 d2:Nat)(hk:k1≠k2)(hd:d1≠d2)(hx:x.nm=[])(hy:y.nm=[])(hx':x'.nm=[])(hy':y'.nm=[])(ji:(xs.all fun x=>x.nm.isEmpty)=true)(hr:r.nm=[])
  (h:Con P f (.ptr k1 o1 :: .ptr k2 o2::xs) [(k1,some x),(k2,some y)] r [(k1,some x'),(k2,some y')]):Con P f (.ptr d1 o1 :: .ptr d2 o2::xs) [(d1,some x),(d2,some y)] r [(d1,some x'),(d2,some y')]:=by
 refine⟨h.ok,?_⟩;intro ext m w vs hext ch cV db;obtain⟨m2,e1,e2⟩:∃m2:Nat->Option Nat,m2 k1=m d1/\m2 k2=m d2:=⟨fun k=>if k=k1 then m d1 else m d2,ate rfl,atd (fun e=>hk e.symm)⟩
 have h1 := h.ret ext m2 w vs hext (RQ hd hk hx hy e1 e2 ch) (by simpa using cV) (by
  intro j v z hv hz;rw[Fj hd hk (x:=x) (y:=y) e1 e2]
  match j,hz with
  |0,hz =>
   cases hz;have h2:=db 0 v _ hv rfl;cases h2 with
   |ptr hm=>exact .ptr (e1.trans hm)
  |1,hz =>
   cases hz;have h2:=db 1 v _ hv rfl;cases h2 with
   |ptr hm=>exact .ptr (e2.trans hm)
  |j+2,hz =>
   have h2:=db (j+2) v z hv hz;refine kN ?_ h2;have:=asd.1 ji z (ar1 hz);simpa using this)
 refine Calls.mono h1 ?_;rintro e w' ⟨v,m',rfl,hf,hh,hn,Eo,aV⟩;have ho:=Rw hd hk (x:=x) (y:=y) (x':=x) (y':=y) e1 e2;obtain⟨m3,f1,f2⟩:∃m3:Nat->Option Nat,m3 d1=m' k1/\m3 d2=m' k2:=⟨fun k=>if k=d1 then m' k1 else m' k2,ate rfl,atd (fun e=>hd e.symm)⟩
 refine⟨v,m3,rfl,ho▸hf,RQ hk hd hx' hy' f1 f2 hh,?_,?_,?_⟩
 ·intro k' z b hz hb;rw[<- ho];rcases qV hz with⟨rfl,_⟩ |⟨_,rfl,_⟩
  ·exact hn k1 _ b sf (f1▸hb)
  ·exact hn k2 _ b (rr hk) (f2▸hb)
 ·intro k' z z' hz hz';rcases qV hz with⟨rfl,_⟩ |⟨_,rfl,_⟩
  ·rw[f1,<- e1];exact Eo k1 _ _ sf sf
  ·rw[f2,<- e2];exact Eo k2 _ _ (rr hk) (rr hk)
 ·rw[Fj hk hd (x:=x') (y:=y') f1 f2];exact kN hr aV
end Go.Lw
namespace Go.Lw
open Go.Proofs
theorem Cz{l:Li}{body pt:Int}{n k:Nat}{bd:Bd}{m:Mk}(h:MkP l body pt n k bd m):qP (az l body pt)=.agg [bl m.x.neg,ws m.x.num,ws m.x.den,bl m.y.neg,ws m.y.num,ws m.y.den]:=by
 rw[h.ex,h.ey]
theorem Fa{p q:Rat×Rat}{e f:Nat}(hp:Sm e p)(hq:Sm f q)(he:e<=1000000)(hf:f<=1000000):FP 133 [qP p,qP q] (qP (a7 p q)):=by
 refine am func133 ?_;refine gc (oW (hp.x.qs oz) (hq.x.qs oz)) ?_;refine gc (oW (hp.y.qs oz) (hq.y.qs oz)) ?_;refine gD ?_;refine ah ?_
 first |rfl |(simp;done)
theorem Vq{p q:Rat×Rat}{e f:Nat}(hp:Sm e p)(hq:Sm f q)(he:e<=1000000)(hf:f<=1000000):FP 231 [qP p,qP q] (qA (dm p q)):=by
 refine am func231 ?_;refine gc (iG (hp.x.qs oz) (hq.x.qs oz)) ?_;refine gc (iG (hp.y.qs oz) (hq.y.qs oz)) ?_;refine gc (rU ((hp.x.mul hq.x).qs oz) ((hp.y.mul hq.y).qs oz)) ?_;refine gD ?_;refine ah ?_
 first |rfl |(simp;done)
theorem ak8{p q:Rat×Rat}{e f:Nat}(hp:Sm e p)(hq:Sm f q)(he:e<=1000000)(hf:f<=1000000):FP 157 [qP p,qP q] (qA (od p q)):=by
 refine am func157 ?_;refine gc (iG (hp.x.qs oz) (hq.y.qs oz)) ?_;refine gc (iG (hp.y.qs oz) (hq.x.qs oz)) ?_;refine gc (oW ((hp.x.mul hq.y).qs oz) ((hp.y.mul hq.x).qs oz)) ?_;refine gD ?_;refine ah ?_
 first |rfl |(simp;done)
theorem GH{p:Rat×Rat}{e:Nat}(hp:Sm e p)(he:e<=1000000):FP 145 [qP p] (nA (sh 0 (dm p p:Rat))):=by
 refine am func145 ?_;refine gc (Vq hp hp he he) ?_;refine gc (sT ((hp.dot hp).qs oz)) ?_;refine ah ?_
 first |rfl |(simp;done)
theorem akw:FP 54 [] (nA (sh 0 ((1:Int):Rat))):=by
 refine am func54 ?_;refine gc (kW 1 oz) ?_;refine gc (sT (zw oz)) ?_;refine ah ?_
 first |rfl |(simp;done)
theorem rE{l:Li}(hl:l.ok)(ae:ax l=0)(g:Gr)(a:As){body pt:Int}(h1:aZ body l.bo.length=true)(h2:aZ pt (bT l body).length=true) :
  Con prog 147 [.ptr 1000 0,i64 body,i64 pt] [pP 1000 (gE l g a)] (qP (az l body pt)) [pP 1000 (gE l g a)]:=by
 obtain⟨n,k,bd,m,mp⟩:=tN hl ae h1 h2;rw[Cz mp];have hn:=mp.hn;have hk:=mp.hk;have eY:=hl.lb;subst hn;subst hk;refine gF func147 (fun k z h=>bD h) ?_;refine gi (aw mp.gbd) ?_;refine gi (aw mp.gm) ?_;refine gR ?_;exact aD.keep (bt rfl)
theorem zJ{E:Nat}{l:Li}(hl:l.ok)(ae:ax l=0)(g:Gr){a:As}(al:AB a)(hc:bp a.rs=0){body pt:Int}(h1:aZ body l.bo.length=true)(h2:aZ pt (bT l body).length=true)(hE:E<=20000000000)(h3:(llq a.rs).length<=2)(hb:Pd E a body) :
  Con prog 148 [.ptr 1000 0,i64 body,i64 pt] [pP 1000 (gE l g a)] (aQ (sX (aC l a body pt).1) (sX (aC l a body pt).2)) [pP 1000 (gE l g a)]:=by
 obtain⟨n,k,bd,m,b,hp⟩:=zi hl ae al hc h1 h2 hb;obtain⟨tw,Kd⟩:=jn al.tr hc
 have kb:kB 400000000 (llq a.rs).length<=1200000006:=by
  have h9:=o8 400000000 h3;have h8:eB 400000000 2=1200000006:=by decide
  show eB 400000000 _<=_;omega
 have nh:lm (llq a.rs).length=200000000000:=by unfold lm;rw[ate h3]
 have eY:=hl.lb;have qJ:=al.bl;have fA:=rE hl ae g a h1 h2;show Con prog _ _ _ (aQ (sh (llq a.rs).length (uq l a body pt).1) (sh (llq a.rs).length (uq l a body pt).2)) _;rw[hp.eq];have hn:=hp.mp.hn;rw[Cz hp.mp]at fA
 have mc:FP 252 [dN a.rs,b.av,m.x.av,m.y.av] (.tup [aQ (sh (llq a.rs).length (oX (llq a.rs) b m).1) (sh (llq a.rs).length (oX (llq a.rs) b m).2),.v .nilIface]):=by
  rw[Kd,hp.av,hp.mp.ex,hp.mp.ey];have h9:=O3 tw (hp.ok.c.mono (f:=E+1000) oz) (hp.ok.s.mono oz) (hp.ok.x.mono oz) (hp.ok.y.mono oz) (hp.mp.sm.x.mono (f:=E+1000) oz) (hp.mp.sm.y.mono (f:=E+1000) oz) oz;unfold oX;rw[hp.mp.ex,hp.mp.ey,bE,bE];exact h9
 refine gF func148 (fun k z h=>bD h) ?_;refine gt (aG fA (aB rfl rfl rfl) aK rfl rfl) ?_;refine gi (eI (n:=n) hn hp.gb) ?_;refine gc mc ?_;refine gD ?_;refine gC (fun y=>?_) (fun y=>?_) (st2:=(77777,0))
 ·refine gR ?_;exact aD.keep (bt rfl)
 cases y
theorem BT{E:Nat}(hE:E<=20000000000){l:Li}(hl:l.ok)(ae:ax l=0)(g:Gr)(hg:GrOk l g){a:As}(al:AB a)(hc:bp a.rs=0){k:Nat}{z b:Int}{j:Jt}(hz:g.jo[k]?=some z)(hj:l.jo[z.toNat]?=some j)(h3:(llq a.rs).length<=2)(h:PinP E l a j b) :
  Con prog 128 [.ptr 1000 0,i64 k,i64 b] [pP 1000 (gE l g a)] (.tup [qP (aH l j b),aQ (sX (aN l a j b).1) (sX (aN l a j b).2)]) [pP 1000 (gE l g a)]:=by
 obtain⟨z0,z1⟩:=hg.j z (ar1 hz);obtain⟨i1,i2,i3,i4,_⟩:=cJ ae hj;have uG:=hg.lj;have md:=hl.lj;refine gF func128 (fun k z h=>bD h) ?_;refine gi (aw hz) ?_;refine gi (eI (n:=z.toNat) oz hj) ?_;refine gD ?_;refine gC (fun y=>?_) (fun y=>?_)
 ·have e:j.a = b:=dJ y;have hb:Pd E a j.b:=by rcases h.tie with h9 | h9; exact h9.2; exact atk e h9.1
  have eq1:aH l j b=az l b j.point:=ate e;have eq2:aN l a j b=aC l a j.b j.on:=ate e;rw[eq1,eq2];subst e;refine gt (aG (rE hl ae g a i1 i3) (aB rfl rfl rfl) aK rfl rfl) ?_;refine gt (aG (zJ hl ae g al hc i2 i4 hE h3 hb) (aB rfl rfl rfl) aK rfl rfl) ?_;refine gD ?_;refine gR ?_;exact aD.keep (bt rfl)
 have e:j.a≠b:=du y;have e2:j.b=b/\Pd E a j.a:=by rcases h.tie with h9 |h9;exact atk h9.1 e;exact h9.2
 have eq1:aH l j b=az l b j.on:=atd e;have eq2:aN l a j b=aC l a j.a j.point:=atd e;rw[eq1,eq2];obtain⟨e2,hb⟩:=e2;subst e2;refine gt (aG (rE hl ae g a i2 i4) (aB rfl rfl rfl) aK rfl rfl) ?_;refine gt (aG (zJ hl ae g al hc i1 i3 hE h3 hb) (aB rfl rfl rfl) aK rfl rfl) ?_;refine gD ?_;refine gR ?_;exact aD.keep (bt rfl)
theorem SC{l:Li}(hl:l.ok)(ae:ax l=0)(g:Gr)(hg:GrOk l g)(a:As){z b:Int}{j:Jt}(hz:g.jo[2]?=some z)(hj:l.jo[z.toNat]?=some j)(h:j.a=b\/j.b=b) :
  Con prog 142 [.ptr 1000 0,i64 b] [pP 1000 (gE l g a)] (qP (aH l j b)) [pP 1000 (gE l g a)]:=by
 obtain⟨z0,z1⟩:=hg.j z (ar1 hz);obtain⟨i1,i2,i3,i4,_⟩:=cJ ae hj;have uG:=hg.lj;have md:=hl.lj;have h2:=(ap9.1 hz).1;refine gF func142 (fun k z h=>bD h) ?_;refine gi (aw hz) ?_;refine gi (eI (n:=z.toNat) oz hj) ?_;refine gD ?_;refine gC (fun y=>?_) (fun y=>?_)
 ·have e:j.a=b:=dJ y;have eq1:aH l j b=az l b j.point:=ate e;rw[eq1];subst e;refine gt (aG (rE hl ae g a i1 i3) (aB rfl rfl rfl) aK rfl rfl) ?_;refine gR ?_;exact aD.keep (bt rfl)
 have e:j.a≠b:=du y;have e2:j.b=b:=by rcases h with h9 |h9;exact atk h9 e;exact h9
 have eq1:aH l j b=az l b j.on:=atd e;rw[eq1];subst e2;refine gt (aG (rE hl ae g a i2 i4) (aB rfl rfl rfl) aK rfl rfl) ?_;refine gR ?_;exact aD.keep (bt rfl)
theorem RL{l:Li}(hl:l.ok)(g:Gr)(hg:GrOk l g)(a:As){z:Int}{j:Jt}(hz:g.jo[1]?=some z)(hj:l.jo[z.toNat]?=some j) :
  Con prog 146 [.ptr 1000 0] [pP 1000 (gE l g a)] j.av [pP 1000 (gE l g a)]:=by
 obtain⟨z0,z1⟩:=hg.j z (ar1 hz);have uG:=hg.lj;have md:=hl.lj;have h2:=(ap9.1 hz).1;refine gF func146 (fun k z h=>bD h) ?_;refine gi (aw hz) ?_;refine gi (eI (n:=z.toNat) oz hj) ?_;refine gD ?_;refine gR ?_;exact aD.keep (bt rfl)
abbrev hdC{ts:LL}(p:Rat×Rat)(at_:Et ts×Et ts)(c:Rat×Rat):List AV :=
  [bl (rt p.1).neg,ws (rt p.1).num,ws (rt p.1).den,bl (rt p.2).neg,ws (rt p.2).num,ws (rt p.2).den,nA (sX at_.1),nA (sX at_.2),bl (rt c.1).neg,ws (rt c.1).num,ws (rt c.1).den,bl (rt c.2).neg,ws (rt c.2).num,ws (rt c.2).den]
abbrev A6{ts:LL}(p:Rat×Rat)(at_:Et ts×Et ts)(c:Rat×Rat):AV:=.agg (hdC p at_ c)
abbrev Yd{ts:LL}(p:Rat×Rat)(at_:Et ts×Et ts)(c:Rat×Rat):AV:=.agg [nA (sX at_.1),nA (sX at_.2),nA (sh 0 (da c p:Rat))]
theorem IN{ts:LL}{p c:Rat×Rat}(hp:Sm 1000 p)(hc:Sm 1000 c)(at_:Et ts×Et ts):FP 58 [A6 p at_ c] (Yd p at_ c):=by
 refine am func58 ?_;refine gc (Fa hc hp oz oz) ?_;refine gc (GH (hc.sub hp) oz) ?_;refine gD ?_;refine ah ?_
 first |rfl |(simp;done)
theorem ah4{E:Nat}{l:Li}(hl:l.ok)(ae:ax l=0){a:As}(al:AB a)(hc:bp a.rs=0)(h3:(llq a.rs).length<=2){i k z0 z1 z2:Int}{j0 j1 j2:Jt}(hg:GrOk l ⟨1,[i,k],[z0,z1,z2],0⟩)
  (h0:l.jo[z0.toNat]?=some j0) (h1:l.jo[z1.toNat]?=some j1) (h2:l.jo[z2.toNat]?=some j2) (p0:PinP E l a j0 i) (p1:PinP E l a j1 k) (t1:j2.a=i\/j2.b=i) (t2:j2.a=k\/j2.b=k) (hE:E<=20000000000:=by omega) :
  Con prog 55 [.ptr 1000 0] [pP 1000 (gE l ⟨1,[i,k],[z0,z1,z2],0⟩ a)] (.tup [A6 (aH l j0 i) (aN l a j0 i) (aH l j2 i),A6 (aH l j1 k) (aN l a j1 k) (aH l j2 k)]) [pP 1000 (gE l ⟨1,[i,k],[z0,z1,z2],0⟩ a)]:=by
 refine gF func55 (fun k z h=>bD h) ?_;refine gi (rfl) ?_;refine gi (rfl) ?_;refine gD ?_;refine gt (aG (BT oz hl ae _ hg al hc (k:=0) rfl h0 h3 p0) (.cons (.tmp rfl) (.cons (.const _) (eJ rfl))) aK rfl rfl) ?_;refine gt (aG (BT oz hl ae _ hg al hc (k:=1) rfl h1 h3 p1) (.cons (.tmp rfl) (.cons (.const _) (eJ rfl))) aK rfl rfl) ?_;refine gt (aG (SC hl ae _ hg a rfl h2 t1) (b9 rfl rfl) aK rfl rfl) ?_;refine gt (aG (SC hl ae _ hg a rfl h2 t2) (b9 rfl rfl) aK rfl rfl) ?_;refine gD ?_;refine gR ?_;exact aD.keep (bt rfl)
theorem U8{E:Nat}{l:Li}(hl:l.ok)(ae:ax l=0){a:As}(al:AB a)(hc:bp a.rs=0)(h3:(llq a.rs).length<=2){i z0 z1:Int}{j0 j1:Jt}(hg:GrOk l ⟨2,[i],[z0,z1],0⟩)
  (h0:l.jo[z0.toNat]?=some j0) (h1:l.jo[z1.toNat]?=some j1) (p0:PinP E l a j0 i) (ha:j1.a=i) (hk:j1.kind≠0) (hb:Pd E a j1.b) (hE:E<=20000000000:=by omega) :
  Con prog 59 [.ptr 1000 0] [pP 1000 (gE l ⟨2,[i],[z0,z1],0⟩ a)] (.tup [A6 (aH l j0 i) (aN l a j0 i) (az l i j1.point),aQ (sX (aC l a j1.b j1.on).1) (sX (aC l a j1.b j1.on).2),aQ (sX (aC l a j1.b j1.to).1) (sX (aC l a j1.b j1.to).2)]) [pP 1000 (gE l ⟨2,[i],[z0,z1],0⟩ a)]:=by
 obtain⟨i1,i2,i3,i4,i5⟩:=cJ ae h1;rw[ha]at i1 i3;refine gF func59 (fun k z h=>bD h) ?_;refine gi (rfl) ?_;refine gt (aX (RL hl _ hg a rfl h1) (eJ rfl) rfl rfl rfl) ?_;refine gD ?_;refine gt (aG (BT oz hl ae _ hg al hc (k:=0) rfl h0 h3 p0) (.cons (.tmp rfl) (.cons (.const _) (eJ rfl))) aK rfl rfl) ?_;refine gt (aG (rE hl ae _ a i1 i3) (aB rfl rfl rfl) aK rfl rfl) ?_;refine gt (aG (zJ hl ae _ al hc i2 i4 oz h3 hb) (aB rfl rfl rfl) aK rfl rfl) ?_;refine gt (aG (zJ hl ae _ al hc i2 (i5 hk) oz h3 hb) (aB rfl rfl rfl) aK rfl rfl) ?_;refine gD ?_;refine gR ?_;exact aD.keep (bt rfl)
structure Vr where
  w:List Rt
  x:List Rt
  y:List Rt
instance:Inhabited Vr:=⟨⟨[],[],[]⟩⟩
def Vr.av(v:Vr):AV:=.agg [nR v.w,nR v.x,nR v.y]
def Vr.l(v:Vr):List (List Rt):=[v.w,v.x,v.y]
abbrev bK(rs:List (List Rt)):Blk:=.box [.lst 1 (rs.map nR),.v .nilIface]
theorem tv(rs:List (List Rt))(a:List Rat):Con prog 56 [.ptr 1000 0,nA a,.v .nilIface] [pP 1000 (bK rs)] (nA a) [pP 1000 (bK rs)]:=by
 refine gF func56 (fun k z h=>bD h) ?_;refine gC (fun y=>?_) (fun y=>?_) (st2:=(77777,0))
 ·refine gR ?_;exact aD.keep (bt rfl)
 cases y
theorem Dp(rs:List (List Rt))(a b:List Rat):Con prog 60 [.ptr 1000 0,aQ a b,.v .nilIface] [pP 1000 (bK rs)] (aQ a b) [pP 1000 (bK rs)]:=by
 refine gF func60 (fun k z h=>bD h) ?_;refine gC (fun q=>?_) (fun q=>?_) (st2:=(77777,0))
 ·refine gR ?_;exact aD.keep (bt rfl)
 cases q
abbrev wb(f:FuncId)(rs:List (List Rt))(a b c:List Rat):Prop:=Con prog f [.ptr 1000 0,nA a,nA b] [pP 1000 (bK rs)] (nA c) [pP 1000 (bK rs)]
section
variable{rs:List (List Rt)}{r u k:Nat}{a b c:List Rat}{x y:Et (llq rs)}{w v w' v':Nat}
theorem YC(hx:FP 155 [.agg [.lst 1 (rs.map nR)],nA a,nA b] (.tup [nA c,.v .nilIface])):Con prog 64 [.ptr 1000 0,nA a,nA b] [pP 1000 (bK rs)] (nA c) [pP 1000 (bK rs)]:=by
 refine gF func64 (fun k z h=>bD h) ?_;refine gc hx ?_;refine gt (aG (tv _ _) (aB rfl rfl rfl) aK rfl rfl) ?_;refine gR ?_;exact aD.keep (bt rfl)
theorem alu(hx:FP 154 [.agg [.lst 1 (rs.map nR)],nA a,nA b] (.tup [nA c,.v .nilIface])):Con prog 63 [.ptr 1000 0,nA a,nA b] [pP 1000 (bK rs)] (nA c) [pP 1000 (bK rs)]:=by
 refine gF func63 (fun k z h=>bD h) ?_;refine gc hx ?_;refine gt (aG (tv _ _) (aB rfl rfl rfl) aK rfl rfl) ?_;refine gR ?_;exact aD.keep (bt rfl)
theorem BE (h : TR rs r) (hc : bp rs = 0) [c0 : Ct (llq rs) u k] [ha : Zl (llq rs) u k a x w v] [hb : Zl (llq rs) u k b y w' v'] (hs : w + v + (w' + v') <= 10000 := by decide) :
  Con prog 64 [.ptr 1000 0,nA a,nA b] [pP 1000 (bK rs)] (nA (sX (x*y))) [pP 1000 (bK rs)]:=by
 have hx:=P9 (ha:=ha) (hb:=hb) hs;rw[tz h hc]at hx;exact YC hx
theorem Sp (h : TR rs r) (hc : bp rs = 0) [c0 : Ct (llq rs) u k] [ha : Zl (llq rs) u k a x w v] [hb : Zl (llq rs) u k b y w' v'] (hs : w + v + (w' + v') <= 10000 := by decide) :
  Con prog 63 [.ptr 1000 0,nA a,nA b] [pP 1000 (bK rs)] (nA (sX (x-y))) [pP 1000 (bK rs)]:=by
 have hx:=OI (ha:=ha) (hb:=hb) hs;rw[tz h hc]at hx;exact alu hx
end
structure DyW(l:Li)(a:As):Prop where
  hl:l.ok
  li:ax l=0
  al:AB a
  hc:bp a.rs=0
structure DyR(l:Li)(a:As):Prop extends DyW l a where
  s:DyS a
theorem DyR.two{l:Li}{a:As}(D:DyR l a):(llq a.rs).length<=2:=D.s.two D.hc
theorem SR{n:Nat}(h3:n<=2):kB 400000000 n<=1200000006:=by
 have h9:=o8 400000000 h3;have h8:eB 400000000 2=1200000006:=by decide
 show eB 400000000 _<=_;omega
abbrev CS(l:Li)(a:As)(i:Int)(j0 j:Jt):List AV :=
  qC (aH l j0 i)++([nA (sX (aN l a j0 i).1),nA (sX (aN l a j0 i).2)]++(qC (pN l i j)++[nA (sh 0 (ep l i j0 j:Rat)),nA (sh 0 (kL l i j:Rat)),nA (sX (fU l a i j0 j)),nA (sX (d6 l a i j0 j).1),nA (sX (d6 l a i j0 j).2)]))
theorem VM{l:Li}{a:As}(D:DyR l a){n:Nat}{i:Int}{j0 j:Jt}(h0:l.jo[n]?=some j0)(p0:PinP 3900000 l a j0 i){m:Nat}(h1:l.jo[m]?=some j)(hb:Pd 3900000 a j.a) :
  Zu 310000 132100 (d6 l a i j0 j).1 80 81/\Zu 310000 132100 (d6 l a i j0 j).2 80 81:=by
 obtain⟨i1,i2,i3,i4,_⟩:=cJ D.li h1;obtain⟨z1,z2⟩:=xB D.hl D.li D.al D.s D.hc h0 p0;obtain⟨y1,y2⟩:=vK D.hl D.li D.al D.s D.hc i1 i3 hb;haveI c:=D.s.ct D.hc;haveI:=z1;haveI:=z2;haveI:=y1;haveI:=y2
 exact⟨(atm:Zu 310000 132100 ((aC l a j.a j.point).1-(aN l a j0 i).1) _ _),(atm:Zu 310000 132100 ((aC l a j.a j.point).2-(aN l a j0 i).2) _ _)⟩
theorem WR{E:Nat}(hE:E<=20000000000){l:Li}{a:As}(D:DyW l a)(h3:(llq a.rs).length<=2){i z0 z1:Int}{j0 j:Jt}(hg:GrOk l ⟨3,[i],[z0,z1],0⟩)
  (h0:l.jo[z0.toNat]?=some j0) (h1:l.jo[z1.toNat]?=some j) (p0:PinP E l a j0 i) (hi:j.b=i) (hk:j.kind≠0) (hb:Pd E a j.a)
  (je:FP 61 [.agg [.lst 1 (a.rs.map nR)],aQ (sX (aC l a j.a j.point).1) (sX (aC l a j.a j.point).2),aQ (sX (aN l a j0 i).1) (sX (aN l a j0 i).2)] (.tup [aQ (sX (d6 l a i j0 j).1) (sX (d6 l a i j0 j).2),.v .nilIface]))
  (uH:FP 65 [.agg [.lst 1 (a.rs.map nR)],aQ (sX (d6 l a i j0 j).1) (sX (d6 l a i j0 j).2),aQ (sX (d6 l a i j0 j).1) (sX (d6 l a i j0 j).2)] (.tup [nA (sX (fU l a i j0 j)),.v .nilIface])) :
  Con prog 66 [.ptr 1000 0,.ptr 1001 0] [pP 1000 (gE l ⟨3,[i],[z0,z1],0⟩ a),pP 1001 (bK a.rs)] (.agg (CS l a i j0 j)) [pP 1000 (gE l ⟨3,[i],[z0,z1],0⟩ a),pP 1001 (bK a.rs)]:=by
 obtain⟨i1,i2,i3,i4,i5⟩:=cJ D.li h1;have gO:Sm 1000 (aH l j0 i):=ki D.hl D.li h0 (by rcases p0.tie with h9 |h9;exact .inl h9.1;exact .inr h9.2.1);subst hi;have fL:=bJ D.hl D.li i2 i4;have xl:=bJ D.hl D.li i2 (i5 hk);have hv:=xl.sub fL;refine gF func66 (fun k z h=>ag7 h) ?_;refine gi (rfl) ?_;refine gt (aX (RL D.hl _ hg a rfl h1) (eJ rfl) rfl rfl rfl) ?_;refine gD ?_;refine gt (aG (BT hE D.hl D.li _ hg D.al D.hc (k:=0) rfl h0 h3 p0) (.cons (.tmp rfl) (.cons (.const _) (eJ rfl))) aK rfl rfl) ?_;refine gt (aX (rE D.hl D.li _ a i2 i4) (aB rfl rfl rfl) rfl rfl rfl) ?_;refine gt (aX (rE D.hl D.li _ a i2 (i5 hk)) (aB rfl rfl rfl) rfl rfl rfl) ?_;refine gc (Fa xl fL oz oz) ?_;refine gD ?_;refine gc (Fa fL gO oz oz) ?_;refine gc (ak8 hv (fL.sub gO) oz oz) ?_;refine gc (sT ((hv.cross (fL.sub gO)).qs oz)) ?_;refine gc (GH hv oz) ?_;refine gD ?_;refine gt (aG (zJ D.hl D.li _ D.al D.hc i1 i3 hE h3 hb) (aB rfl rfl rfl) aK rfl rfl) ?_;refine gC (fun y=>?_) (fun y=>?_) (st2:=(77777,0))
 ·refine gc je ?_;refine gt (aG (Con.rekeyB 1001 rfl rfl rfl rfl (Dp _ _ _)) (aB rfl rfl rfl) aK rfl rfl) ?_;refine gD ?_;refine gc uH ?_;refine gt (aG (Con.rekeyB 1001 rfl rfl rfl rfl (tv _ _)) (aB rfl rfl rfl) aK rfl rfl) ?_;refine gD ?_;refine gR ?_;exact aD.keep (tp rfl rfl)
 cases y
theorem afh{l:Li}{a:As}{i:Int}{j0 j:Jt}{p1 p2 p3:List Rat}(m1:wb 64 a.rs (sh 0 (kL l i j:Rat)) (sX (fU l a i j0 j)) p1)(m2:wb 64 a.rs (sh 0 (ep l i j0 j:Rat)) (sh 0 (ep l i j0 j:Rat)) p2)(m3:wb 63 a.rs p1 p2 p3) :
  Con prog 67 [.agg (CS l a i j0 j),.ptr 1001 0] [pP 1001 (bK a.rs)] (nA p3) [pP 1001 (bK a.rs)]:=by
 refine gF func67 (fun k z h=>by have:=(io h).1;omega) ?_;refine gt (aG (Con.rekeyB 1001 rfl rfl rfl rfl m1) (aB rfl rfl rfl) aK rfl rfl) ?_;refine gt (aG (Con.rekeyB 1001 rfl rfl rfl rfl m2) (aB rfl rfl rfl) aK rfl rfl) ?_;refine gt (aG (Con.rekeyB 1001 rfl rfl rfl rfl m3) (aB rfl rfl rfl) aK rfl rfl) ?_;refine gD ?_;refine gR ?_;exact aD.keep (bt rfl)
theorem afa{l:Li}{a:As}(D:DyR l a){i:Int}{j0 j:Jt}{w v:Nat}[z1:Zl (llq a.rs) 310000 132100 (sh 0 (ep l i j0 j:Rat)) (qE (ep l i j0 j)) 3 0][z2:Zl (llq a.rs) 310000 132100 (sh 0 (kL l i j:Rat)) (qE (kL l i j)) 3 0][z3:Zu 310000 132100 (fU l a i j0 j) w v](hw:w+v<=2000) :
  Con prog 67 [.agg (CS l a i j0 j),.ptr 1001 0] [pP 1001 (bK a.rs)] (nA (sX (qE (kL l i j)*fU l a i j0 j-qE (ep l i j0 j)*qE (ep l i j0 j)))) [pP 1001 (bK a.rs)]:=by
 haveI c:=D.s.ct D.hc;haveI:=z1.zu;haveI:=z2.zu
 exact afh (BE (a:=sh 0 (kL l i j:Rat)) (b:=sX (fU l a i j0 j)) D.s.tr D.hc oz) (BE (a:=sh 0 (ep l i j0 j:Rat)) (b:=sh 0 (ep l i j0 j:Rat)) D.s.tr D.hc oz)
  (Sp (a:=sX (qE (kL l i j)*fU l a i j0 j)) (b:=sX (qE (ep l i j0 j)*qE (ep l i j0 j):Et (llq a.rs))) D.s.tr D.hc oz)
abbrev Ci:Type:=List Rat×List Rat×List Rat
abbrev GA(c:Ci):AV:=.agg [nA c.1,nA c.2.1,nA c.2.2]
structure CiZ(rs:List (List Rt))(c:Ci):Prop where
  x:Nm (llq rs).length 2500000000 c.1
  y:Nm (llq rs).length 2500000000 c.2.1
  r:Nm (llq rs).length 2500000000 c.2.2
  sg:0<=be (dE (llq rs) c.2.2)
theorem aik{ts:LL}(p q:Et ts×Et ts):dotE (q.1-p.1) (q.2-p.2) (q.1-p.1) (q.2-p.2)=dL p q:=by
 unfold dL lG cZ dotE;dsimp only;grind
theorem Y8{ts:LL}(c:Ct ts 310000 132100){x y x2 y2:Et ts}(h1:Zu 310000 132100 x 40 40)(h2:Zu 310000 132100 y 40 40)(h3:Zu 310000 132100 x2 40 40)(h4:Zu 310000 132100 y2 40 40):Zu 310000 132100 (dL (x,y) (x2,y2)) 320 327:=by
 haveI:=c;haveI:=h1;haveI:=h2;haveI:=h3;haveI:=h4
 exact(atm:Zu 310000 132100 (dotE (x-x2) (y-y2) (x-x2) (y-y2)) _ _)
section
variable{rs:List (List Rt)}{r:Nat}{a b c a2 b2 c2:List Rat}
theorem af4(h:TR rs r)(hc:bp rs=0){e:Nat}(ha:Nm (llq rs).length e a)(hb:Nm (llq rs).length e b)(he:e<=lm (llq rs).length):FP 242 [dN rs,aQ a b] (.v .nilIface):=by
 obtain⟨tw,etw⟩:=jn h hc;have Av:=ye tw [(a,b)] (fun p hp=>by rw[aqf.1 hp];exact⟨ha,hb⟩) he (by show 1<=500;omega);rw[<- etw]at Av;refine am func242 ?_;refine gc Av ?_;refine ah ?_;rfl
theorem ajw(h:TR rs r)(hc:bp rs=0){e:Nat}(ha:Nm (llq rs).length e a)(hb:Nm (llq rs).length e b)(hn:Nm (llq rs).length e c)(he:e+1<=lm (llq rs).length):FP 241 [dN rs,.agg [nA a,nA b,nA c]] (.v .nilIface):=by
 obtain⟨tw,etw⟩:=jn h hc;have jk:=FX tw hn oz;rw[<- etw]at jk;refine am func241 ?_;refine gc (af4 h hc ha hb oz) ?_;refine gf ?_;refine gc jk ?_;refine ah ?_;rfl
theorem akz(h:TR rs r)(hc:bp rs=0)(cs:List Ci)(hz:∀c∈cs,CiZ rs c)(hl:cs.length<=100):FP 243 [dN rs,.lst 3 (cs.map GA)] (.v .nilIface):=by
 obtain⟨tw,etw⟩:=jn h hc;have nh:=pE (llq rs).length;refine am func243 ?_;refine gl ?_;refine aP [2,9,10] [2] (fun(i:Nat)=>[pP 11 (i64 i)]) (fun _=>[]) (fun i=>i<=cs.length) (fun i=>cs.length-i) 0 (ase _) ?_;rintro i hi K1 J1;refine gC (fun y=>?_) (fun y=>?_)
 ·have af:=aT y;obtain⟨z,Aw⟩:=aJ af;have uI:=hz z (ar1 Aw);have hs:=Sy tw uI.r oz;rw[<- etw]at hs;refine gi (aw Aw) ?_;refine gc hs ?_;refine gf ?_;refine gC (fun y=>?_) (fun y=>?_) (st1:=(8,0));exact atk y (by have h9:=uI.sg;unfold be dE at h9;simp only[aa,atf];omega);refine ga aL ?_;exact aM J1 (i+1) af
 refine ah ?_;rfl
theorem WT(h:TR rs r)(hc:bp rs=0)(cs:List Ci)(hz:∀c∈cs,CiZ rs c)(hl:cs.length<=100):FP 143 [dN rs,.lst 3 (cs.map GA)] (.v .nilIface):=by
 have nh:=pE (llq rs).length;have jJ:=AH rs r h;rw[hc]at jJ;refine am func143 ?_;refine gc jJ ?_;refine gf ?_;refine gl ?_;refine aP [1,2,14,15] [2] (fun(i:Nat)=>[pP 16 (i64 i)]) (fun _=>[]) (fun i=>i<=cs.length) (fun i=>cs.length-i) 0 (ase _) ?_;rintro i hi K1 J1;refine gC (fun y=>?_) (fun y=>?_)
 ·have af:=aT y;obtain⟨z,Aw⟩:=aJ af;have uI:=hz z (ar1 Aw);refine gi (aw Aw) ?_;refine gc (ajw h hc uI.x uI.y uI.r oz) ?_;refine gf ?_;refine ga aL ?_;exact aM J1 (i+1) af
 refine gc (akz h hc cs hz hl) ?_;refine ah ?_;rfl
theorem ag8(hc:bp rs=0)(h:TR rs r){R e:Nat}(tw:Tw (llq rs) R){x y x2 y2:Et (llq rs)}(n1:Nm (llq rs).length e a)(n2:Nm (llq rs).length e b)(n4:Nm (llq rs).length e a2)(n5:Nm (llq rs).length e b2)(e1:ai (llq rs).length a=x)(e2:ai (llq rs).length b=y)(e4:ai (llq rs).length a2=x2)(e5:ai (llq rs).length b2=y2)(he:8*e+2*kB R (llq rs).length+8<=lm (llq rs).length) :
  FP 251 [dN rs,aQ a b,aQ a2 b2] (.tup [nA (sX (dL (x,y) (x2,y2))),.v .nilIface]):=by
 obtain⟨_,etw⟩:=jn h hc
 have Av:=ye tw [(a,b),(a2,b2)] (e:=e) (fun p hp=>by
  simp only[asj,asf,or_false]at hp;rcases hp with rfl |rfl
  ·exact⟨n1,n2⟩
  ·exact⟨n4,n5⟩) oz (by show 2<=500;omega)
 rw[<- etw]at Av;have bR:=ME tw n4 n5 n1 n2 oz;have m1:=n4.sub n1;have m2:=n5.sub n2;have UC:=Kr tw m1 m2 m1 m2 oz;rw[e1,e2,e4,e5]at bR;rw[e1,e2,e4,e5,di,di]at UC;have mb:=aik (x,y) (x2,y2);refine am func251 ?_;refine gc Av ?_;refine gf ?_ (5,0);refine gW (Wk.of (sl:=[pP 4 (.ptr 4 0),pP 5 (.ptr 5 0),pP 9 (.ptr 21 0)]) (hp:=[pP 4 (.box [nA a,nA b]),pP 5 (.box [nA a2,nA b2]),pP 21 (.box [.lst 1 ((llq rs).map nA),.v .nilIface])]) a6 (.k (.k (.cons rfl (BlkSub.bL (.cons (.of (Gl etw)) (.cons (.refl _) .nil)) rfl) .nil)))) ?_;refine gt (aG (Con.rekeyB 21 rfl rfl rfl rfl bR) (aB rfl rfl rfl) aK rfl rfl) ?_;refine gt (aG (Con.rekeyB 21 rfl rfl rfl rfl UC) (aB rfl rfl rfl) aK rfl rfl) ?_;refine gt (aG (Con.rekeyB 21 rfl rfl rfl rfl (M1 _ _)) (b9 rfl rfl) aK rfl rfl) ?_;refine bu ?_;rw[<- mb];rfl
theorem aed(h:TR rs r)(hc:bp rs=0){x y x2 y2:Et (llq rs)}[c0:Ct (llq rs) 310000 132100][i1:Zl (llq rs) 310000 132100 a x 40 40][i2:Zl (llq rs) 310000 132100 b y 40 40][i4:Zl (llq rs) 310000 132100 a2 x2 40 40][i5:Zl (llq rs) 310000 132100 b2 y2 40 40] :
  FP 251 [dN rs,aQ a b,aQ a2 b2] (.tup [nA (sX (dL (x,y) (x2,y2))),.v .nilIface]):=by
 obtain⟨R,tw,hk⟩:=c0.ex;have kk:=c0.kk hk;have nh:=pE (llq rs).length;exact ag8 hc h tw (e:=40*310000+40*132100) i1.nm i2.nm i4.nm i5.nm i1.eq i2.eq i4.eq i5.eq oz
theorem BJ(rs:List (List Rt))(a:List Rat):Con prog 244 [.ptr 1000 0,nA a,.v .nilIface] [pP 1000 (bK rs)] (nA a) [pP 1000 (bK rs)]:=by
 refine gF func244 (fun k z h=>bD h) ?_;refine gC (fun y=>?_) (fun y=>?_) (st2:=(77777,0))
 ·refine gR ?_;exact aD.keep (bt rfl)
 cases y
abbrev um(f:FuncId)(rs:List (List Rt))(v:AV)(b c:List Rat):Prop:=Con prog f [.ptr 1000 0,v,nA b] [pP 1000 (bK rs)] (nA c) [pP 1000 (bK rs)]
theorem ai6(hx:FP 336 [.agg [.lst 1 (rs.map nR)],nA a,nA b] (.tup [nA c,.v .nilIface])):Con prog 239 [.ptr 1000 0,nA a,nA b] [pP 1000 (bK rs)] (nA c) [pP 1000 (bK rs)]:=by
 refine gF func239 (fun k z h=>bD h) ?_;refine gc hx ?_;refine gt (aG (BJ _ _) (aB rfl rfl rfl) aK rfl rfl) ?_;refine gR ?_;exact aD.keep (bt rfl)
theorem Y4(hx:FP 154 [.agg [.lst 1 (rs.map nR)],nA a,nA b] (.tup [nA c,.v .nilIface])):Con prog 235 [.ptr 1000 0,nA a,nA b] [pP 1000 (bK rs)] (nA c) [pP 1000 (bK rs)]:=by
 refine gF func235 (fun k z h=>bD h) ?_;refine gc hx ?_;refine gt (aG (BJ _ _) (aB rfl rfl rfl) aK rfl rfl) ?_;refine gR ?_;exact aD.keep (bt rfl)
theorem VI(hx:FP 155 [.agg [.lst 1 (rs.map nR)],nA a,nA b] (.tup [nA c,.v .nilIface])):Con prog 245 [.ptr 1000 0,nA a,nA b] [pP 1000 (bK rs)] (nA c) [pP 1000 (bK rs)]:=by
 refine gF func245 (fun k z h=>bD h) ?_;refine gc hx ?_;refine gt (aG (BJ _ _) (aB rfl rfl rfl) aK rfl rfl) ?_;refine gR ?_;exact aD.keep (bt rfl)
theorem aj0(n:Int)(hn:-9223372036854775808<=n/\n<=9223372036854775807)(hm:um 245 rs (nA (sh 0 ((n:Rat):Rat))) a c):Con prog 236 [.ptr 1000 0,i64 n,nA a] [pP 1000 (bK rs)] (nA c) [pP 1000 (bK rs)]:=by
 refine gF func236 (fun k z h=>bD h) ?_;refine gc (kW n hn) ?_;refine gc (sT (zw hn)) ?_;refine gt (aG hm (aB rfl rfl rfl) aK rfl rfl) ?_;refine gR ?_;exact aD.keep (bt rfl)
end
section
variable{rs:List (List Rt)}{r u k:Nat}{a b:List Rat}{x y:Et (llq rs)}{w v w' v':Nat}
theorem ade (h : TR rs r) (hc : bp rs = 0) [c0 : Ct (llq rs) u k] [ha : Zl (llq rs) u k a x w v] [hb : Zl (llq rs) u k b y w' v'] (hs : w + v + (w' + v') <= 10000 := by decide) :
  Con prog 239 [.ptr 1000 0,nA a,nA b] [pP 1000 (bK rs)] (nA (sX (x+y))) [pP 1000 (bK rs)]:=by
 have hx:=afx (ha:=ha) (hb:=hb) hs;rw[tz h hc]at hx;exact ai6 hx
theorem Lb (h : TR rs r) (hc : bp rs = 0) [c0 : Ct (llq rs) u k] [ha : Zl (llq rs) u k a x w v] [hb : Zl (llq rs) u k b y w' v'] (hs : w + v + (w' + v') <= 10000 := by decide) :
  Con prog 235 [.ptr 1000 0,nA a,nA b] [pP 1000 (bK rs)] (nA (sX (x-y))) [pP 1000 (bK rs)]:=by
 have hx:=OI (ha:=ha) (hb:=hb) hs;rw[tz h hc]at hx;exact Y4 hx
theorem Ha (h : TR rs r) (hc : bp rs = 0) [c0 : Ct (llq rs) u k] [ha : Zl (llq rs) u k a x w v] [hb : Zl (llq rs) u k b y w' v'] (hs : w + v + (w' + v') <= 10000 := by decide) :
  Con prog 245 [.ptr 1000 0,nA a,nA b] [pP 1000 (bK rs)] (nA (sX (x*y))) [pP 1000 (bK rs)]:=by
 have hx:=P9 (ha:=ha) (hb:=hb) hs;rw[tz h hc]at hx;exact VI hx
theorem WB (h : TR rs r) (hc : bp rs = 0) [c0 : Ct (llq rs) u k] (n : Int) (hn : -9223372036854775808 <= n /\ n <= 9223372036854775807) [hq : Qz u (n : Rat) w'] [ha : Zl (llq rs) u k a x w v] (hs : w' + 0 + (w + v) <= 10000 := by decide) :
  Con prog 236 [.ptr 1000 0,i64 n,nA a] [pP 1000 (bK rs)] (nA (sX (qE (n:Rat)*x))) [pP 1000 (bK rs)]:=by
 have hm:=Ha (a:=sh 0 ((n:Rat):Rat)) (b:=a) h hc hs;exact aj0 n hn hm
end
section
variable{rs:List (List Rt)}{r:Nat}{a b c a2 b2 c2:List Rat}{x y z x2 y2 z2:Et (llq rs)}
theorem ace{dd s1 s2 p1 p2 p3 p4:List Rat}(hd:FP 251 [dN rs,aQ a b,aQ a2 b2] (.tup [nA dd,.v .nilIface]))(m1:um 239 rs (nA c) dd s1)(m2:um 235 rs (nA s1) c2 s2)
  (m3:um 245 rs (nA c) dd p1) (m4:um 236 rs (i64 4) p1 p2) (m5:um 245 rs (nA s2) s2 p3) (m6:um 235 rs (nA p2) p3 p4) :
  Con prog 144 [.ptr 1000 0,.agg [nA a,nA b,nA c],.agg [nA a2,nA b2,nA c2]] [pP 1000 (bK rs)] (.tup [nA p4,nA dd]) [pP 1000 (bK rs)]:=by
 refine gF func144 (fun k z h=>bD h) ?_;refine gc hd ?_;refine gt (aX (BJ _ _) (aB rfl rfl rfl) rfl rfl rfl) ?_;refine gD ?_;refine gt (aX m1 (aB rfl rfl rfl) rfl rfl rfl) ?_;refine gt (aX m2 (aB rfl rfl rfl) rfl rfl rfl) ?_;refine gD ?_;refine gt (aX m3 (aB rfl rfl rfl) rfl rfl rfl) ?_;refine gt (aX m4 (.cons (.tmp rfl) (.cons (.const _) (eJ rfl))) rfl rfl rfl) ?_;refine gt (aX m5 (aB rfl rfl rfl) rfl rfl rfl) ?_;refine gt (aX m6 (aB rfl rfl rfl) rfl rfl rfl) ?_;refine gR ?_;exact aD.keep (bt rfl)
theorem Xj(h:TR rs r)(hc:bp rs=0)[c0:Ct (llq rs) 310000 132100][i1:Zl (llq rs) 310000 132100 a x 40 40][i2:Zl (llq rs) 310000 132100 b y 40 40][i3:Zl (llq rs) 310000 132100 c z 3 0][i4:Zl (llq rs) 310000 132100 a2 x2 40 40][i5:Zl (llq rs) 310000 132100 b2 y2 40 40][i6:Zl (llq rs) 310000 132100 c2 z2 3 0] :
  Con prog 144 [.ptr 1000 0,.agg [nA a,nA b,nA c],.agg [nA a2,nA b2,nA c2]] [pP 1000 (bK rs)] (.tup [nA (sX (gT (x,y) z (x2,y2) z2)),nA (sX (dL (x,y) (x2,y2)))]) [pP 1000 (bK rs)]:=by
 have hd:=aed (a:=a) (b:=b) (a2:=a2) (b2:=b2) h hc;haveI:=i3.zu;haveI:=i6.zu;haveI zd:=Y8 c0 i1.zu i2.zu i4.zu i5.zu;haveI q4:Qz 310000 ((4:Int):Rat) 1:=Qz.int (c:=Ct.cx (c:=c0)) (by decide);have m1:=ade (a:=c) (b:=sX (dL (x,y) (x2,y2))) h hc (by decide);have m2:=Lb (a:=sX (z+dL (x,y) (x2,y2))) (b:=c2) h hc (by decide);have m3:=Ha (a:=c) (b:=sX (dL (x,y) (x2,y2))) h hc (by decide);have m4:=WB (a:=sX (z*dL (x,y) (x2,y2))) h hc 4 oz (by decide);have m5:=Ha (a:=sX (z+dL (x,y) (x2,y2)-z2)) (b:=sX (z+dL (x,y) (x2,y2)-z2)) h hc (by decide);have m6:=Lb (a:=sX (qE ((4:Int):Rat)*(z*dL (x,y) (x2,y2)))) (b:=sX ((z+dL (x,y) (x2,y2)-z2)*(z+dL (x,y) (x2,y2)-z2))) h hc (by decide);exact ace hd m1 m2 m3 m4 m5 m6
theorem akx{dd p4:List Rat}(jJ:FP 143 [dN rs,.lst 3 ([(a,b,c),(a2,b2,c2)].map GA)] (.v .nilIface))(hr:Con prog 144 [.ptr 1000 0,.agg [nA a,nA b,nA c],.agg [nA a2,nA b2,nA c2]] [pP 1000 (bK rs)] (.tup [nA p4,nA dd]) [pP 1000 (bK rs)]) :
  FP 57 [dN rs,.agg [nA a,nA b,nA c],.agg [nA a2,nA b2,nA c2]] (.tup [nA p4,.v .nilIface]):=by
 refine am func57 ?_;refine gc jJ ?_;refine gf ?_ (5,0);refine gW (Wk.o (sl:=[pP 4 (.ptr 4 0),pP 5 (.ptr 5 0),pP 9 (.ptr 22 0)]) (hp:=[pP 4 (.box [nA a,nA b,nA c]),pP 5 (.box [nA a2,nA b2,nA c2]),pP 22 (bK rs)])) ?_;refine gt (aG (Con.rekeyB 22 rfl rfl rfl rfl hr) (aB rfl rfl rfl) aK rfl rfl) ?_;refine gf ?_;refine gR ?_;exact pO rfl
theorem aew(h:TR rs r)(hc:bp rs=0)[c0:Ct (llq rs) 310000 132100][i1:Zl (llq rs) 310000 132100 a x 40 40][i2:Zl (llq rs) 310000 132100 b y 40 40][i3:Zl (llq rs) 310000 132100 c z 3 0][i4:Zl (llq rs) 310000 132100 a2 x2 40 40][i5:Zl (llq rs) 310000 132100 b2 y2 40 40][i6:Zl (llq rs) 310000 132100 c2 z2 3 0]
  (s1:0<=be z) (s2:0<=be z2):FP 57 [dN rs,.agg [nA a,nA b,nA c],.agg [nA a2,nA b2,nA c2]] (.tup [nA (sX (gT (x,y) z (x2,y2) z2)),.v .nilIface]):=by
 have hz:∀q∈[(a,b,c),(a2,b2,c2)],CiZ rs q:=fun q hq=>by
  simp only[asj,asf,or_false]at hq;rcases hq with rfl |rfl
  ·exact⟨i1.nm.mono oz,i2.nm.mono oz,i3.nm.mono oz,by show 0<=be (dE (llq rs) c);rw[show dE (llq rs) c=z from i3.eq];exact s1⟩
  ·exact⟨i4.nm.mono oz,i5.nm.mono oz,i6.nm.mono oz,by show 0<=be (dE (llq rs) c2);rw[show dE (llq rs) c2=z2 from i6.eq];exact s2⟩
 have jJ:=WT h hc [(a,b,c),(a2,b2,c2)] hz (by show 2<=100;omega);exact akx jJ (Xj h hc)
end
class Cy(ts:LL)(u k:outParam Nat):Prop where
  ex:∃R,Tw ts R/\eB R ts.length<=k
  k1:1<=k
  u3:3<=u
  two:ts.length<=2
instance Cy.cx{ts:LL}{u k:Nat}[c:Cy ts u k]:Cx (aI ts) ts.length u k:=by
  obtain⟨R,tw,h⟩:=c.ex;exact⟨⟨R,OF tw▸tw,h⟩,c.k1,c.u3⟩
theorem Cy.lm{ts:LL}{u k:Nat}(c:Cy ts u k):lm ts.length=200000000000:=by unfold Go.Lw.lm;rw[ate c.two]
def iE{ts:LL}(y:Et ts):Et ts:=T.inv (aI ts) ts.length y
abbrev mg(ts:LL):Blk:=.box [.lst 1 (ts.map nA),.v .nilIface]
theorem LO(ts:LL):bK (ts.map (List.map rt))=mg ts:=by
 have h:=sa ts;unfold dN bA at h;have h1:=AV.agg.inj h
 injection h1 with h2
 show Blk.box [.lst 1 ((ts.map (List.map rt)).map nR),.v .nilIface]=_;rw[h2]
section
variable{ts:LL}{u k:Nat}{a b:List Rat}{x y:Et ts}{w v w' v':Nat}
theorem AQ(ts:LL)(a:List Rat):Con prog 56 [.ptr 1000 0,nA a,.v .nilIface] [pP 1000 (mg ts)] (nA a) [pP 1000 (mg ts)]:=by
 have h:=tv (ts.map (List.map rt)) a;rw[LO]at h;exact h
theorem Qv{q:List Rat}(hd:FP 250 [bA ts,nA a,nA b] (.tup [nA q,.v .nilIface])) :
  Con prog 140 [.ptr 1000 0,nA a,nA b] [pP 1000 (mg ts)] (nA q) [pP 1000 (mg ts)]:=by
 refine gF func140 (fun k z h=>bD h) ?_;refine gc hd ?_;refine gt (aG (AQ _ _) (aB rfl rfl rfl) aK rfl rfl) ?_;refine gR ?_;exact aD.keep (bt rfl)
abbrev adf(ts:LL)(ps:List AV):AV:=.agg [.lst 1 (ts.map nA),.lst 2 ps]
end
theorem pK(ts:LL)(a:List Rat):(cQ ts a).length=ts.length+1:=by simp[cQ]
theorem Sd{ts:LL}{a:List Rat}{j:Nat}(h:j<ts.length):(cQ ts a).getD j []=ts.getD j []:=by
 unfold cQ;rw[ar2,ar2,asq h]
theorem Lo(ts:LL)(a:List Rat):(cQ ts a).getD ts.length []=bY a (2^ts.length):=by
 unfold cQ;rw[ar2,asm (ar8 _),Nat.sub_self];rfl
theorem Ly{ts:LL}{a:List Rat}{j:Nat}(h:j<ts.length):aI (cQ ts a) j=aI ts j:=by
 unfold aI;rw[Sd h]
theorem PL{ts:LL}{a:List Rat}{j:Nat}(h:j<=ts.length)(x:T j):T.sgn (aI (cQ ts a)) j x=T.sgn (aI ts) j x :=
 T.sgn_congr j (fun i hi=>Ly oz) x
theorem RB.ext{r e:Nat}{ts:LL}{a:List Rat}(h:RB r ts)(ha:Cb e a):RB (r+e) (cQ ts a):=by
 obtain⟨D,N,h0,h1,h2,h3⟩:=h;obtain⟨D',N',k1,k2,k3⟩:=ha.wide (n:=2^ts.length);have hN:N<=2^r:=h3;refine⟨D*D',max (N*D') (N'*D),apa h0 k1.1,?_,?_,?_⟩
 ·intro d hd;rcases ar9.1 hd with h9 |h9
  ·exact((h1 d h9).scale k1.1).mono (Nat.le_max_left _ _)
  ·rw[aqf.1 h9,aog D];exact(k1.scale h0).mono (Nat.le_max_right _ _)
 ·rw[as6];exact aoz h2 k2
 ·rw[as6];refine Nat.max_le.2 ⟨aoz h3 k2,?_⟩;rw[aog (2^r)];exact aoz k3 h2
theorem Zt{r e:Nat}{ts:LL}{a:List Rat}(tw:Tw ts r)(h2:ts.length<=2)(ha:Nm ts.length e a)(he:r+e<=5000000000)(hs:0<=T.sgn (aI ts) ts.length (ai ts.length a)):Tw (cQ ts a) (r+e):=by
 refine⟨by rw[pK];omega,?_,?_,tw.rb.ext ha.cb,he⟩
 ·intro j hj;rw[pK]at hj;rcases asb j ts.length with h |h
  ·rw[Sd h];exact tw.len j h
  ·have : j = ts.length := by omega
   subst this;rw[Lo];exact jr ha.nl.le
 ·intro j hj;rw[pK]at hj;rw[PL oz];rcases asb j ts.length with h |h
  ·rw[Ly h];exact tw.pos j h
  ·have : j = ts.length := by omega
   subst this
   have e1:aI (cQ ts a) ts.length=ai ts.length a:=by
    show ai ts.length ((cQ ts a).getD ts.length [])=_;rw[Lo,PA]
   rw[e1];exact hs
theorem Tc{ts:LL}{a l:List Rat}{e:Nat}(h:Nm ts.length e l)(h4:ts.length<=4):Nm (cQ ts a).length e l:=by
 rw[pK];exact⟨by omega,h.nl.mono oz,h.cb⟩
theorem ahq{ts:LL}{a l:List Rat}(h:Nl ts.length l):be (dE (cQ ts a) l)=be (dE ts l):=by
 unfold be dE;rw[pK];show T.sgn (aI (cQ ts a)) (ts.length+1) (ai (ts.length+1) l)=_;rw[CW (aI (cQ ts a)) h.le (Nat.le_succ _),PL (ar8 _)]
theorem XP{ts:LL}{a:List Rat}(h4:ts.length<=4):Nm (cQ ts a).length 1 (se ts.length):=by
 rw[pK];refine⟨by omega,.inr ⟨_,ar8 _,XT _⟩,1,1,⟨by omega,?_⟩,by omega,by omega⟩;intro q hq;unfold se at hq;rcases apo hq with h |h
 ·rw[(List.mem_replicate.1 h).2];exact⟨0,by rw[Rat.zero_mul];rfl,by simp⟩
 ·rw[h];exact⟨1,by rw[Rat.one_mul];rfl,by simp⟩
structure Mt where
  ts:LL
  ps:List (List Rat×List Rat)
abbrev Ee(p:List Rat×List Rat):AV:=aQ p.1 p.2
abbrev Mt.av(m:Mt):AV:=adf m.ts (m.ps.map Ee)
abbrev P2(ts:LL):Type:=Et ts×Et ts
abbrev P2.l{ts:LL}(p:P2 ts):List Rat×List Rat:=(sX p.1,sX p.2)
abbrev jV{ts:LL}(X:Et ts)(x:Et ts):Et (cQ ts (sX X)):=dE (cQ ts (sX X)) (sX x)
section
variable{ts:LL}
def yB(d:Et ts):Et ts:=qE ((2:Int):Rat)*d
def Fi(p q:P2 ts):P2 ts:=(q.1-p.1,q.2-p.2)
def zh(p:P2 ts)(k:Et ts)(v:P2 ts):P2 ts:=(p.1+k*v.1,p.2+k*v.2)
def xJ(p q:P2 ts)(z z2:Et ts):P2 ts:=zh p ((z+dL p q-z2)*iE (yB (dL p q))) (Fi p q)
def PZ(X d:Et ts):Et (cQ ts (sX X)):=dE _ (se ts.length)*iE (jV X (yB d))
def OY(X:Et ts)(f v:P2 ts)(c:Et (cQ ts (sX X))):P2 (cQ ts (sX X)):=zh (jV X f.1,jV X f.2) c (qE ((-1:Int):Rat)*jV X v.2,jV X v.1)
def L0(p:P2 ts)(z z2:Et ts):Mt:=if be (z-z2)≠0 then⟨ts,[]⟩else if 0<be z then⟨[],[]⟩else⟨ts,[(zh p 0 p).l]⟩
def uY(p q:P2 ts)(z z2:Et ts):Mt :=
  if be (dL p q)=0 then L0 p z z2
  else if be (gT p z q z2)<0 then⟨ts,[]⟩
  else if be (gT p z q z2)=0 then⟨ts,[(xJ p q z z2).l]⟩
  else⟨cQ ts (sX (gT p z q z2)),[(OY (gT p z q z2) (xJ p q z z2) (Fi p q) (PZ (gT p z q z2) (dL p q))).l,
    (OY (gT p z q z2) (xJ p q z z2) (Fi p q) (qE ((-1:Int):Rat)*PZ (gT p z q z2) (dL p q))).l]⟩
def L5(z z2:Et ts):Nat:=if be (z-z2)=0/\0<be z then 15 else 0
def B5(p q:P2 ts)(z z2:Et ts):Nat:=if be (dL p q)=0 then L5 z z2 else 0
end
section
variable{ts:LL}{a b c a2 b2 c2:List Rat}{x y z x2 y2 z2:Et ts}
end
section
variable{rs:List (List Rt)}{r:Nat}{a b c a2 b2 c2:List Rat}{x y z x2 y2 z2:Et (llq rs)}
theorem al9{ts:LL}{X x:Et ts}:be (jV X x)=be x:=by
 show be (dE (cQ ts (sX X)) (sX x))=_;rw[ahq (l:=sX x) (iI _ _)];show be (dE ts (sX x))=_;rw[show dE ts (sX x)=x from di _ _]
theorem amc{ts:LL}{r:Nat}(tw:Tw ts r)(d:Et ts):be (yB d)=be d:=by
 have h:=rc (aI ts) ts.length tw.pos
 have h2:sg (aI ts) ts.length (qE ((2:Int):Rat):Et ts)=1:=by
  show T.sgn (aI ts) ts.length (T.ofQ ts.length ((2:Int):Rat))=1;rw[T.sgn_ofQ];rfl
 have h3:=h.mul (qE ((2:Int):Rat)) d;rw[h2,Int.one_mul]at h3;exact h3
end
section
variable{ts:LL}
abbrev sV(p q:P2 ts):Et ts:=lG (cZ q p) (cZ q p)
abbrev Cm(p q c:P2 ts):Et ts:=lG (cZ q p) (cZ c p)
abbrev F3(p q c:P2 ts):Et ts:=rj (cZ q p) (cZ c p)
abbrev fH(p q c:P2 ts)(z:Et ts):Et ts:=sV p q*z-F3 p q c*F3 p q c
def Lc(X:Et ts)(S:Et ts)(k:Et (cQ ts (sX X))):Et (cQ ts (sX X)):=k*iE (jV X S)
def QW(X:Et ts)(p v:P2 ts)(k:Et (cQ ts (sX X))):P2 (cQ ts (sX X)):=zh (jV X p.1,jV X p.2) k (jV X v.1,jV X v.2)
abbrev wg(X:Et ts):Et (cQ ts (sX X)):=dE _ (se ts.length)
def wT(p q c:P2 ts)(z:Et ts):Mt :=
  if be (sV p q)=0 then⟨[],[]⟩else if be (fH p q c z)=-1 then⟨ts,[]⟩else if be (fH p q c z)=0 then⟨ts,[(zh p (Cm p q c*iE (sV p q)) (cZ q p)).l]⟩
  else⟨cQ ts (sX (fH p q c z)),[(QW (fH p q c z) p (cZ q p) (Lc (fH p q c z) (sV p q) (jV (fH p q c z) (Cm p q c)+wg (fH p q c z)))).l,
    (QW (fH p q c z) p (cZ q p) (Lc (fH p q c z) (sV p q) (jV (fH p q c z) (Cm p q c)-wg (fH p q c z)))).l]⟩
def DC(p q:P2 ts):Nat:=if be (sV p q)=0 then 8 else 0
end
section
variable{rs:List (List Rt)}{c:List Rat}{o p q:P2 (llq rs)}{z:Et (llq rs)}
end
def r6(vs:List (Rat×Rat)):Bool:=(ff vs.length fun i=>!decide (dm (vs.getD i (0,0)) (vs.getD i (0,0))=0)).isSome
theorem aat{v:Rat×Rat}(h:r6 [v]=false):dm v v≠0:=by
 intro h0;have h1:ff 1 (fun i=>!decide (dm ([v].getD i (0,0)) ([v].getD i (0,0))=0))=some 0:=lL oz (fun j hj=>by omega) (by show(!decide (dm v v=0))=false;rw[h0];rfl);unfold r6 at h;rw[show[v].length=1 from rfl,h1]at h;cases h
theorem amm{v w:Rat×Rat}(h:r6 [v,w]=false):dm v v≠0/\dm w w≠0:=by
 unfold r6 at h;rw[Option.isSome_eq_false_iff,Option.isNone_iff_eq_none]at h;have h2:=agc h;have h3:=h2 0 (by show 0<2;omega);have h4:=h2 1 (by show 1<2;omega);have h5:(!decide (dm v v=0))=true:=h3;have h6:(!decide (dm w w=0))=true:=h4;simp only[arf,decide_eq_false_iff_not]at h5 h6;exact⟨h5,h6⟩
section
variable{ts:LL}
abbrev Dt(u:Rat×Rat):Et ts:=qE (dm u u)
def gS(u:Rat×Rat)(w:P2 ts):Et ts:=(qE u.1*w.1+qE u.2*w.2)*iE (Dt u)
def gP(u:Rat×Rat)(w:P2 ts):Et ts:=(qE u.1*w.2-qE u.2*w.1)*iE (Dt u)
def sR(u:Rat×Rat)(w:P2 ts)(p:Rat×Rat)(o:P2 ts):Et ts:=o.1-(gS u w*qE p.1-gP u w*qE p.2)
def ug(u:Rat×Rat)(w:P2 ts)(p:Rat×Rat)(o:P2 ts):Et ts:=o.2-(gP u w*qE p.1+gS u w*qE p.2)
def tt(u:Rat×Rat)(w:P2 ts)(p:Rat×Rat)(o:P2 ts):Pq:=⟨sX (gS u w),sX (gP u w),sX (sR u w p o),sX (ug u w p o)⟩
theorem ag5(ts:LL)(a b:List Rat):Con prog 60 [.ptr 1000 0,aQ a b,.v .nilIface] [pP 1000 (mg ts)] (aQ a b) [pP 1000 (mg ts)]:=by
 have h:=Dp (ts.map (List.map rt)) a b;rw[LO]at h;exact h
theorem wh(q:Rat):ai ts.length (sh 0 (q:Rat))=(qE q:Et ts):=nF _ q
theorem ur{e:Nat}{q:Rat}(h5:ts.length<=5)(h:Qb e q):Nm ts.length e (sh 0 (q:Rat)):=Nm.ofQ h5 (Cb.one h)
structure BdP(ts:LL)(u:Rat×Rat)(w:P2 ts)(p:Rat×Rat)(o:P2 ts):Prop where
  dot:FP 65 [bA ts,aQ (sh 0 (u.1:Rat)) (sh 0 (u.2:Rat)),aQ (sX w.1) (sX w.2)] (.tup [nA (sX (qE u.1*w.1+qE u.2*w.2)),.v .nilIface])
  crs:FP 62 [bA ts,aQ (sh 0 (u.1:Rat)) (sh 0 (u.2:Rat)),aQ (sX w.1) (sX w.2)] (.tup [nA (sX (qE u.1*w.2-qE u.2*w.1)),.v .nilIface])
  d1:FP 250 [bA ts,nA (sX (qE u.1*w.1+qE u.2*w.2)),nA (sh 0 (dm u u:Rat))] (.tup [nA (sX (gS u w)),.v .nilIface])
  d2:FP 250 [bA ts,nA (sX (qE u.1*w.2-qE u.2*w.1)),nA (sh 0 (dm u u:Rat))] (.tup [nA (sX (gP u w)),.v .nilIface])
  tn:FP 228 [bA ts,nA (sX (gS u w)),nA (sX (gP u w)),aQ (sh 0 (p.1:Rat)) (sh 0 (p.2:Rat))] (.tup [aQ (sX (gS u w*qE p.1-gP u w*qE p.2)) (sX (gP u w*qE p.1+gS u w*qE p.2)),.v .nilIface])
  s1:FP 154 [bA ts,nA (sX o.1),nA (sX (gS u w*qE p.1-gP u w*qE p.2))] (.tup [nA (sX (sR u w p o)),.v .nilIface])
  s2:FP 154 [bA ts,nA (sX o.2),nA (sX (gP u w*qE p.1+gS u w*qE p.2))] (.tup [nA (sX (ug u w p o)),.v .nilIface])
  ok:Pq.ok ts.length 92000000000 (tt u w p o)
theorem alr{r W A K F:Nat}{u p:Rat×Rat}{w o:P2 ts}(tw:Tw ts r)(h2:ts.length<=2)(hk:kB r ts.length<=K)(hu:Sm 3000 u)(hp:Sm 3000 p)(h0:dm u u≠0)
  (w1:Nm ts.length W (sX w.1)) (w2:Nm ts.length W (sX w.2)) (a1:Nm ts.length A (sX o.1)) (a2:Nm ts.length A (sX o.2)) (hW:3000<=W) (hF:4*W+10*K+A+100000<=F) (hF2:F<=92000000000):BdP ts u w p o:=by
 have hl:lm ts.length=200000000000:=by unfold lm;rw[ate h2]
 have h5:=tw.five;have EW:=ur (ts:=ts) h5 hu.x;have pq:=ur (ts:=ts) h5 hu.y;have sJ:=ur (ts:=ts) h5 hp.x;have lD:=ur (ts:=ts) h5 hp.y;have EX:=ur (ts:=ts) h5 (hu.dot hu);have hkE:eB r ts.length<=K:=hk;have ew:∀x:Et ts,ai ts.length (sX x)=x:=fun x=>di _ _
 have c1:=P5 tw (EW.mono (f:=W) oz) (pq.mono oz) w1 w2 (by rw[hl];omega);have c2:=RJ tw (EW.mono (f:=W) oz) (pq.mono oz) w1 w2 (by rw[hl];omega);have n1:=OJ tw EW pq w1 w2;have n2:=QS tw EW pq w1 w2;rw[wh,wh,ew,ew]at c1 c2 n1 n2
 have hs:T.sgn (aI ts) ts.length (ai ts.length (sh 0 (dm u u:Rat)))≠0:=by
  rw[nF,T.sgn_ofQ];intro h9;exact h0 (yu h9)
 have nb:Nl 0 (sh 0 (dm u u:Rat)):=iI 0 _;have d1:=ON tw n1 EX (ase _) nb hs (by rw[hl];omega) (by simp only[iB];omega);have d2:=ON tw n2 EX (ase _) nb hs (by rw[hl];omega) (by simp only[iB];omega);have m1:=Ph tw n1 EX (ase _) nb hs (by rw[hl];omega) (by simp only[iB];omega);have m2:=Ph tw n2 EX (ase _) nb hs (by rw[hl];omega) (by simp only[iB];omega);have e1:∀x:Et ts,ai ts.length (sh ts.length x)=x:=fun x=>di _ _
 have f1:ai ts.length (sh ts.length (wd ts (qE u.1:Et ts) (qE u.2:Et ts) w.1 w.2))=(qE u.1*w.1+qE u.2*w.2:Et ts):=di _ _;have f2:ai ts.length (sh ts.length (vq ts (qE u.1:Et ts) (qE u.2:Et ts) w.1 w.2))=(qE u.1*w.2-qE u.2*w.1:Et ts):=di _ _;rw[f1,wh]at d1 m1;rw[f2,wh]at d2 m2;have k1:Nm ts.length (2*W+3*K+30000) (sX (gS u w)):=Nm.mono m1 (by simp only[iB];omega);have k2:Nm ts.length (2*W+3*K+30000) (sX (gP u w)):=Nm.mono m2 (by simp only[iB];omega);have c3:=NO tw k1 k2 (sJ.mono (f:=(2*W+3*K+30000)) oz) (lD.mono oz) (by rw[hl];omega);have n3:=FA tw k1 k2 sJ lD;have n4:=IS tw k1 k2 sJ lD;rw[wh,wh,ew,ew]at c3 n3 n4;have s1:=CJ tw a1 n3 (by rw[hl];omega);have s2:=CJ tw a2 n4 (by rw[hl];omega);have m3:=a1.sub n3;have m4:=a2.sub n4;have f3:ai ts.length (sh ts.length (yR ts (gS u w) (gP u w) (qE p.1:Et ts) (qE p.2:Et ts)))=(gS u w*qE p.1-gP u w*qE p.2:Et ts):=di _ _;have f4:ai ts.length (sh ts.length (zp ts (gS u w) (gP u w) (qE p.1:Et ts) (qE p.2:Et ts)))=(gP u w*qE p.1+gS u w*qE p.2:Et ts):=di _ _;rw[ew,f3]at s1 m3;rw[ew,f4]at s2 m4;exact⟨c1,c2,d1,d2,c3,s1,s2,k1.mono oz,k2.mono oz,Nm.mono m3 oz,Nm.mono m4 oz⟩
theorem Tr{a b c:List Rat}(h:FP 154 [bA ts,nA a,nA b] (.tup [nA c,.v .nilIface])):Con prog 63 [.ptr 1000 0,nA a,nA b] [pP 1000 (mg ts)] (nA c) [pP 1000 (mg ts)]:=by
 refine gF func63 (fun k z h=>bD h) ?_;refine gc h ?_;refine gt (aG (AQ _ _) (aB rfl rfl rfl) aK rfl rfl) ?_;refine gR ?_;exact aD.keep (bt rfl)
theorem ajc{u p:Rat×Rat}{w o:P2 ts}(hu:Sm 3000 u)(hp:Sm 3000 p)(B:BdP ts u w p o) :
  Con prog 129 [.ptr 1000 0,qP u,Ee w.l,qP p,Ee o.l] [pP 1000 (mg ts)] (tt u w p o).av [pP 1000 (mg ts)]:=by
 refine gF func129 (fun k z h=>bD h) ?_;refine gc (C8 (hu.x.qs oz) (hu.y.qs oz)) ?_;refine gc (GH hu oz) ?_;refine gD ?_;refine gc B.dot ?_;refine gt (aX (AQ _ _) (aB rfl rfl rfl) rfl rfl rfl) ?_;refine gt (aX (Qv B.d1) (aB rfl rfl rfl) rfl rfl rfl) ?_;refine gc B.crs ?_;refine gt (aX (AQ _ _) (aB rfl rfl rfl) rfl rfl rfl) ?_;refine gt (aX (Qv B.d2) (aB rfl rfl rfl) rfl rfl rfl) ?_;refine gD ?_;refine gc (C8 (hp.x.qs oz) (hp.y.qs oz)) ?_;refine gc B.tn ?_;refine gt (aX (ag5 _ _ _) (aB rfl rfl rfl) rfl rfl rfl) ?_;refine gD ?_;refine gt (aX (Tr B.s1) (aB rfl rfl rfl) rfl rfl rfl) ?_;refine gt (aX (Tr B.s2) (aB rfl rfl rfl) rfl rfl rfl) ?_;refine gD ?_;refine gR ?_;exact aD.keep (bt rfl)
end
structure Sv where
  ts:LL
  ps:List Pq
  mode:Int
abbrev Sv.av(s:Sv):AV:=.agg [.lst 1 (s.ts.map nA),.lst 4 (s.ps.map Pq.av),i64 s.mode]
structure Hd where
  p:Rat×Rat
  a:List Rat×List Rat
  c:Rat×Rat
abbrev Hd.av(h:Hd):AV:=.agg [bl (rt h.p.1).neg,ws (rt h.p.1).num,ws (rt h.p.1).den,bl (rt h.p.2).neg,ws (rt h.p.2).num,ws (rt h.p.2).den,nA h.a.1,nA h.a.2,bl (rt h.c.1).neg,ws (rt h.c.1).num,ws (rt h.c.1).den,bl (rt h.c.2).neg,ws (rt h.c.2).num,ws (rt h.c.2).den]
def DT(ts:LL)(h:Hd)(x:List Rat×List Rat):P2 ts:=(dE ts x.1-dE ts h.a.1,dE ts x.2-dE ts h.a.2)
def D6(ts:LL)(h:Hd):P2 ts:=(dE ts h.a.1,dE ts h.a.2)
def hdQ(ts:LL)(x:List Rat×List Rat)(h:Hd):Pq:=tt (a7 h.c h.p) (DT ts h x) h.p (D6 ts h)
def Qa(m:Mt)(hs:List Hd)(i:Nat):Sv:=⟨m.ts,hs.map (hdQ m.ts (m.ps.getD i ([],[]))),if m.ps.length=1 then 0 else 1-2*(i:Int)⟩
variable{P:atq}{N:Nat}{R:Array Oper}{s:AS}{pos:String}{after:Array Edge}
def vk:ato->Nat
  | .int .i64 _=>1
  | .string _=>2
  |_=>0
def IY(P:atq)(t:atp):Bool:=match P.underlying t with |some .string=>true |_=>false
theorem aiu{t:atp}(h:IY P t=true):P.underlying t=some .string:=by
 unfold IY at h;split at h
 ·assumption
 ·cases h
def HQ (P : atq) (ks : List Nat) (f : Field) : Bool := f.name != "_" && (match ks[f.offset]? with | some 1 => xr P f.type | some 2 => IY P f.type | _ => false)
def Br(P:atq)(T:atp)(ks:List Nat):Bool:=match P.underlying T with
  |some (.struct fs)=>fs.toList.all (HQ P ks)&&!P.stoodInHeld T&&!P.eqGuardType P.depth T
  |_=>false
theorem S1{cs:List ato}{ks:List Nat}(hk:cs.map vk=ks)(w:atr):∀{fs:List Field},fs.all (HQ P ks)=true->(Op.eqFields 9999 cs.toArray cs.toArray fs).run P w=.ok true w
 |[],_=>rfl
 |f::fs,h=>by
  rw [List.all_cons,ar5] at h;obtain ⟨h1,h2⟩:=h;have ih:=S1 hk w h2;unfold HQ at h1;rw [ar5] at h1;obtain ⟨hn,h1⟩:=h1;have n1 : f.name ≠ "_" := by simpa using hn
  have hc:∀k,ks[f.offset]?=some k->∃v,cs[f.offset]?=some v/\vk v=k:=by
   intro k cg;rw[<- hk,asa,ar6]at cg;exact cg
  split at h1
  ·rename_i e;obtain ⟨v,hv,qT⟩:=hc 1 e;have hu:=Ia h1;have e0:cs.toArray[f.offset]? = some v:=by simpa using hv
   have e1:(part f.type cs.toArray f.offset).run P w=.ok v w:=by simp[part,isAgg,run_underlying hu,e0]
   have:∃n,v=.int .i64 n:=by unfold vk at qT;split at qT;exact⟨_,rfl⟩;cases qT;cases qT
   obtain⟨n,rfl⟩:=this;have e3:(Op.equalIn 9999 f.type (.int .i64 n) (.int .i64 n)).run P w=.ok (n==n) w:=run_equalIn_int w 9998 f.type .i64 .i64 n n hu;simp only[Op.eqFields,n1,ne_eq,not_false_eq_true,if_true,att,e1,e3,ats,Sem.run_ite,beq_self_eq_true,aq7,aq9,if_false,ih]
  ·rename_i e;obtain ⟨v,hv,qT⟩:=hc 2 e;have hu:=aiu h1;have e0:cs.toArray[f.offset]? = some v:=by simpa using hv
   have e1:(part f.type cs.toArray f.offset).run P w=.ok v w:=by simp[part,isAgg,run_underlying hu,e0]
   have:∃n,v=.string n:=by unfold vk at qT;split at qT;cases qT;exact⟨_,rfl⟩;cases qT
   obtain⟨n,rfl⟩:=this;have e3:(Op.equalIn 9999 f.type (.string n) (.string n)).run P w=.ok (n.toList==n.toList) w:=run_equalIn_string w 9998 f.type n n hu;simp only[Op.eqFields,n1,ne_eq,not_false_eq_true,if_true,att,e1,e3,ats,Sem.run_ite,beq_self_eq_true,aq7,aq9,if_false,ih]
  ·cases h1
theorem ag6{T:atp}{cs:List ato}{ks:List Nat}(hk:cs.map vk=ks)(h:Br P T ks=true)(w:atr) :
  (Op.equalIn 10000 T (.agg cs.toArray) (.agg cs.toArray)).run P w=.ok true w/\P.eqGuardType P.depth T=false:=by
 unfold Br at h;split at h
 ·rename_i fs hu;rw [ar5,ar5] at h;obtain ⟨⟨h,h1⟩,h2⟩:=h;have hF:P.fieldsOf T = fs:=by unfold Program.fieldsOf; rw [hu]
  have hs:P.stoodInHeld T=false:=by simpa using h1
  refine⟨?_,by simpa using h2⟩;rw[run_equalIn_struct w 9999 T _ _ (by rw[hF];exact hu) hs,hF];exact S1 hk w h
 ·cases h
theorem Rf{g:Nat->Array ato->Prop}{S:Nat->Nat->Prop}{m:Nat->Option Nat}{u:ato}{cs:List ato}(h:Rep g S m u (.agg (cs.map .v))):u=.agg cs.toArray:=by
 cases h with
 | @agg _ vs _ hn h1 aV =>
  rw[ar3]at hn;congr 1;refine Array.ext (by simpa using hn) (fun i hi Ax=>?_);have Ke:i<cs.length:=by simpa using Ax
  have r:=aV i vs[i] (.v cs[i]) (by simp[hi]) (by simp[Ke]);have r2:∀{y z:ato},Rep g S m y (.v z)->y=z:=fun h=>by cases h;rfl
  rw[r2 r];simp
theorem aa1{d:Nat}{x y:atn}{cs:List ato}{ks:List Nat}{S T t:atp}(hx:Ev s x (.agg (cs.map .v)))(hy:Ev s y (.agg (cs.map .v)))
  (hk:cs.map vk=ks) (hS:Br P S ks=true) (hN:aob d N=true) :
  Step P N R s ⟨some d,.binOp .neq S x y T,t,pos,after,none⟩ ⟨some (.v (.bool false)),[],aj x++aj y,[]⟩ :=
 dw rfl rfl hN fun s' ao C m ac w hr=>⟨.bool false,by
  have h:=Rf ((hx.agree ao (fun _ h=>ar9.2 (.inl h))).rep hr);have h':=Rf ((hy.agree ao (fun _ h=>ar9.2 (.inr h))).rep hr);obtain⟨r1,r2⟩:=ag6 (T:=S) hk hS w;simp only[execOp,h,h',att,run_eqGuard_agg w .neq S x y _ _ r2,ats,run_neq_struct,r1,atu,aq7],.v _⟩
def N3(P:atq)(T:atp)(f o:Nat):Bool:=match P.underlying T with
  |some (.struct fs)=>(match fs[f]? with
    |some fl=>ao6 fl.offset o&&(match P.underlying fl.type with
      |some (.struct _)=>false
      |some (.array _ _)=>false
      |some _=>true
      |none=>false)
    |none=>false)
  |_=>false
theorem alg{d f o:Nat}{x:atn}{cs:List AV}{c:AV}{T t:atp}(hx:Ev s x (.agg cs))(hc:cs[o]?=some c)(hF:N3 P T f o=true)(hN:aob d N=true) :
  Step P N R s ⟨some d,.field T x f,t,pos,after,none⟩ ⟨some c,[],aj x,[]⟩ :=
 dw rfl rfl hN fun s' ao C m a w hr=>by
  have h:=(hx.agree ao (fun _ h=>h)).rep hr;generalize hu:a.eval x=y at h;cases h with
  | @agg _ vs _ hn h1 aV =>
   have ho:=(ap9.1 hc).1;have hv:vs[o]?=some vs[o]:=by simp[hn,ho]
   refine⟨vs[o],?_,aV o _ c hv hc⟩;unfold N3 at hF;split at hF
   ·rename_i fs pq;split at hF
    ·rename_i fl Ae;rw[ar5]at hF;obtain⟨h2,h3⟩:=hF;have h2:=ar4 h2
     have h4:∃u,P.underlying fl.type=some u/\(∀g,u≠.struct g)/\(∀n e,u≠.array n e):=by
      split at h3
      ·cases h3
      ·cases h3
      ·rename_i u n1 n2 e;exact⟨_,e,fun g h=>n1 g h,fun n e2 h=>n2 n e2 h⟩
      ·cases h3
     obtain⟨u,e1,e2,e3⟩:=h4;subst h2;simp[execOp,hu,Instr.field,run_underlying pq,Ae,part,isAgg,run_underlying e1,asAgg,hv]
    ·cases hF
   ·cases hF
end Go.Lw
namespace Go.Lw
theorem Con.rekeyB1{P:atq}{f:FuncId}{k off:Nat}{x x':Blk}{y0:AV}{xs:List AV}{r:AV}(d:Nat)(hx:x.nm=[])(hx':x'.nm=[])(JR:y0.nm=[])(ji:(xs.all fun x=>x.nm.isEmpty)=true)(hr:r.nm=[])
  (h:Con P f (y0 :: .ptr k off::xs) [(k,some x)] r [(k,some x')]):Con P f (y0 :: .ptr d off::xs) [(d,some x)] r [(d,some x')]:=by
 refine⟨h.ok,?_⟩;intro ext m w vs hext ch cV db
 have h1 := h.ret ext (fun _ => m d) w vs hext (DU (k := d) hx rfl ch) (by simpa using cV) (by
  intro j v y hv hy;rw[me (d:=k) (k:=d) (y:=x) (x:=x) (m2:=fun _=>m d) (m:=m) rfl]
  match j,hy with
  |0,hy =>
   cases hy;exact kN JR (db 0 v _ hv rfl)
  |1,hy =>
   cases hy;have h2:=db 1 v _ hv rfl;cases h2 with
   |ptr hm=>exact .ptr hm
  |j+2,hy =>
   have h2:=db (j+2) v y hv hy;refine kN ?_ h2;have:=asd.1 ji y (ar1 hy);simpa using this)
 refine Calls.mono h1 ?_;rintro e w' ⟨v,m',rfl,hf,hh,hn,hk,aV⟩
 have ho:aW [(k,some x)] (fun _=>m d)=aW [(d,some x)] m:=by
  funext b;apply propext;rw[mJ,mJ]
 refine⟨v,fun _=>m' k,rfl,ho▸hf,DU (k:=k) hx' rfl hh,?_,?_,?_⟩
 ·intro k' x b hx hb;rw[<- ho];exact hn k _ b (by rw[aE,ate rfl]) hb
 ·intro k' x y hx hy;obtain⟨rfl,_⟩:=io hx;exact hk k _ _ (by rw[aE,ate rfl]) (by rw[aE,ate rfl])
 ·rw[me (d:=d) (k:=k) (y:=x') (x:=x') (m2:=fun _=>m' k) (m:=m') rfl];exact kN hr aV
open Go.Proofs
def u7(l:Li)(a:As)(g:Gr):List Rat:=if g.kind=0 then sh 0 ((1:Int):Rat)else sX (jS l a g)
theorem Hg{p q:Rat×Rat}(hp:Sm 1000 p)(hq:Sm 1000 q):Qz 310000 (da p q) 3:=G0 (aj4 hp hq) oz
theorem VX{l:Li}{k:Int}{a:As}{E:Nat}(cS:FP 49 [l.av,i64 k,a.av,bl false] (.tup [.v (.pointer none),bQ E]))(h0:E≠0)(L:List Rat) :
  FP 21 [l.av,i64 k,a.av] (.tup [nA (if E=0 then L else[]),bQ E]):=by
 refine am func21 ?_;refine gc (cS) ?_;refine gC (fun y=>?_) (fun y=>?_) (st2:=(77777,0))
 ·refine gR ?_;exact ft (by rw[atd h0];exact Sub.tup (.cons (.nil _ _ _) (.cons (.refl _) .nil)))
 exact atk (gV y) h0
structure PrF(a:As)(p q o:Et (llq a.rs)×Et (llq a.rs))(z:Rat):Prop where
  s1:FP 61 [.agg [.lst 1 (a.rs.map nR)],aQ (sX q.1) (sX q.2),aQ (sX p.1) (sX p.2)] (.tup [aQ (sX (q.1-p.1)) (sX (q.2-p.2)),.v .nilIface])
  s2:FP 61 [.agg [.lst 1 (a.rs.map nR)],aQ (sX o.1) (sX o.2),aQ (sX p.1) (sX p.2)] (.tup [aQ (sX (o.1-p.1)) (sX (o.2-p.2)),.v .nilIface])
  s3:FP 62 [.agg [.lst 1 (a.rs.map nR)],aQ (sX (q.1-p.1)) (sX (q.2-p.2)),aQ (sX (o.1-p.1)) (sX (o.2-p.2))] (.tup [nA (sX (crsE (q.1-p.1) (q.2-p.2) (o.1-p.1) (o.2-p.2))),.v .nilIface])
  s4:FP 65 [.agg [.lst 1 (a.rs.map nR)],aQ (sX (q.1-p.1)) (sX (q.2-p.2)),aQ (sX (q.1-p.1)) (sX (q.2-p.2))] (.tup [nA (sX (dotE (q.1-p.1) (q.2-p.2) (q.1-p.1) (q.2-p.2))),.v .nilIface])
  m1:wb 64 a.rs (sX (dotE (q.1-p.1) (q.2-p.2) (q.1-p.1) (q.2-p.2))) (sh 0 (z:Rat)) (sX (dotE (q.1-p.1) (q.2-p.2) (q.1-p.1) (q.2-p.2)*qE z))
  m2:wb 64 a.rs (sX (crsE (q.1-p.1) (q.2-p.2) (o.1-p.1) (o.2-p.2))) (sX (crsE (q.1-p.1) (q.2-p.2) (o.1-p.1) (o.2-p.2))) (sX (crsE (q.1-p.1) (q.2-p.2) (o.1-p.1) (o.2-p.2)*crsE (q.1-p.1) (q.2-p.2) (o.1-p.1) (o.2-p.2)))
  m3:wb 63 a.rs (sX (dotE (q.1-p.1) (q.2-p.2) (q.1-p.1) (q.2-p.2)*qE z)) (sX (crsE (q.1-p.1) (q.2-p.2) (o.1-p.1) (o.2-p.2)*crsE (q.1-p.1) (q.2-p.2) (o.1-p.1) (o.2-p.2))) (sX (dotE (q.1-p.1) (q.2-p.2) (q.1-p.1) (q.2-p.2)*qE z-crsE (q.1-p.1) (q.2-p.2) (o.1-p.1) (o.2-p.2)*crsE (q.1-p.1) (q.2-p.2) (o.1-p.1) (o.2-p.2)))
abbrev RrF(l:Li)(a:As)(i k2:Int)(j0 j1 j2:Jt):Prop:=FP 57 [dN a.rs,.agg [nA (sX (aN l a j0 i).1),nA (sX (aN l a j0 i).2),nA (sh 0 (da (aH l j2 i) (aH l j0 i):Rat))],.agg [nA (sX (aN l a j1 k2).1),nA (sX (aN l a j1 k2).2),nA (sh 0 (da (aH l j2 k2) (aH l j1 k2):Rat))]]
    (.tup [nA (sX (gT ((aN l a j0 i).1,(aN l a j0 i).2) (qE (da (aH l j2 i) (aH l j0 i))) ((aN l a j1 k2).1,(aN l a j1 k2).2) (qE (da (aH l j2 k2) (aH l j1 k2))))),.v .nilIface])
structure RqF(l:Li)(a:As)(i:Int)(j0 j:Jt):Prop where
  je:FP 61 [.agg [.lst 1 (a.rs.map nR)],aQ (sX (aC l a j.a j.point).1) (sX (aC l a j.a j.point).2),aQ (sX (aN l a j0 i).1) (sX (aN l a j0 i).2)] (.tup [aQ (sX (d6 l a i j0 j).1) (sX (d6 l a i j0 j).2),.v .nilIface])
  uH:FP 65 [.agg [.lst 1 (a.rs.map nR)],aQ (sX (d6 l a i j0 j).1) (sX (d6 l a i j0 j).2),aQ (sX (d6 l a i j0 j).1) (sX (d6 l a i j0 j).2)] (.tup [nA (sX (fU l a i j0 j)),.v .nilIface])
  aV:Con prog 67 [.agg (CS l a i j0 j),.ptr 1001 0] [pP 1001 (bK a.rs)] (nA (sX (qE (kL l i j)*fU l a i j0 j-qE (ep l i j0 j)*qE (ep l i j0 j)))) [pP 1001 (bK a.rs)]
theorem aci{l:Li}{k:Int}{a:As}{n:Nat}{g:Gr}(cS:Con prog 49 [l.av,i64 k,a.av,bl false] [] (.tup [.ptr 900 0,.v .nilIface]) [pP 900 (gE l g a)])(D:DyW l a)(h3:(llq a.rs).length<=2)(dM:GrOk l g)(ok:g.kind≠0->DyOk 3900000 l k a false n g)
  (f1:∀{i k2 z0 z1 z2 j0 j1 j2},RrrP 3900000 l a g i k2 z0 z1 z2 j0 j1 j2->RrF l a i k2 j0 j1 j2)
  (f2:∀{i z0 z1 j0 j},SlP 3900000 l a g 2 i z0 z1 j0 j->j.a=i->Pd 3900000 a j.b->PrF a (aC l a j.b j.on) (aC l a j.b j.to) (aN l a j0 i) (da (az l i j.point) (aH l j0 i)))
  (f3:∀{i z0 z1 j0 j},SlP 3900000 l a g 3 i z0 z1 j0 j->j.b=i->Pd 3900000 a j.a->RqF l a i j0 j) :
  FP 21 [l.av,i64 k,a.av] (.tup [nA (u7 l a g),.v .nilIface]):=by
 have qJ:=D.al.bl;refine am func21 ?_;refine gt (aG cS (.cons (.tmp rfl) (.cons (.tmp rfl) (.cons (.tmp rfl) (.cons (.const _) .nil)))) aK rfl rfl) ?_ (2,0);refine gW (Wk.o (sl:=[pP 5 (.ptr 5 0),pP 8 (.ptr 900 0),pP 9 (.v .nilIface)]) (hp:=[pP 5 (.box a.av.cells),pP 900 (gE l g a)])) ?_;refine gf ?_ (5,0);refine gW (Wk.o (sl:=[pP 5 (.ptr 5 0),pP 8 (.ptr 900 0),pP 10 (.ptr 32 0)]) (hp:=[pP 5 (.box a.av.cells),pP 900 (gE l g a),pP 32 (bK a.rs)])) ?_ (8,0);refine v7 [10] [32] [pP 11 (nA (sX (jS l a g)))] [] (g.kind≠0) ?_ ?_ 2
 ·intro K1 J1;refine gC (fun y=>?_) (fun y=>?_)
  ·have hk:g.kind=0:=dJ y;have hd:u7 l a g=sh 0 ((1:Int):Rat):=ate hk;rw[hd];refine gc (akw) ?_;refine gR ?_;exact pO rfl
  have lB:g.kind≠0:=du y;refine gC (fun y=>?_) (fun y=>?_)
  ·have hk:g.kind=1:=dJ y;obtain⟨i,k2,z0,z1,z2,j0,j1,j2,P⟩:=(ok lB).rrr hk;have hE:=aa3 P;have hr:=f1 P;obtain rfl:=P.eq;have kD:=ki D.hl D.li P.h0 (by rcases P.p0.tie with h9 |h9;exact .inl h9.1;exact .inr h9.2.1);have lE:=ki D.hl D.li P.h1 (by rcases P.p1.tie with h9 |h9;exact .inl h9.1;exact .inr h9.2.1);have lC:=ki D.hl D.li P.h2 P.t1;have xm:=ki D.hl D.li P.h2 P.t2;rw[vX,vX]at hE;refine gt (aG (Con.rekeyB 900 rfl rfl rfl rfl (ah4 D.hl D.li D.al D.hc h3 dM P.h0 P.h1 P.h2 P.p0 P.p1 P.t1 P.t2)) (eJ rfl) aK rfl rfl) ?_;refine gc (IN kD lC _) ?_;refine gc (IN lE xm _) ?_;refine gc hr ?_;refine gt (aX (Con.rekeyB 32 rfl rfl rfl rfl (tv _ _)) (aB rfl rfl rfl) rfl rfl rfl) ?_;refine gD ?_;exact k8 J1 lB (hw:=Wk.of (.cons rfl (.of (atl (fun z=>nA (sX z)) hE.symm)) (.k .nil)) (.k .nil))
  have iA:g.kind≠1:=du y;refine gC (fun y=>?_) (fun y=>?_)
  ·have hk:g.kind = 2:=dJ y;obtain ⟨i,z0,z1,j0,j,P,ha,hb⟩:=(ok lB).pr hk;have hE:=Z5 P;obtain ⟨s1,s2,s3,s4,m1,m2,m3⟩:=f2 P ha hb;obtain rfl:=P.eq;obtain ⟨i1,i2,i3,i4,i5⟩:=cJ D.li P.h1;have hq:Sm 1000 (az l i j.point):=by rw [<- ha]; exact bJ D.hl D.li i1 i3
   have kD:=ki D.hl D.li P.h0 (by rcases P.p0.tie with h9 |h9;exact .inl h9.1;exact .inr h9.2.1);rw[vX]at hE;refine gt (aG (Con.rekeyB 900 rfl rfl rfl rfl (U8 D.hl D.li D.al D.hc h3 dM P.h0 P.h1 P.p0 ha P.hk hb)) (eJ rfl) aK rfl rfl) ?_;refine gc s1 ?_;refine gt (aX (Con.rekeyB 32 rfl rfl rfl rfl (Dp _ _ _)) (aB rfl rfl rfl) rfl rfl rfl) ?_;refine gD ?_;refine gc s2 ?_;refine gt (aX (Con.rekeyB 32 rfl rfl rfl rfl (Dp _ _ _)) (aB rfl rfl rfl) rfl rfl rfl) ?_;refine gc s3 ?_;refine gt (aX (Con.rekeyB 32 rfl rfl rfl rfl (tv _ _)) (aB rfl rfl rfl) rfl rfl rfl) ?_;refine gD ?_;refine gc s4 ?_;refine gt (aX (Con.rekeyB 32 rfl rfl rfl rfl (tv _ _)) (aB rfl rfl rfl) rfl rfl rfl) ?_;refine gc (IN kD hq _) ?_;refine gs (alg (o:=2) (.tmp rfl) rfl (by kernel_rfl) rfl) ?_;refine gt (aX (Con.rekeyB 32 rfl rfl rfl rfl m1) (aB rfl rfl rfl) rfl rfl rfl) ?_;refine gt (aX (Con.rekeyB 32 rfl rfl rfl rfl m2) (aB rfl rfl rfl) rfl rfl rfl) ?_;refine gt (aX (Con.rekeyB 32 rfl rfl rfl rfl m3) (aB rfl rfl rfl) rfl rfl rfl) ?_;refine gD ?_;exact k8 J1 lB (hw:=Wk.of (.cons rfl (.of (atl (fun z=>nA (sX z)) hE.symm)) (.k .nil)) (.k .nil))
  have cg:g.kind≠2:=du y;obtain⟨i,z0,z1,j0,j,P,ha,hj,hb⟩:=(ok lB).rp lB iA cg;obtain⟨e0,e1,b0,_⟩:=P.at;have hE:jS l a g=qE (kL l i j)*fU l a i j0 j-qE (ep l i j0 j)*qE (ep l i j0 j):=by unfold jS;rw[atd lB,atd iA,atd cg,e0,e1,b0]
  obtain⟨je,uH,aV⟩:=f3 P hj hb;obtain rfl:=P.eq;refine gt (aG (Con.rekeyBB 900 32 (by decide) (by decide) rfl rfl rfl rfl rfl rfl (WR oz D h3 dM P.h0 P.h1 P.p0 hj P.hk hb je uH)) (b9 rfl rfl) aK rfl rfl) ?_;refine gt (aG (Con.rekeyB1 32 rfl rfl rfl rfl rfl aV) (b9 rfl rfl) aK rfl rfl) ?_;exact k8 J1 lB (hw:=Wk.of (.cons rfl (.of (atl (fun z=>nA (sX z)) hE.symm)) (.k .nil)) (.k .nil))
 rintro sM;rw[show u7 l a g=sX (jS l a g)from atd sM];refine gf ?_;refine gR ?_;exact pO rfl
theorem abq{l:Li}{k:Int}{a:As}{n:Nat}{g:Gr}(cS:Con prog 49 [l.av,i64 k,a.av,bl false] [] (.tup [.ptr 900 0,.v .nilIface]) [pP 900 (gE l g a)])(D:DyR l a)(ok:DyOk 3900000 l k a false n g) :
  FP 21 [l.av,i64 k,a.av] (.tup [nA (u7 l a g),.v .nilIface]):=by
 haveI c:=D.s.ct D.hc;refine aci cS D.toDyW D.two ok.ok (fun _=>ok) ?_ ?_ ?_
 ·intro i k2 z0 z1 z2 j0 j1 j2 P;have kD:=ki D.hl D.li P.h0 (by rcases P.p0.tie with h9 | h9; exact .inl h9.1; exact .inr h9.2.1);have lE:=ki D.hl D.li P.h1 (by rcases P.p1.tie with h9 | h9; exact .inl h9.1; exact .inr h9.2.1);have lC:=ki D.hl D.li P.h2 P.t1;have xm:=ki D.hl D.li P.h2 P.t2;obtain ⟨y1,y2⟩:=xB D.hl D.li D.al D.s D.hc P.h0 P.p0;obtain ⟨y3,y4⟩:=xB D.hl D.li D.al D.s D.hc P.h1 P.p1;haveI:=y1; haveI:=y2; haveI:=y3; haveI:=y4
  haveI:=Hg lC kD;haveI:=Hg xm lE;exact aew (a:=sX (aN l a j0 i).1) (b:=sX (aN l a j0 i).2) (c:=sh 0 (da (aH l j2 i) (aH l j0 i):Rat)) (a2:=sX (aN l a j1 k2).1) (b2:=sX (aN l a j1 k2).2) (c2:=sh 0 (da (aH l j2 k2) (aH l j1 k2):Rat)) D.s.tr D.hc (SW _ _) (SW _ _)
 ·intro i z0 z1 j0 j P ha hb;obtain ⟨i1,i2,i3,i4,i5⟩:=cJ D.li P.h1;have hq:Sm 1000 (az l i j.point):=by rw [<- ha]; exact bJ D.hl D.li i1 i3
  have kD:=ki D.hl D.li P.h0 (by rcases P.p0.tie with h9 |h9;exact .inl h9.1;exact .inr h9.2.1);obtain⟨y1,y2⟩:=xB D.hl D.li D.al D.s D.hc P.h0 P.p0;obtain⟨y3,y4⟩:=vK D.hl D.li D.al D.s D.hc i2 (i5 P.hk) hb;obtain⟨y7,y8⟩:=vK D.hl D.li D.al D.s D.hc i2 i4 hb;haveI:=y1;haveI:=y2;haveI:=y3;haveI:=y4;haveI:=y7;haveI:=y8
  haveI:=Hg hq kD;have s1:=Gk (ts:=llq a.rs) (u:=310000) (k:=132100) (a:=sX (aC l a j.b j.to).1) (b:=sX (aC l a j.b j.to).2) (a2:=sX (aC l a j.b j.on).1) (b2:=sX (aC l a j.b j.on).2);have s2:=Gk (ts:=llq a.rs) (u:=310000) (k:=132100) (a:=sX (aN l a j0 i).1) (b:=sX (aN l a j0 i).2) (a2:=sX (aC l a j.b j.on).1) (b2:=sX (aC l a j.b j.on).2);have s3:=Yq (ts:=llq a.rs) (u:=310000) (k:=132100) (a:=sX ((aC l a j.b j.to).1-(aC l a j.b j.on).1)) (b:=sX ((aC l a j.b j.to).2-(aC l a j.b j.on).2)) (a2:=sX ((aN l a j0 i).1-(aC l a j.b j.on).1)) (b2:=sX ((aN l a j0 i).2-(aC l a j.b j.on).2));have s4:=Tk (ts:=llq a.rs) (u:=310000) (k:=132100) (a:=sX ((aC l a j.b j.to).1-(aC l a j.b j.on).1)) (b:=sX ((aC l a j.b j.to).2-(aC l a j.b j.on).2)) (a2:=sX ((aC l a j.b j.to).1-(aC l a j.b j.on).1)) (b2:=sX ((aC l a j.b j.to).2-(aC l a j.b j.on).2));have m1:=BE (rs:=a.rs) (u:=310000) (k:=132100) (a:=sX (dotE ((aC l a j.b j.to).1-(aC l a j.b j.on).1) ((aC l a j.b j.to).2-(aC l a j.b j.on).2) ((aC l a j.b j.to).1-(aC l a j.b j.on).1) ((aC l a j.b j.to).2-(aC l a j.b j.on).2))) (b:=sh 0 (da (az l i j.point) (aH l j0 i):Rat)) D.s.tr D.hc;have m2:=BE (rs:=a.rs) (u:=310000) (k:=132100) (a:=sX (crsE ((aC l a j.b j.to).1-(aC l a j.b j.on).1) ((aC l a j.b j.to).2-(aC l a j.b j.on).2) ((aN l a j0 i).1-(aC l a j.b j.on).1) ((aN l a j0 i).2-(aC l a j.b j.on).2))) (b:=sX (crsE ((aC l a j.b j.to).1-(aC l a j.b j.on).1) ((aC l a j.b j.to).2-(aC l a j.b j.on).2) ((aN l a j0 i).1-(aC l a j.b j.on).1) ((aN l a j0 i).2-(aC l a j.b j.on).2))) D.s.tr D.hc
  have m3:=Sp (rs:=a.rs) (u:=310000) (k:=132100)
   (a:=sX (dotE ((aC l a j.b j.to).1-(aC l a j.b j.on).1) ((aC l a j.b j.to).2-(aC l a j.b j.on).2) ((aC l a j.b j.to).1-(aC l a j.b j.on).1) ((aC l a j.b j.to).2-(aC l a j.b j.on).2)*qE (da (az l i j.point) (aH l j0 i))))
   (b:=sX (crsE ((aC l a j.b j.to).1-(aC l a j.b j.on).1) ((aC l a j.b j.to).2-(aC l a j.b j.on).2) ((aN l a j0 i).1-(aC l a j.b j.on).1) ((aN l a j0 i).2-(aC l a j.b j.on).2)*crsE ((aC l a j.b j.to).1-(aC l a j.b j.on).1) ((aC l a j.b j.to).2-(aC l a j.b j.on).2) ((aN l a j0 i).1-(aC l a j.b j.on).1) ((aN l a j0 i).2-(aC l a j.b j.on).2))) D.s.tr D.hc
  rw[tz D.s.tr D.hc]at s1 s2 s3 s4;exact⟨s1,s2,s3,s4,m1,m2,m3⟩
 ·intro i z0 z1 j0 j P hj hb;obtain ⟨i1,i2,i3,i4,i5⟩:=cJ D.li P.h1;have gO:Sm 1000 (aH l j0 i):=ki D.hl D.li P.h0 (by rcases P.p0.tie with h9 | h9; exact .inl h9.1; exact .inr h9.2.1);have fL:Sm 1000 (az l i j.on):=by rw [<- hj]; exact bJ D.hl D.li i2 i4
  have xl:Sm 1000 (az l i j.to):=by rw[<- hj];exact bJ D.hl D.li i2 (i5 P.hk)
  have hv:Sm _ (pN l i j):=xl.sub fL;haveI:Qz 310000 (kL l i j) 3:=G0 (hv.dot hv) oz;haveI:Qz 310000 (ep l i j0 j) 3:=G0 (hv.cross (fL.sub gO)) oz;obtain⟨w1,w2⟩:=VM D P.h0 P.p0 P.h1 hb;haveI:=w1;haveI:=w2
  haveI z3:Zu 310000 132100 (fU l a i j0 j) _ _:=(atm:Zu 310000 132100 (dotE (d6 l a i j0 j).1 (d6 l a i j0 j).2 (d6 l a i j0 j).1 (d6 l a i j0 j).2) _ _)
  have aV:=afa D (i:=i) (j0:=j0) (j:=j) (by decide);obtain⟨z1',z2'⟩:=xB D.hl D.li D.al D.s D.hc P.h0 P.p0;obtain⟨y1,y2⟩:=vK D.hl D.li D.al D.s D.hc i1 i3 hb;haveI:=z1';haveI:=z2';haveI:=y1;haveI:=y2
  have je:=Gk (ts:=llq a.rs) (u:=310000) (k:=132100) (a:=sX (aC l a j.a j.point).1) (b:=sX (aC l a j.a j.point).2) (a2:=sX (aN l a j0 i).1) (b2:=sX (aN l a j0 i).2);have uH:=Tk (ts:=llq a.rs) (u:=310000) (k:=132100) (a:=sX (d6 l a i j0 j).1) (b:=sX (d6 l a i j0 j).2) (a2:=sX (d6 l a i j0 j).1) (b2:=sX (d6 l a i j0 j).2);rw[tz D.s.tr D.hc]at je uH;exact⟨je,uH,aV⟩
theorem ad9(l:Li)(hl:l.ok)(k:Int)(a:As)(al:AB a)(S:DyS a)(hs:FB 3900000 l k a false) :
  FP 21 [l.av,i64 k,a.av] (.tup [nA (if iT l k a false=0 then u7 l a (nD l k)else[]),bQ (iT l k a false)]):=by
 have cS:=abh l hl k a al false
 by_cases h0:iT l k a false=0
 ·obtain ⟨n, g, ok⟩:=NF hs h0;have sL:nD l k = g:=by unfold nD; rw [ok.hk,as4]; exact aS ok.hg
  rw[h0,sL]at cS ⊢;exact abq cS ⟨⟨hl,ok.li,al,ok.chk⟩,S⟩ ok
 ·rw[vN h0,uM h0]at cS;exact VX cS h0 _
theorem Yr{ts:LL}{X:Et ts}(hn:ts.length<=1)(e:Nat)(y:Et ts)(h:Nm ts.length e (sX y)):Nm (cQ ts (sX X)).length e (sX y)/\sX (dE (cQ ts (sX X)) (sX y))=sX y:=by
 refine⟨Tc h oz,?_⟩;show sh (cQ ts (sX X)).length (ai (cQ ts (sX X)).length (sX y))=sX y;rw[pK,mH h.nl.le];show(if T.isZ ts.length (T.zero ts.length)=true then sh ts.length (ai ts.length (sX y))else _)=_;rw[ate ((T.isZ_iff _ _).2 rfl)];exact atl (sh ts.length) (di _ _)
theorem HC{α:Type}{P:α->Prop}{x y:α}(hx:P x)(hy:P y):∀z∈[x,y],P z:=by
 intro z hz;rcases asj.1 hz with rfl |hz
 ·exact hx
 ·rw[aqf.1 hz];exact hy
theorem xS{α:Type}{P:α->Prop}{x:α}(hx:P x):∀z∈[x],P z:=by
 intro z hz;rw[aqf.1 hz];exact hx
section
variable{ts:LL}
def rqX(q w1 w2 h:Et ts):Et ts:=q*w1-h*-w2
def rqY(q w1 w2 h:Et ts):Et ts:=q*w2-h*w1
def K7(ts:LL)(q h d:List Rat)(w:List Rat×List Rat):P2 ts:=(rqX (dE ts q) (dE ts w.1) (dE ts w.2) (dE ts h)*iE (dE ts d),rqY (dE ts q) (dE ts w.1) (dE ts w.2) (dE ts h)*iE (dE ts d))
structure Rp where
  v:Rat×Rat
  p:Rat×Rat
  a:List Rat×List Rat
  h:List Rat
  d:List Rat
  w:List Rat×List Rat
def IC(ts:LL)(R:Rp)(q:List Rat):Pq:=tt R.v (K7 ts q R.h R.d R.w) R.p (dE ts R.a.1,dE ts R.a.2)
end
def H6(ts:LL)(R:Rp)(qs:LL)(i:Nat):Sv:=⟨ts,[IC ts R (qs.getD i [])],if qs.length=1 then 0 else 1-2*(i:Int)⟩
def BQ(l:Li)(a:As)(i:Int)(j0 j:Jt):Rp:=⟨pN l i j,aH l j0 i,P2.l (aN l a j0 i),sh 0 (ep l i j0 j:Rat),sX (fU l a i j0 j),P2.l (d6 l a i j0 j)⟩
def lR(l:Li)(a:As)(i:Int)(j0 j:Jt):Et (llq a.rs):=qE (kL l i j)*fU l a i j0 j-qE (ep l i j0 j)*qE (ep l i j0 j)
theorem aaq{ts:LL}{r:Nat}(tw:Tw ts r){n d h:Et ts}(hs:¬be (n*d-h*h)<0)(h1:¬(be d=0/\be h=0)):be d≠0:=by
 intro h0;have S:=rc (aI ts) ts.length tw.pos
 have e1:sg (aI ts) ts.length (n*d)=0:=by
  rw[S.mul];have:sg (aI ts) ts.length d=0:=h0;rw[this];exact Int.mul_zero _
 have e2:=S.zadd (y:=-(h*h)) e1;rw[show n*d+-(h*h)=n*d-h*h by grind,S.neg,S.mul]at e2;have e3:be (n*d-h*h)=sg (aI ts) ts.length (n*d-h*h):=rfl;have e4:be h=sg (aI ts) ts.length h:=rfl;have h2:sg (aI ts) ts.length h≠0:=fun h9=>h1 ⟨h0,by rw[e4];exact h9⟩
 rw[e3,e2]at hs;rcases S.cs h with g |g |g
 ·rw[g]at hs;exact hs (by decide)
 ·exact h2 g
 ·rw[g]at hs;exact hs (by decide)
theorem XW{p q:Rat}(h:p*p+q*q=0):p=0/\q=0:=by
 have h1:=yQ p;have h2:=yQ q;have h3:p*p=0:=by grind
 have h4:q*q=0:=by grind
 exact⟨by rcases Rat.mul_eq_zero.1 h3 with g |g <;> exact g,by rcases Rat.mul_eq_zero.1 h4 with g |g <;> exact g⟩
theorem XQ{l:Li}(ae:ax l=0){n:Nat}{j:Jt}(hj:l.jo[n]?=some j)(hk:j.kind≠0){i:Int}(hi:j.b=i):dm (pN l i j) (pN l i j)≠0:=by
 intro h0;obtain⟨h1,h2⟩:=XW h0;have h3:=Lj ae hj;subst hi;have e1:(az l j.b j.to).1-(az l j.b j.on).1=0:=h1;have e2:(az l j.b j.to).2-(az l j.b j.on).2=0:=h2;have e3:((bT l j.b).getD j.on.toNat default).x.q=((bT l j.b).getD j.to.toNat default).x.q:=by unfold az at e1;dsimp only at e1;grind
 have e4:((bT l j.b).getD j.on.toNat default).y.q=((bT l j.b).getD j.to.toNat default).y.q:=by unfold az at e2;dsimp only at e2;grind
 unfold fF at h3;split at h3
 ·cases h3
 ·split at h3
  ·cases h3
  ·split at h3
   ·cases h3
   ·split at h3
    ·cases h3
    ·split at h3
     ·cases h3
     ·first |(rw[ate ⟨e3,e4⟩]at h3;cases h3) |(split at h3 <;> first |(cases h3;done) |(rename_i g;exact atk ⟨e3,e4⟩ g))
theorem abd:Sub (.agg [bl (rt ((1:Int):Rat)).neg,ws (rt ((1:Int):Rat)).num,ws (rt ((1:Int):Rat)).den,.v (.bool false),nS,nS]) (qP (((1:Int):Rat),0)) :=
 Sub.agg (.cons (.refl _) (.cons (.refl _) (.cons (.refl _) (.cons (.refl _) (.cons (Sub.nil _ _ _) (.cons (Sub.nil _ _ _) .nil)))))) rfl
theorem vQ{ts:LL}(q:Rat):sX (qE q:Et ts)=sh 0 (q:Rat):=Ij _ _
def tk(l:Li)(a:As)(i:Int)(j0:Jt)(x:Tn):Pq:=tt (((1:Int):Rat),0) ((qE (ce x.half x.t.q),qE (b8 x.half x.t.q)):P2 (llq a.rs)) (aH l j0 i) (aN l a j0 i)
theorem RF:Sm 3000 (((1:Int):Rat),(0:Rat)):=⟨Qb.one.mono oz,Qb.mono (e:=1) (q:=0) ⟨by decide,by decide⟩ oz⟩
theorem Qd{E:Nat}(hE:E<=20000000000){l:Li}{a:As}(D:DyW l a)(h3:(llq a.rs).length<=2){body pt:Int}(h1:aZ body l.bo.length=true)(h2:aZ pt (bT l body).length=true)(hb:Pd E a body) :
  Nm (llq a.rs).length 62500000000 (sX (aC l a body pt).1)/\Nm (llq a.rs).length 62500000000 (sX (aC l a body pt).2):=by
 obtain⟨n,k,bd,m,b,hp⟩:=zi D.hl D.li D.al D.hc h1 h2 hb;obtain⟨tw,_⟩:=jn D.al.tr D.hc;have kb:=SR h3;have qx:Qb 1000 m.x.q:=by rw[hp.mp.ex,bE];exact hp.mp.sm.x
 have qy:Qb 1000 m.y.q:=by rw[hp.mp.ey,bE];exact hp.mp.sm.y
 have h:=IG tw hp.ok qx qy;unfold aC;rw[hp.eq];exact⟨h.1.mono oz,h.2.mono oz⟩
theorem Ze{E:Nat}(hE:E<=20000000000){l:Li}{a:As}(D:DyW l a)(h3:(llq a.rs).length<=2){i:Nat}{j:Jt}(hj:l.jo[i]?=some j){b:Int}(h:PinP E l a j b) :
  Nm (llq a.rs).length 62500000000 (sX (aN l a j b).1)/\Nm (llq a.rs).length 62500000000 (sX (aN l a j b).2):=by
 obtain⟨i1,i2,i3,i4,_⟩:=cJ D.li hj;unfold aN;rcases h.tie with⟨e,hb⟩ |⟨e,e2,hb⟩
 ·rw[ate e];exact Qd hE D h3 i2 i4 hb
 ·rw[atd e];exact Qd hE D h3 i1 i3 hb
theorem aa8{E:Nat}(hE:E<=20000000000){l:Li}{a:As}(D:DyW l a)(h3:(llq a.rs).length<=2){n:Nat}{i:Int}{j0:Jt}(h0:l.jo[n]?=some j0)(p0:PinP E l a j0 i){x:Tn}(hq:Qb 1000 x.t.q) :
  BdP (llq a.rs) (((1:Int):Rat),(0:Rat)) ((qE (ce x.half x.t.q),qE (b8 x.half x.t.q)):P2 (llq a.rs)) (aH l j0 i) (aN l a j0 i):=by
 obtain⟨tw,etw⟩:=jn D.al.tr D.hc;have qc:=Ck (half:=x.half) hq;have qs:=Bn (half:=x.half) hq;have gO:Sm 1000 (aH l j0 i):=ki D.hl D.li h0 p0.or;obtain⟨y1,y2⟩:=Ze hE D h3 h0 p0
 exact alr (F := 92000000000) (W := 10000) (u := (((1 : Int) : Rat), (0 : Rat))) (p := aH l j0 i) (w := ((qE (ce x.half x.t.q), qE (b8 x.half x.t.q)) : P2 (llq a.rs))) (o := aN l a j0 i) tw h3 (SR h3) RF (gO.mono oz) (by decide +kernel)
  (by show Nm _ _ (sX (qE (ce x.half x.t.q):Et (llq a.rs)));rw[vQ];exact(ur tw.five qc).mono oz) (by show Nm _ _ (sX (qE (b8 x.half x.t.q):Et (llq a.rs)));rw[vQ];exact(ur tw.five qs).mono oz) y1 y2 oz oz oz
theorem N4{E:Nat}{l:Li}{k:Int}{a:As}{own:Bool}{n:Nat}{g:Gr}(h:DyOk E l k a own n g)(hk:g.kind=0):∃i z0 d j0,g=⟨0,[i],[z0],d⟩/\l.jo[z0.toNat]?=some j0/\PinP E l a j0 i:=by
 have hd:=h.dy;cases hd with
 |rrr _ _ _ _ _ _ _=>exact atk hk (by simp)
 |pr _ _ _=>exact atk hk (by simp)
 |rp _ _ _=>exact atk hk (by simp)
 | @drv b z d j x t d0 hd hb=>exact⟨b,z,d,j,rfl,t.hj,h.pin rfl t (by simp) (by simp)⟩
def CY(m:Mt)(hs:List Hd):List Sv:=(List.range m.ps.length).map (Qa m hs)
def Gv(l:Li)(a:As)(i k:Int)(j0 j1 j2:Jt):List Sv :=
  if r6 [a7 (aH l j2 i) (aH l j0 i),a7 (aH l j2 k) (aH l j1 k)]=true then[]
  else if B5 (aN l a j0 i) (aN l a j1 k) (qE (da (aH l j2 i) (aH l j0 i))) (qE (da (aH l j2 k) (aH l j1 k)))≠0 then[]
  else CY (uY (aN l a j0 i) (aN l a j1 k) (qE (da (aH l j2 i) (aH l j0 i))) (qE (da (aH l j2 k) (aH l j1 k)))) [⟨aH l j0 i,P2.l (aN l a j0 i),aH l j2 i⟩,⟨aH l j1 k,P2.l (aN l a j1 k),aH l j2 k⟩]
def Jk(l:Li)(a:As)(i:Int)(j0 j:Jt):List Sv :=
  if r6 [a7 (az l i j.point) (aH l j0 i)]=true then[]
  else if DC (aC l a j.b j.on) (aC l a j.b j.to)≠0 then[]
  else CY (wT (aC l a j.b j.on) (aC l a j.b j.to) (aN l a j0 i) (qE (da (az l i j.point) (aH l j0 i)))) [⟨aH l j0 i,P2.l (aN l a j0 i),az l i j.point⟩]
def B9(ts:LL)(R:Rp)(qs:LL):List Sv:=(List.range qs.length).map (H6 ts R qs)
def F9(l:Li)(a:As)(i:Int)(j0 j:Jt):List Sv :=
  if be (fU l a i j0 j)=0/\be (qE (ep l i j0 j):Et (llq a.rs))=0 then[]
  else if be (lR l a i j0 j)<0 then[]
  else if 0<be (lR l a i j0 j)then B9 (cQ (llq a.rs) (sX (lR l a i j0 j))) (BQ l a i j0 j) [se (llq a.rs).length,sX (-wg (lR l a i j0 j))]
  else B9 (llq a.rs) (BQ l a i j0 j) [[]]
def Bu(l:Li)(a:As)(i:Int)(j0:Jt)(x:Tn):List Sv:=if x.err≠0 then[]else[⟨llq a.rs,[tk l a i j0 x],1⟩]
def w6(l:Li)(a:As)(g:Gr)(x:Tn):List Sv :=
  if g.kind=0 then Bu l a (cK g 0) (ba l g 0) x
  else if g.kind=1 then Gv l a (cK g 0) (cK g 1) (ba l g 0) (ba l g 1) (ba l g 2)
  else if g.kind=2 then Jk l a (cK g 0) (ba l g 0) (ba l g 1)
  else F9 l a (cK g 0) (ba l g 0) (ba l g 1)
section
variable{n N:Nat}{r r':(k:Nat)->T k}
end
section
variable{ts:LL}(X:Et ts)
end
theorem afq{ts:LL}:(qE ((1:Int):Rat):Et ts)=1:=rfl
section
variable{ts:LL}
theorem E4(r:(k:Nat)->T k):∀(n:Nat)(q:Rat),T.inv r n (T.ofQ n q)=T.ofQ n (1/q)
 |0,q=>rfl
 |n+1,q=>by
  show T.inv r (n+1) (T.ofQ n q,T.zero n)=(T.ofQ n (1/q),T.zero n);rw[T.inv_low,E4 r n q]
theorem PB:(iE (qE 1):Et ts)=1:=by
 show T.inv (aI ts) ts.length (T.ofQ ts.length 1)=_;rw[E4,show(1:Rat)/1=((1:Nat):Rat) by decide +kernel];rfl
end
theorem Fk(r:(k:Nat)->T k)(q:Rat):∀(k:Nat){a c:List Rat},(∀i,i<2^k->c.getD i 0=q*a.getD i 0)->ai k c=T.mul r k (T.ofQ k q) (ai k a)
 |0,a,c,h=>h 0 (by decide)
 |k+1,a,c,h=>by
  have h1:=Fk r q k (a:=a.take (2^k)) (c:=c.take (2^k)) (fun i hi=>by rw[mF,mF,ate hi,ate hi];exact h i (by rw[ao1];omega));have h2:=Fk r q k (a:=a.drop (2^k)) (c:=c.drop (2^k)) (fun i hi=>by rw[nT,nT];exact h _ (by rw[ao1];omega));show(ai k (c.take (2^k)),ai k (c.drop (2^k)))=T.mul r (k+1) (T.ofQ k q,T.zero k) (ai k (a.take (2^k)),ai k (a.drop (2^k)));rw[T.mul_comm,T.mul_half,h1,h2,T.mul_comm r k (ai k (a.take _)),T.mul_comm r k (ai k (a.drop _))]
section
variable{ts:LL}
def Bz(e:Nat)(x:Et ts):Prop:=Nm ts.length e (sX x)
theorem Bz.mono{e f:Nat}{x:Et ts}(h:Bz e x)(hf:e<=f):Bz f x:=Nm.mono h hf
theorem Bz.add{e f:Nat}{x y:Et ts}(hx:Bz e x)(hy:Bz f y):Bz (e+f+1) (x+y):=Nm.addT hx hy
theorem Bz.sub{e f:Nat}{x y:Et ts}(hx:Bz e x)(hy:Bz f y):Bz (e+f+1) (x-y):=Nm.subT hx hy
theorem Bz.neg{e:Nat}{x:Et ts}(hx:Bz e x):Bz e (-x):=Nm.negT hx
theorem Bz.mul{r K e f:Nat}(tw:Tw ts r)(hK:eB r ts.length<=K){x y:Et ts}(hx:Bz e x)(hy:Bz f y):Bz (e+f+K) (x*y):=by
 have h:=Nm.mul tw rfl hx hy;have e1:∀z:Et ts,ai ts.length (sX z)=z:=fun z=>di _ _
 rw[e1,e1]at h;exact Nm.mono h (Nat.add_le_add_left hK _)
theorem Bz.q{e:Nat}{q:Rat}(h5:ts.length<=5)(hq:Cb e [q]):Bz e (qE q:Et ts):=by
 unfold Bz;rw[vQ];exact Nm.ofQ h5 hq
theorem Bz.qm{e f:Nat}{q:Rat}{x:Et ts}(hq:Cb e [q])(hx:Bz f x):Bz (e+f) (qE q*x):=by
 obtain⟨D,N,h1,h2,h3⟩:=hq;obtain⟨D',N',k1,k2,k3⟩:=hx.cb;obtain⟨n,hn,hN⟩:=h1.2 q (aqf.2 rfl);have lr:ai ts.length (sX x)=x:=di _ _
 have hd:ai ts.length ((sX x).map (q*·))=T.mul (aI ts) ts.length (T.ofQ ts.length q) (ai ts.length (sX x)):=Fk _ q _ (fun i _=>by
  rw[ar2,asa,ar2];cases(sX x)[i]? with
  |none=>exact(Rat.mul_zero q).symm
  |some v=>rfl)
 rw[lr]at hd
 have hc:Cb (e+f) ((sX x).map (q*·)):=by
  refine⟨D*D',N*N',⟨apa h1.1 k1.1,?_⟩,?_,?_⟩
  ·intro z hz;obtain⟨y,hy,rfl⟩:=aqd.1 hz;obtain⟨m,hm,hM⟩:=k1.2 y hy;refine⟨n*m,?_,?_⟩
   ·rw[Int.natCast_mul,aq0,aq0,<- hn,<- hm];grind
   ·rw[aqv];exact aoz hN hM
  ·rw[as6];exact aoz h2 k2
  ·rw[as6];exact aoz h3 k3
 have cT:Nl ts.length ((sX x).map (q*·)):=by
  rcases hx.nl with h |⟨j,hj,h⟩
  ·exact .inl (by rw[h];rfl)
  ·exact .inr ⟨j,hj,by rw[ar3];exact h⟩
 refine⟨hx.five,iI _ _,?_⟩;have:=hc.sh cT;rw[hd]at this;exact this
theorem Bz.mq{e f:Nat}{q:Rat}{x:Et ts}(hx:Bz f x)(hq:Cb e [q]):Bz (e+f) (x*qE q):=by
 rw[show x*qE q=qE q*x by grind];exact hx.qm hq
theorem Bz.iq{e f:Nat}{q:Rat}{x:Et ts}(hx:Bz f x)(hq:Cb e [q])(h0:q≠0):Bz (e+f) (x*iE (qE q)):=by
 have h:(iE (qE q):Et ts)=qE (1/q):=E4 _ _ q;rw[h];exact hx.mq (hq.inv1 h0)
theorem Bz.iv{r f j I:Nat}{y:Et ts}(tw:Tw ts r)(hy:Bz f y)(nb:Nl j (sX y))(hj:j<=ts.length)(h0:be y≠0)(hI:iB r j f<=I)(hs:I<=50000000000):Bz I (iE y):=by
 have hf:=Hv r j f;have hl:=pE ts.length;have e1:ai ts.length (sX y)=y:=di _ _;obtain⟨L,_,k2,k3,k4⟩:=IP (b:=sX y) tw hy hj nb (by rw[e1];exact h0) oz oz;rw[e1]at k4;have:=k3.sh k2;rw[k4]at this;exact⟨tw.five,iI _ _,this.mono hI⟩
structure Pz(n ec ex:Nat)(p:Pq):Prop where
  c:Nm n ec p.c
  s:Nm n ec p.s
  x:Nm n ex p.x
  y:Nm n ex p.y
theorem Pz.mono{n n' a b a' b':Nat}{p:Pq}(h:Pz n a b p)(hn:n<=n')(h5:n'<=5)(ha:a<=a')(hb:b<=b'):Pz n' a' b' p :=
 ⟨⟨h5,h.c.nl.mono hn,h.c.cb.mono ha⟩,⟨h5,h.s.nl.mono hn,h.s.cb.mono ha⟩,⟨h5,h.x.nl.mono hn,h.x.cb.mono hb⟩,⟨h5,h.y.nl.mono hn,h.y.cb.mono hb⟩⟩
theorem M7{s t e f:Nat}{u p:Rat×Rat}{w o:P2 ts}(hu:Sm t u)(hp:Sm s p)(h0:dm u u≠0)(w1:Bz e w.1)(w2:Bz e w.2)(o1:Bz f o.1)(o2:Bz f o.2) :
  Pz ts.length (2*e+6*t+2) (f+4*e+12*t+2*s+6) (tt u w p o):=by
 have u1:=Cb.one hu.x;have u2:=Cb.one hu.y;have p1:=Cb.one hp.x;have p2:=Cb.one hp.y;have n:=Cb.one (hu.dot hu);have c:=(((w1.qm u1).add (w2.qm u2)).iq n h0).mono (f:=2*e+6*t+2) oz;have d:=(((w2.qm u1).sub (w1.qm u2)).iq n h0).mono (f:=2*e+6*t+2) oz;exact⟨c,d,(o1.sub ((c.mq p1).sub (d.mq p2))).mono oz,(o2.sub ((d.mq p1).add (c.mq p2))).mono oz⟩
theorem wB{a:List Rat}{e:Nat}(h:Nm ts.length e a):Bz e (dE ts a):=by
 have:=h.cb.sh h.nl;exact⟨h.five,iI _ _,this⟩
theorem ahp{s f:Nat}{p:Rat×Rat}{c d:Rat}{o:P2 ts}{g:Nat}(hc:Cb g [c])(hd:Cb g [d])(hp:Sm s p)(h5:ts.length<=5)(o1:Bz f o.1)(o2:Bz f o.2) :
  Pz ts.length (g+1) (f+2*g+2*s+4) (tt (((1:Int):Rat),0) ((qE c,qE d):P2 ts) p o):=by
 have e0:∀x:Et ts,(qE ((1:Int):Rat):Et ts)*x=x:=fun x=>by
  have:(qE ((1:Int):Rat):Et ts)=1:=rfl;rw[this];grind
 have e1:∀x:Et ts,(qE (0:Rat):Et ts)*x=0:=fun x=>by
  have:(qE (0:Rat):Et ts)=0:=rfl;rw[this];grind
 have e2:(iE (Dt (((1:Int):Rat),0)):Et ts)=1:=by
  show iE (qE (dm (((1:Int):Rat),0) (((1:Int):Rat),0)))=_;rw[show dm (((1:Int):Rat),(0:Rat)) (((1:Int):Rat),(0:Rat))=1 by decide +kernel];exact PB
 have ec:gS (((1:Int):Rat),0) ((qE c,qE d):P2 ts)=qE c:=by
  unfold gS;rw[e0,e1,e2];grind
 have ed:gP (((1:Int):Rat),0) ((qE c,qE d):P2 ts)=qE d:=by
  unfold gP;rw[e0,e1,e2];grind
 have p1:=Cb.one hp.x;have p2:=Cb.one hp.y;have c1:Bz g (qE c:Et ts):=Bz.q h5 hc;have d1:Bz g (qE d:Et ts):=Bz.q h5 hd;refine⟨?_,?_,?_,?_⟩
 ·show Bz _ (gS _ _);rw[ec];exact c1.mono oz
 ·show Bz _ (gP _ _);rw[ed];exact d1.mono oz
 ·show Bz _ (sR _ _ p o);unfold sR;rw[ec,ed];exact(o1.sub ((c1.mq p1).sub (d1.mq p2))).mono oz
 ·show Bz _ (ug _ _ p o);unfold ug;rw[ec,ed];exact(o2.sub ((d1.mq p1).add (c1.mq p2))).mono oz
structure Xz(ts:LL)(r X:Nat)(us:LL):Prop where
  tw:Tw us (r+X)
  up:ts.length<=us.length
  ln:us.length<=ts.length+1
theorem Ii{r X:Nat}(tw:Tw ts r)(hx:r+X<=5000000000):Xz ts r X ts:=⟨⟨tw.three,tw.len,tw.pos,tw.rb.mono oz,hx⟩,ar8 _,by omega⟩
theorem Cr{r X:Nat}(tw:Tw ts r)(hn:ts.length<=1)(hx:r+X<=5000000000){x:Et ts}(h:Bz X x)(hs:0<=be x):Xz ts r X (cQ ts (sX x)) :=
 ⟨Zt tw oz h hx (by rw[show ai ts.length (sX x)=x from di _ _];exact hs),by rw[pK];omega,by rw[pK];omega⟩
theorem Bz.up{e:Nat}{X x:Et ts}(h:Bz e x)(hn:ts.length<=1):Bz e (jV X x):=by
 have h1:Nm (cQ ts (sX X)).length e (sX x):=Tc h oz;exact wB h1
structure Szs(n r a b X K K' I J:Nat):Prop where
  n1:n<=1
  hK:eB r n<=K
  hX:24*a+8*K+5*b+23<=X
  hL:r+X<=5000000000
  hK':eB (r+X) (n+1)<=K'
  hI:iB r n (8*a+2*K+8)<=I
  hJ:iB (r+X) n (8*a+2*K+8)<=J
  hJ':J<=50000000000
  kk:K<=K'
  ij:I<=J
theorem Szs.kx{n r a b X K K' I J:Nat}(h:Szs n r a b X K K' I J){us:LL}(hu:us.length<=n+1):eB (r+X) us.length<=K':=asv (o8 _ hu) h.hK'
section
variable{r a b X K K' I J:Nat}(Z:Szs ts.length r a b X K K' I J)(tw:Tw ts r)
include Z tw
theorem HN{p q:P2 ts}(p1:Bz a p.1)(p2:Bz a p.2)(q1:Bz a q.1)(q2:Bz a q.2):Bz (8*a+2*K+5) (lG (cZ q p) (cZ q p)):=by
 have v1:=q1.sub p1;have v2:=q2.sub p2;exact((v1.mul tw Z.hK v1).add (v2.mul tw Z.hK v2)).mono oz
theorem F4{y:Et ts}(hy:Bz (8*a+2*K+8) y)(h0:be y≠0):Bz I (iE y) :=
 hy.iv tw (iI _ _) (ar8 _) h0 Z.hI (by have:=Z.ij;have:=Z.hJ';omega)
theorem Fb{x y:Et ts}(hx:Bz X x)(hs:0<=be x)(hy:Bz (8*a+2*K+8) y)(h0:be y≠0):Bz J (iE (jV x y)):=by
 have E:=Cr tw Z.n1 Z.hL hx hs
 have e1:sX (jV x y)=sX y:=by
  have:=(Yr (X:=x) Z.n1 _ y hy).2;exact this
 refine(hy.up Z.n1).iv E.tw (j:=ts.length) (by rw[e1];exact iI _ _) E.up (by rw[al9];exact h0) Z.hJ Z.hJ'
theorem Fh{x:Et ts}:Bz 1 (dE (cQ ts (sX x)) (se ts.length)):=by have _:=tw;exact wB (XP (by have:=Z.n1;omega))
theorem aad{p q:P2 ts}{z z2:Et ts}(p1:Bz a p.1)(p2:Bz a p.2)(q1:Bz a q.1)(q2:Bz a q.2)(hz:Bz b z)(l8:Bz b z2)(h0:B5 p q z z2=0) :
  Xz ts r X (uY p q z z2).ts/\∀m∈(uY p q z z2).ps,Nm (uY p q z z2).ts.length (13*a+2*b+5*K+2*K'+I+J+20) m.1/\Nm (uY p q z z2).ts.length (13*a+2*b+5*K+2*K'+I+J+20) m.2:=by
 have hn:=Z.n1;have dg:=Z.kk;have hd:Bz (8*a+2*K+5) (dL p q):=HN Z tw (p:=q) (q:=p) q1 q2 p1 p2;have hm:=(hz.add hd).sub l8;have q4:Cb 3 [((4:Int):Rat)]:=Cb.int (z:=4) (by decide);have q2':Cb 2 [((2:Int):Rat)]:=Cb.int (z:=2) (by decide);have qm1:Cb 1 [((-1:Int):Rat)]:=Cb.int (z:=-1) (by decide)
 have hX:Bz X (gT p z q z2):=by
  have h:=((hz.mul tw Z.hK hd).qm q4).sub (hm.mul tw Z.hK hm);have h2:=h.mono (f:=X) (by have:=Z.hX;omega);exact h2
 have same:=Ii (X:=X) tw Z.hL;have v1:=q1.sub p1;have v2:=q2.sub p2;unfold B5 L5 at h0;unfold uY L0
 by_cases hs:be (dL p q)=0
 ·rw[ate hs]at h0 ⊢
  by_cases bb:be (z-z2)≠0
  ·rw[ate bb];exact⟨same,fun m hm=>by cases hm⟩
  ·rw[atd bb]
   by_cases hp:0<be z
   ·rw[ate ⟨ar0.1 bb,hp⟩]at h0;cases h0
   ·rw[atd hp]
    have n0:Bz 0 (0:Et ts):=by
     have:=Bz.q (ts:=ts) (e:=0) (q:=0) oz (Cb.int (z:=0) (by decide));exact this
    refine⟨same,xS ⟨?_,?_⟩⟩
    ·exact(p1.add (n0.mul tw Z.hK p1)).mono (f:=13*a+2*b+5*K+2*K'+I+J+20) oz
    ·exact(p2.add (n0.mul tw Z.hK p2)).mono (f:=13*a+2*b+5*K+2*K'+I+J+20) oz
 ·rw [atd hs];have Ak:be (yB (dL p q)) ≠ 0:=by rw [amc tw]; exact hs
  have ht:Bz (8*a+2*K+8) (yB (dL p q)):=Bz.mono (e:=2+(8*a+2*K+5)) (hd.qm q2') oz
  by_cases nc:be (gT p z q z2)<0
  ·rw[ate nc];exact⟨same,fun m hm=>by cases hm⟩
  ·rw[atd nc];have hk:=hm.mul tw Z.hK (F4 Z tw ht Ak);have f1:Bz (11*a+2*b+4*K+I+10) (xJ p q z z2).1:=(p1.add (hk.mul tw Z.hK v1)).mono oz;have f2:Bz (11*a+2*b+4*K+I+10) (xJ p q z z2).2:=(p2.add (hk.mul tw Z.hK v2)).mono oz
   by_cases uv:be (gT p z q z2)=0
   ·rw[ate uv];exact⟨same,xS ⟨f1.mono oz,f2.mono oz⟩⟩
   ·rw [atd uv];have iy:0 <= be (gT p z q z2):=by omega
    have E:=Cr tw hn Z.hL hX iy;have iQ:=Z.kx E.ln;have s1:=(Fh Z tw (x:=gT p z q z2)).mul E.tw iQ (Fb Z tw hX iy ht Ak);have s2:=s1.qm qm1;have w1:=(v2.up (X:=gT p z q z2) hn).qm qm1;have w2:=v1.up (X:=gT p z q z2) hn;have g1:=f1.up (X:=gT p z q z2) hn;have g2:=f2.up (X:=gT p z q z2) hn;exact⟨E,HC ⟨(g1.add (s1.mul E.tw iQ w1)).mono oz,(g2.add (s1.mul E.tw iQ w2)).mono oz⟩ ⟨(g1.add (s2.mul E.tw iQ w1)).mono oz,(g2.add (s2.mul E.tw iQ w2)).mono oz⟩⟩
theorem ak7{p q o:P2 ts}{z:Et ts}(p1:Bz a p.1)(p2:Bz a p.2)(q1:Bz a q.1)(q2:Bz a q.2)(o1:Bz a o.1)(o2:Bz a o.2)(hz:Bz b z)(h0:DC p q=0) :
  Xz ts r X (wT p q o z).ts/\∀m∈(wT p q o z).ps,Nm (wT p q o z).ts.length (13*a+2*b+5*K+2*K'+I+J+20) m.1/\Nm (wT p q o z).ts.length (13*a+2*b+5*K+2*K'+I+J+20) m.2:=by
 have hn:=Z.n1;have dg:=Z.kk;have hS:=(HN Z tw p1 p2 q1 q2)
 have v1:=q1.sub p1;have v2:=q2.sub p2;have w1:=o1.sub p1;have w2:=o2.sub p2;have hE:Bz (8*a+2*K+5) (Cm p q o):=((v1.mul tw Z.hK w1).add (v2.mul tw Z.hK w2)).mono oz;have hC:Bz (8*a+2*K+5) (F3 p q o):=((v1.mul tw Z.hK w2).sub (v2.mul tw Z.hK w1)).mono oz;have hX:Bz X (fH p q o z):=((hS.mul tw Z.hK hz).sub (hC.mul tw Z.hK hC)).mono (by have:=Z.hX;omega);have same:=Ii (X:=X) tw Z.hL;unfold DC at h0;unfold wT
 by_cases hs:be (sV p q)=0
 ·rw[ate hs]at h0;cases h0
 ·rw[atd hs]
  by_cases h1:be (fH p q o z)=-1
  ·rw[ate h1];exact⟨same,fun m hm=>by cases hm⟩
  ·rw[atd h1]
   by_cases h2:be (fH p q o z)=0
   ·rw[ate h2];have hk:=hE.mul tw Z.hK (F4 Z tw (hS.mono oz) hs);exact⟨same,xS ⟨(p1.add (hk.mul tw Z.hK v1)).mono (f:=13*a+2*b+5*K+2*K'+I+J+20) oz,(p2.add (hk.mul tw Z.hK v2)).mono (f:=13*a+2*b+5*K+2*K'+I+J+20) oz⟩⟩
   ·rw[atd h2]
    have iy:0<=be (fH p q o z):=by
     have:=T.sgn_cases (aI ts) ts.length (fH p q o z);have e:be (fH p q o z)=T.sgn (aI ts) ts.length (fH p q o z):=rfl;omega
    have E:=Cr tw hn Z.hL hX iy;have iQ:=Z.kx E.ln;have hi:=Fb Z tw hX iy (hS.mono oz) hs;have rt:=Fh Z tw (x:=fH p q o z);have k1:=((hE.up (X:=fH p q o z) hn).add rt).mul E.tw iQ hi;have k2:=((hE.up (X:=fH p q o z) hn).sub rt).mul E.tw iQ hi;have g1:=p1.up (X:=fH p q o z) hn;have g2:=p2.up (X:=fH p q o z) hn;have u1:=v1.up (X:=fH p q o z) hn;have u2:=v2.up (X:=fH p q o z) hn;exact⟨E,HC ⟨(g1.add (k1.mul E.tw iQ u1)).mono oz,(g2.add (k1.mul E.tw iQ u2)).mono oz⟩ ⟨(g1.add (k2.mul E.tw iQ u1)).mono oz,(g2.add (k2.mul E.tw iQ u2)).mono oz⟩⟩
end
end
def Cs(s:Nat)(l:Li):Prop:=∀b∈l.bo,∀m∈b.pts,Qb s m.x.q/\Qb s m.y.q
section
variable{s:Nat}{l:Li}(hl:l.ok)(ae:ax l=0)(bU:Cs s l)
include hl ae bU
theorem x4{body pt:Int}(h1:aZ body l.bo.length=true)(h2:aZ pt (bT l body).length=true):Sm s (az l body pt):=by
 obtain⟨n,k,bd,m,h⟩:=tN hl ae h1 h2;obtain⟨c1,c2⟩:=bU bd (ar1 h.gbd) m (ar1 h.gm);rw[h.ex,bE]at c1;rw[h.ey,bE]at c2;exact⟨c1,c2⟩
theorem ul{i:Nat}{j:Jt}(hj:l.jo[i]?=some j){b:Int}(h:j.a=b\/j.b=b):Sm s (aH l j b):=by
 obtain⟨i1,i2,i3,i4,_⟩:=cJ ae hj;unfold aH
 by_cases e:j.a=b
 ·rw[ate e];subst e;exact x4 hl ae bU i1 i3
 ·rw[atd e];rcases h with h |h
  ·exact atk h e
  ·subst h;exact x4 hl ae bU i2 i4
theorem zm{E r K:Nat}{a:As}(al:AB a)(hc:bp a.rs=0)(tw:Tw (llq a.rs) r)(hK:eB r (llq a.rs).length<=K){body pt:Int}(h1:aZ body l.bo.length=true)(h2:aZ pt (bT l body).length=true)(hb:Pd E a body) :
  Bz (3*E+2*s+2*K+10) (aC l a body pt).1/\Bz (3*E+2*s+2*K+10) (aC l a body pt).2:=by
 obtain⟨n,k,bd,m,b,hp⟩:=zi hl ae al hc h1 h2 hb;obtain⟨c1,c2⟩:=bU bd (ar1 hp.mp.gbd) m (ar1 hp.mp.gm);have h:=IG tw hp.ok c1 c2;have hk:kB r (llq a.rs).length<=K:=hK;unfold aC Bz;rw[hp.eq];exact⟨h.1.mono oz,h.2.mono oz⟩
theorem yI{E r K:Nat}{a:As}(al:AB a)(hc:bp a.rs=0)(tw:Tw (llq a.rs) r)(hK:eB r (llq a.rs).length<=K){i:Nat}{j:Jt}(hj:l.jo[i]?=some j){b:Int}(h:PinP E l a j b) :
  Bz (3*E+2*s+2*K+10) (aN l a j b).1/\Bz (3*E+2*s+2*K+10) (aN l a j b).2:=by
 obtain⟨i1,i2,i3,i4,_⟩:=cJ ae hj;unfold aN;rcases h.tie with⟨e,hb⟩ |⟨e,e2,hb⟩
 ·rw[ate e];exact zm hl ae bU al hc tw hK i2 i4 hb
 ·rw[atd e];exact zm hl ae bU al hc tw hK i1 i3 hb
end
theorem Bz.upX{ts us:LL}{e:Nat}{x:Et ts}(h:Bz e x)(h1:ts.length<=us.length)(h5:us.length<=5):Bz e (dE us (sX x)):=wB ⟨h5,Nl.mono h.nl h1,h.cb⟩
theorem HE{s:Nat}{p q:Rat×Rat}(hp:Sm s p)(hq:Sm s q):Cb (8*s+5) [da p q]:=by
 have h:=(hp.sub hq).dot (hp.sub hq);exact Cb.one (h.mono oz)
abbrev wZ(a b K K' I J:Nat):Nat:=14*a+3*b+5*K+3*K'+I+J+25
abbrev oZ(s a b K K' I J:Nat):Nat:=a+4*wZ a b K K' I J+26*s+18
theorem Ht{n a b ec ex e:Nat}{p:Pq}(h:Pz n ec ex p)(h1:ec<=e)(h2:ex<=e):Pq.ok n e p:=⟨h.c.mono h1,h.s.mono h1,h.x.mono h2,h.y.mono h2⟩
section
variable{ts:LL}{r a b X K K' I J:Nat}(Z:Szs ts.length r a b X K K' I J)(tw:Tw ts r)
include Z tw
theorem KC{s:Nat}{m:Mt}(hx:Xz ts r X m.ts)(hm:∀x∈m.ps,Nm m.ts.length (13*a+2*b+5*K+2*K'+I+J+20) x.1/\Nm m.ts.length (13*a+2*b+5*K+2*K'+I+J+20) x.2){hs:List Hd}
  (hh:∀h∈hs,Sm s h.p/\Sm s h.c/\dm (a7 h.c h.p) (a7 h.c h.p)≠0/\∃o:P2 ts,h.a=P2.l o/\Bz a o.1/\Bz a o.2) :
  ∀sv∈CY m hs,Xz ts r X sv.ts/\∀p∈sv.ps,Pq.ok sv.ts.length (oZ s a b K K' I J) p:=by
 have _:=Z;have _:=tw;intro sv h1;unfold CY at h1;obtain⟨i,hi,rfl⟩:=aqd.1 h1;obtain⟨x,UD⟩:=aJ (apt.1 hi);obtain⟨n1,n2⟩:=hm x (ar1 UD);refine⟨hx,fun p hp=>?_⟩;unfold Qa at hp;rw[aS UD]at hp;obtain⟨h,h2,rfl⟩:=aqd.1 hp;obtain⟨sJ,fS,h0,o,ea,o1,o2⟩:=hh h h2;have h5:=hx.tw.five;have u1:=o1.upX hx.up h5;have u2:=o2.upX hx.up h5;have w1:=wB n1;have w2:=wB n2;have e1:h.a.1=sX o.1:=by rw[ea]
 have e2:h.a.2=sX o.2:=by rw[ea]
 have z:=M7 (ts:=m.ts) (u:=a7 h.c h.p) (p:=h.p) (w:=DT m.ts h x) (o:=D6 m.ts h) (e:=13*a+2*b+5*K+2*K'+I+J+20+a+1) (f:=a) (fS.sub sJ) sJ h0
  (by unfold DT;rw[e1];exact w1.sub u1) (by unfold DT;rw[e2];exact w2.sub u2) (by unfold D6;rw[e1];exact u1) (by unfold D6;rw[e2];exact u2)
 exact Ht (a:=a) (b:=b) z (by show _<=a+4*(14*a+3*b+5*K+3*K'+I+J+25)+26*s+18;omega) (by show _<=a+4*(14*a+3*b+5*K+3*K'+I+J+25)+26*s+18;omega)
theorem abi{s:Nat}{us:LL}(hx:Xz ts r X us){R:Rp}{q:List Rat}(hv:Sm (2*s+1) R.v)(hp:Sm s R.p)(h0:dm R.v R.v≠0)(hq:Bz 1 (dE us q))(w1:Bz (2*a+1) (dE us R.w.1))(w2:Bz (2*a+1) (dE us R.w.2))(hh:Bz b (dE us R.h))
  (hd:Bz J (iE (dE us R.d))) (a1:Bz a (dE us R.a.1)) (a2:Bz a (dE us R.a.2)):Pq.ok us.length (oZ s a b K K' I J) (IC us R q):=by
 have _:=tw;have iQ:=Z.kx hx.ln;have x1:=(((hq.mul hx.tw iQ w1).sub (hh.mul hx.tw iQ w2.neg)).mul hx.tw iQ hd)
 have x2:=(((hq.mul hx.tw iQ w2).sub (hh.mul hx.tw iQ w1)).mul hx.tw iQ hd)
 have z:=M7 (ts:=us) (u:=R.v) (p:=R.p) (w:=K7 us q R.h R.d R.w) (o:=(dE us R.a.1,dE us R.a.2)) (e:=wZ a b K K' I J) (f:=a) hv hp h0
  (x1.mono (by show _<=14*a+3*b+5*K+3*K'+I+J+25;omega)) (x2.mono (by show _<=14*a+3*b+5*K+3*K'+I+J+25;omega)) a1 a2
 exact Ht (a:=a) (b:=b) z (by show _<=a+4*(14*a+3*b+5*K+3*K'+I+J+25)+26*s+18;simp only[wZ];omega) (by show _<=a+4*(14*a+3*b+5*K+3*K'+I+J+25)+26*s+18;simp only[wZ];omega)
end
section
variable{s r b X K K' I J E:Nat}{l:Li}{a:As}(D:DyR l a)(hn:(llq a.rs).length<=1)(bU:Cs s l)(tw:Tw (llq a.rs) r)
  (Z:Szs (llq a.rs).length r (3*E+2*s+2*K+10) b X K K' I J) (hb:8*s+5<=b)
include D hn bU tw Z hb
theorem Xv{g:Gr}{i k z0 z1 z2:Int}{j0 j1 j2:Jt}(P:RrrP E l a g i k z0 z1 z2 j0 j1 j2) :
  ∀sv∈Gv l a i k j0 j1 j2,Xz (llq a.rs) r X sv.ts/\∀p∈sv.ps,Pq.ok sv.ts.length (oZ s (3*E+2*s+2*K+10) b K K' I J) p:=by
 have _:=hn;have kD:=ul D.hl D.li bU P.h0 P.p0.or;have lE:=ul D.hl D.li bU P.h1 P.p1.or;have lC:=ul D.hl D.li bU P.h2 P.t1;have xm:=ul D.hl D.li bU P.h2 P.t2;obtain⟨y1,y2⟩:=yI D.hl D.li bU D.al D.hc tw Z.hK P.h0 P.p0;obtain⟨y3,y4⟩:=yI D.hl D.li bU D.al D.hc tw Z.hK P.h1 P.p1;have z1:Bz b (qE (da (aH l j2 i) (aH l j0 i)):Et (llq a.rs)):=Bz.q tw.five ((HE lC kD).mono hb);have z2:Bz b (qE (da (aH l j2 k) (aH l j1 k)):Et (llq a.rs)):=Bz.q tw.five ((HE xm lE).mono hb);unfold Gv
 by_cases h1:r6 [a7 (aH l j2 i) (aH l j0 i),a7 (aH l j2 k) (aH l j1 k)]=true
 ·rw[ate h1];intro sv h;cases h
 ·rw[atd h1];obtain⟨w1,w2⟩:=amm (ara.2 h1)
  by_cases h2:B5 (aN l a j0 i) (aN l a j1 k) (qE (da (aH l j2 i) (aH l j0 i))) (qE (da (aH l j2 k) (aH l j1 k)))≠0
  ·rw[ate h2];intro sv h;cases h
  ·rw[atd h2];obtain⟨hx,hm⟩:=aad Z tw y1 y2 y3 y4 z1 z2 (ar0.1 h2);exact KC Z tw hx hm (HC ⟨kD,lC,w1,_,rfl,y1,y2⟩ ⟨lE,xm,w2,_,rfl,y3,y4⟩)
theorem agf{g:Gr}{i z0 z1:Int}{j0 j:Jt}(P:SlP E l a g 2 i z0 z1 j0 j)(ha:j.a=i)(dq:Pd E a j.b) :
  ∀sv∈Jk l a i j0 j,Xz (llq a.rs) r X sv.ts/\∀p∈sv.ps,Pq.ok sv.ts.length (oZ s (3*E+2*s+2*K+10) b K K' I J) p:=by
 have _:=hn;obtain⟨i1,i2,i3,i4,i5⟩:=cJ D.li P.h1;have lC:Sm s (az l i j.point):=by rw[<- ha];exact x4 D.hl D.li bU i1 i3
 have kD:=ul D.hl D.li bU P.h0 P.p0.or;obtain⟨y1,y2⟩:=yI D.hl D.li bU D.al D.hc tw Z.hK P.h0 P.p0;obtain⟨y3,y4⟩:=zm D.hl D.li bU D.al D.hc tw Z.hK i2 i4 dq;obtain⟨y5,y6⟩:=zm D.hl D.li bU D.al D.hc tw Z.hK i2 (i5 P.hk) dq;have z1:Bz b (qE (da (az l i j.point) (aH l j0 i)):Et (llq a.rs)):=Bz.q tw.five ((HE lC kD).mono hb);unfold Jk
 by_cases h1:r6 [a7 (az l i j.point) (aH l j0 i)]=true
 ·rw[ate h1];intro sv h;cases h
 ·rw[atd h1];have w1:=aat (ara.2 h1)
  by_cases h2:DC (aC l a j.b j.on) (aC l a j.b j.to)≠0
  ·rw[ate h2];intro sv h;cases h
  ·rw[atd h2];obtain⟨hx,hm⟩:=ak7 Z tw y3 y4 y5 y6 y1 y2 z1 (ar0.1 h2);exact KC Z tw hx hm (xS ⟨kD,lC,w1,_,rfl,y1,y2⟩)
theorem aic{g:Gr}{i z0 z1:Int}{j0 j:Jt}(P:SlP E l a g 3 i z0 z1 j0 j)(hj:j.b=i)(dq:Pd E a j.a) :
  ∀sv∈F9 l a i j0 j,Xz (llq a.rs) r X sv.ts/\∀p∈sv.ps,Pq.ok sv.ts.length (oZ s (3*E+2*s+2*K+10) b K K' I J) p:=by
 obtain⟨i1,i2,i3,i4,i5⟩:=cJ D.li P.h1;have gO:=ul D.hl D.li bU P.h0 P.p0.or;have fL:Sm s (az l i j.on):=by rw[<- hj];exact x4 D.hl D.li bU i2 i4
 have xl:Sm s (az l i j.to):=by rw[<- hj];exact x4 D.hl D.li bU i2 (i5 P.hk)
 have hv:Sm (2*s+1) (pN l i j):=(xl.sub fL).mono oz;have qn:Cb b [kL l i j]:=(Cb.one (hv.dot hv)).mono oz;have qh:Cb b [ep l i j0 j]:=(Cb.one (hv.cross (fL.sub gO))).mono oz;obtain⟨o1,o2⟩:=yI D.hl D.li bU D.al D.hc tw Z.hK P.h0 P.p0;obtain⟨p1,p2⟩:=zm D.hl D.li bU D.al D.hc tw Z.hK i1 i3 dq;have w1:Bz (2*(3*E+2*s+2*K+10)+1) (d6 l a i j0 j).1:=Bz.mono (p1.sub o1) oz;have w2:Bz (2*(3*E+2*s+2*K+10)+1) (d6 l a i j0 j).2:=Bz.mono (p2.sub o2) oz;have hd:Bz (8*(3*E+2*s+2*K+10)+2*K+8) (fU l a i j0 j):=Bz.mono (HN Z tw (p:=aN l a j0 i) (q:=aC l a j.a j.point) o1 o2 p1 p2) oz;have hX:Bz X (lR l a i j0 j):=Bz.mono ((hd.qm qn).sub ((Bz.q tw.five qh).qm qh)) (by have:=Z.hX;omega);have h0:=XQ D.li P.h1 P.hk hj;unfold F9
 by_cases h1:be (fU l a i j0 j)=0/\be (qE (ep l i j0 j):Et (llq a.rs))=0
 ·rw[ate h1];intro sv h;cases h
 ·rw[atd h1]
  by_cases h2:be (lR l a i j0 j)<0
  ·rw[ate h2];intro sv h;cases h
  ·rw[atd h2];have qM:be (fU l a i j0 j)≠0:=aaq tw h2 h1
   have key:∀us,Xz (llq a.rs) r X us->Bz J (iE (dE us (sX (fU l a i j0 j))))->∀q,Bz 1 (dE us q)->Pq.ok us.length (oZ s (3*E+2*s+2*K+10) b K K' I J) (IC us (BQ l a i j0 j) q):=by
    intro us hx hi q hq;have h5:=hx.tw.five
    have hh:Bz b (dE us (sh 0 (ep l i j0 j:Rat))):=by
     have e:dE us (sh 0 (ep l i j0 j:Rat))=qE (ep l i j0 j):=nF _ _;rw[e];exact Bz.q h5 qh
    exact abi Z tw hx (R:=BQ l a i j0 j) hv gO h0 hq (w1.upX hx.up h5) (w2.upX hx.up h5) hh hi (o1.upX hx.up h5) (o2.upX hx.up h5)
   by_cases h3:0<be (lR l a i j0 j)
   ·rw [ate h3];have hx:=Cr tw hn Z.hL hX oz;have hi:=Fb Z tw hX (by omega:0 <= be (lR l a i j0 j)) hd qM;have rt:=Fh Z tw (x:=lR l a i j0 j);have k:=key _ hx hi;intro sv h;unfold B9 at h;obtain ⟨n,m9,rfl⟩:=aqd.1 h;refine ⟨hx,fun p hp=>?_⟩;unfold H6 at hp;rw [aqf.1 hp]
    match n,apt.1 m9 with
    |0,_=>exact k _ rt
    |1,_ =>
     refine k _ ?_;show Bz 1 (dE _ (sX (-wg (lR l a i j0 j))));have e:dE (cQ (llq a.rs) (sX (lR l a i j0 j))) (sX (-wg (lR l a i j0 j)))=-wg (lR l a i j0 j):=di _ _;rw[e];exact rt.neg
   ·rw[atd h3];have hx:=Ii (X:=X) tw Z.hL;have e:dE (llq a.rs) (sX (fU l a i j0 j))=fU l a i j0 j:=di _ _
    have hi:Bz J (iE (dE (llq a.rs) (sX (fU l a i j0 j)))):=by
     rw[e];exact(F4 Z tw hd qM).mono Z.ij
    have k:=key _ hx hi;intro sv h;unfold B9 at h;obtain⟨n,m9,rfl⟩:=aqd.1 h;refine⟨hx,fun p hp=>?_⟩;unfold H6 at hp;rw[aqf.1 hp]
    match n,apt.1 m9 with
    |0,_=>exact k _ (wB ⟨tw.five,.inl rfl,⟨1,0,⟨by decide,fun q h=>by cases h⟩,by decide,by decide⟩⟩)
end
theorem WF{l:Li}{kw:List Bool}{g:Gr}(h:dK l kw=some g):∀x∈g.bo,gg l kw x=true:=by
 unfold dK at h;rw[ar6]at h;obtain⟨i,hi,h⟩:=h;obtain⟨h1,h2⟩:=gL hi;split at h
 ·rename_i k hk;subst h;unfold jw at hk;rw [ar6] at hk;obtain ⟨k',hk',rfl⟩:=hk;obtain ⟨h3,h4⟩:=gL hk';rw [show i + 1 + k' = k' + (i + 1) by omega] at h4;unfold d9 at h4;simp only [arb,ar5,atf] at h4;obtain ⟨⟨f1,f2⟩,_⟩:=h4;intro x hx;simp only [jz,asj,asf,or_false] at hx;rcases hx with rfl | rfl
  ·exact f1
  ·exact f2
 ·rename_i hk;rw[hk]at h2;cases h2
theorem ah9{l:Li}{kw:List Bool}{g:Gr}(h:fw l kw=some g):∀x∈g.bo,gg l kw x=true:=by
 unfold fw at h;rw[ar6]at h;obtain⟨i,hi,rfl⟩:=h;obtain⟨h1,h2⟩:=gL hi;unfold ip at h2;simp only[arb,ar5,atf]at h2;intro x hx;simp only[jR,asj,asf,or_false]at hx;subst hx;exact h2.1
structure Aq where
  ts:LL
  bs:List Pq
  ms:List Int
instance:Inhabited Pq:=⟨⟨[],[],[],[]⟩⟩
instance:Inhabited Aq:=⟨⟨[],[],[]⟩⟩
def Pq.pl(p:Pq):Pl:=⟨p.c.map rt,p.s.map rt,p.x.map rt,p.y.map rt⟩
def Aq.as(a:Aq):As:=⟨a.ts.map (List.map rt),a.bs.map Pq.pl,a.ms⟩
theorem Pq.pl_av(p:Pq):p.pl.av=p.av:=by unfold Pl.av Pq.av Pq.pl;rw[iV,iV,iV,iV]
abbrev Aq.cs(a:Aq):List AV:=[.lst 1 (a.ts.map nA),.lst 4 (a.bs.map Pq.av),.lst 1 (a.ms.map i64)]
abbrev Aq.av(a:Aq):AV:=.agg a.cs
theorem Aq.as_av(a:Aq):a.as.av=a.av:=by
 unfold As.av Aq.as Aq.av Aq.cs;rw[map_map,map_map];congr 3
 ·exact apk (fun x _=>iV x)
 ·congr 1;exact apk (fun x _=>Pq.pl_av x)
theorem Aq.llq(a:Aq):Lw.llq a.as.rs=a.ts:=yD _
def Bi(bs:List Pq)(is:List Int)(ps:List Pq):List Pq:=(is.zip ps).foldl (fun k x=>k.set x.1.toNat x.2) bs
def Aq.nxt(a:Aq)(g:Gr)(s:Sv):Aq:=⟨s.ts,Bi a.bs g.bo s.ps,a.ms++[s.mode]⟩
def ke:Pq:=⟨[],[],[],[]⟩
def nZ:Pq:=⟨[1],[],[],[]⟩
def bi(l:Li):Aq:=⟨[],(apf l.bo.length ke).set 0 nZ,[]⟩
def zf:Tn:=⟨⟨false,[],[]⟩,false⟩
def pZ(g:Gr)(xs:List Tn):Tn:=if g.kind=0 then xs.getD g.driver.toNat zf else zf
theorem Ml:∀(zs:List (Int×Pq))(bs:List Pq),(zs.foldl (fun k x=>k.set x.1.toNat x.2) bs).length=bs.length
 |[],bs=>rfl
 |z::zs,bs=>by rw[List.foldl_cons,Ml zs,as9]
theorem Nk:∀(zs:List (Int×Pq))(bs:List Pq)(p:Pq),p∈zs.foldl (fun k x=>k.set x.1.toNat x.2) bs->p∈bs\/∃z∈zs,z.2=p
 |[],bs,p,h=>.inl h
 |z::zs,bs,p,h=>by
  rw[List.foldl_cons]at h;rcases Nk zs _ p h with h |⟨z',hz,e⟩
  ·rcases apo h with h |h
   ·exact .inl h
   ·exact .inr ⟨z,as2,h.symm⟩
  ·exact .inr ⟨z',ass _ hz,e⟩
theorem LB(bs:List Pq)(is:List Int)(ps:List Pq):(Bi bs is ps).length=bs.length:=Ml _ _
theorem OB{bs:List Pq}{is:List Int}{ps:List Pq}{p:Pq}(h:p∈Bi bs is ps):p∈bs\/p∈ps:=by
 rcases Nk _ _ _ h with h |⟨z,hz,e⟩
 ·exact .inl h
 ·exact .inr (e▸(List.of_mem_zip hz).2)
def pf(s j r E:Nat):Nat:=3*E+2*s+2*eB r j+10
def ns(s j r E:Nat):Nat:=24*pf s j r E+8*eB r j+5*(8*s+5)+23
def Mc(s j r E:Nat):Nat:=iB r j (8*pf s j r E+2*eB r j+8)
def DV(s j r E:Nat):Nat:=iB (r+ns s j r E) j (8*pf s j r E+2*eB r j+8)
def x9(s j r E:Nat):Nat:=oZ s (pf s j r E) (8*s+5) (eB r j) (eB (r+ns s j r E) (j+1)) (Mc s j r E) (DV s j r E)
def p8(s g j r E:Nat):Nat:=pf s j r E+2*g+2*s+4
def eZ(g:Nat):Nat:=if g<=134 then 3200000000 else 10200000000
def rZ(g:Nat):Nat:=if g<=134 then 60000000 else 170000000
def kT(s g:Nat):Nat->Nat->Nat->Nat->Nat->Bool
  |0,_,j,r,E=>decide (E<=eZ g/\r<=rZ g/\j<=2)
  |n+1,y,j,r,E=>decide (E<=eZ g/\r<=rZ g/\j<=2)&&(kT s g n y j r (p8 s g j r E) &&
      (decide (y=0)||(decide (j<=1/\E<=3900000/\r<=132000/\r+ns s j r E<=5000000000/\DV s j r E<=50000000000)&&kT s g n (y-1) (j+1) (r+ns s j r E) (x9 s j r E))))
theorem Qw:kT 32 134 3 1 0 0 2=true:=by decide +kernel
theorem adz{s g n y j r E:Nat}(h:kT s g n y j r E=true):E<=eZ g/\r<=rZ g/\j<=2:=by
 cases n with
 |zero=>exact atg h
 |succ n =>
  unfold kT at h;simp only[ar5,atf]at h;exact⟨h.1.1,h.1.2.1,h.1.2.2⟩
theorem Vk{s g n y j r E:Nat}(h:kT s g n y j r E=true):E<=10200000000/\r<=400000000/\j<=2:=by
 have h:=adz h;unfold eZ rZ at h;split at h <;> omega
theorem O0{s g n y j r E:Nat}(h:kT s g (n+1) y j r E=true):(E<=20000000000/\r<=400000000/\j<=2)/\kT s g n y j r (p8 s g j r E)=true:=by
 have h3:=Vk h;unfold kT at h;simp only[ar5,atf]at h;exact⟨by omega,h.2.1⟩
theorem PX{s g n y j r E:Nat}(h:kT s g (n+1) (y+1) j r E=true):(j<=1/\E<=3900000/\r<=132000/\r+ns s j r E<=5000000000/\DV s j r E<=50000000000)/\kT s g n y (j+1) (r+ns s j r E) (x9 s j r E)=true:=by
 unfold kT at h;simp only[ar5,ata,atf,aod]at h;rcases h.2.2 with h1 |h1
 ·omega
 ·exact h1
structure QInv(l:Li)(j r E:Nat)(a:Aq):Prop where
  tw:Tw a.ts r
  lv:a.ts.length<=j
  bs:∀p∈a.bs,Pq.ok a.ts.length E p
  ln:a.bs.length=l.bo.length
theorem Pq.ok.up{n n' e e':Nat}{p:Pq}(h:Pq.ok n e p)(hn:n<=n')(h5:n'<=5)(he:e<=e'):Pq.ok n' e' p :=
 ⟨⟨h5,h.c.nl.mono hn,h.c.cb.mono he⟩,⟨h5,h.s.nl.mono hn,h.s.cb.mono he⟩,⟨h5,h.x.nl.mono hn,h.x.cb.mono he⟩,⟨h5,h.y.nl.mono hn,h.y.cb.mono he⟩⟩
theorem Pq.ok.lv{n m e:Nat}{p:Pq}(h:Pq.ok n e p)(hn:n=m):Pq.ok m e p:=hn▸h
theorem AK{r r':Nat}(h:r<=r'):∀j,eB r j<=eB r' j
 |0=>ar8 _
 |j+1=>by have:=AK h j;simp only[eB];omega
theorem Sc{r r':Nat}(h:r<=r'):∀j e,iB r j e<=iB r' j e
 |0,e=>ar8 _
 |j+1,e=>by
  have h1:=AK h j;have h2:=AK h (j+1);have h3:=Sc h j (4*e+3*eB r j+r+1);have h4:=A8 r' j (e:=4*e+3*eB r j+r+1) (f:=4*e+3*eB r' j+r'+1) oz;simp only[iB];omega
theorem Bk:Pq.ok 0 2 ke:=by
 have h:Nm 0 2 []:=⟨by omega,.inl rfl,⟨1,0,⟨by decide,fun q h=>by cases h⟩,by decide,by decide⟩⟩
 exact⟨h,h,h,h⟩
theorem WN:Pq.ok 0 2 nZ:=by
 have h:Nm 0 2 [1]:=⟨by omega,.inr ⟨0,ar8 _,rfl⟩,Cb.mono (Cb.int (z:=1) (e:=1) (by decide)) oz⟩
 exact⟨h,Bk.c,Bk.c,Bk.c⟩
theorem Iv:Tw [] 0:=⟨by decide,(fun j h=>by cases h),(fun j h=>by cases h),⟨1,1,by decide,(fun d h=>by cases h),by decide,by decide⟩,by omega⟩
theorem Jj(l:Li):QInv l 0 0 2 (bi l):=by
 refine⟨Iv,ar8 _,fun p hp=>?_,by simp[bi]⟩;rcases apo hp with h |h
 ·rw[(List.mem_replicate.1 h).2];exact Bk
 ·rw[h];exact WN
theorem Pq.ok.nr{n e:Nat}{p:Pq}(h:Pq.ok n e p)(he:e<=lm n):∀x∈p.pl.l,NR x e:=by
 intro x hx;simp only[Pl.l,Pq.pl,asj,asf,or_false]at hx;rcases hx with rfl |rfl |rfl |rfl
 ·exact h.c.rt he
 ·exact h.s.rt he
 ·exact h.x.rt he
 ·exact h.y.rt he
theorem Pq.ok.num{n e:Nat}{p:Pq}(h:Pq.ok n e p):∀x∈p.pl.l,cW n x=0:=by
 intro x hx;simp only[Pl.l,Pq.pl,asj,asf,or_false]at hx;rcases hx with rfl |rfl |rfl |rfl
 ·exact vf h.c.nl
 ·exact vf h.s.nl
 ·exact vf h.x.nl
 ·exact vf h.y.nl
section
variable{l:Li}{j r E:Nat}{a:Aq}(Q:QInv l j r E a)
include Q
theorem QInv.chk:bp a.as.rs=0:=Q.tw.chk
theorem QInv.mem{p:Pl}(h:p∈a.as.bs):∃q∈a.bs,q.pl=p:=by have _:=Q;exact aqd.1 h
theorem QInv.nr(hE:E<=50000000000){p:Pl}(h:p∈a.as.bs):∀x∈p.l,NR x E:=by
 obtain⟨q,hq,rfl⟩:=Q.mem h;exact(Q.bs q hq).nr (asv hE (pE _))
theorem QInv.ab(hl:ax l=0)(hE:E<=50000000000)(hr:r<=400000000):AB a.as:=by
 refine⟨Q.tw.tr.mono hr oz,fun p hp x hx=>(Q.nr hE hp x hx).mono hE,?_,?_⟩
 ·show(a.ts.map _).length<=8;rw[ar3];have:=Q.tw.three;omega
 ·show(a.bs.map _).length<=30;rw[ar3,Q.ln];have:=(f8 hl).2.2.2.1;omega
theorem QInv.sma(hE:E<=50000000000){F:Nat}(hF:E<=F)(k:Int)(own:Bool):FB F l k a.as own :=
 fun b _ _ p hp x hx=>(Q.nr hE (ar1 hp) x hx).mono hF
theorem QInv.nd(hl:ax l=0){g:Gr}(hg:GrOk l g){own:Bool}:∀b∈dp l g own,jA a.as b=0:=by
 intro b hb;unfold jA;split
 ·rfl
 ·have h1:=AP hl hg b hb;obtain ⟨p,hp⟩:=aJ (l:=a.bs) (i:=b.toNat) (by rw [Q.ln]; omega);have e:a.as.bs[b.toNat]? = some p.pl:=by show (a.bs.map Pq.pl)[b.toNat]? = _; rw [asa,hp]; rfl
  rw[aS e];unfold cr;rw[atd (by rw[Q.chk];simp)];have e2:a.as.rs.length=a.ts.length:=ar3 _;rw[e2];exact DH (fun x hx=>(Q.bs p (ar1 hp)).num x hx)
theorem QInv.dy0(hl:ax l=0)(hs:bS l=0){k:Nat}{g:Gr}(hg:(ay l)[k]?=some g)(own:Bool):iT l k a.as own=0:=by
 have hk:=(ap9.1 hg).1;obtain⟨_,ho⟩:=kF hl (ar1 hg);have sL:nD l (k:Nat)=g:=aS hg;rw[uO hl,M9 hs oz (by show(a.bs.map _).length=_;rw[ar3,Q.ln]) Q.chk,sL];exact DH (fun b hb=>Q.nd hl ho b (AG.1 hb))
end
structure WkC(l:Li)(xs:List Tn)(s g:Nat):Prop where
  hl:l.ok
  li:ax l=0
  sp:bS l=0
  cs:Cs s l
  ln:xs.length=l.drivers.length
  ok:∀x∈xs,x.t.ok/\x.err=0/\Qb 1000 x.t.q/\Cb g [ce x.half x.t.q]/\Cb g [b8 x.half x.t.q]
theorem afb{l:Li}{g:Gr}(h:DyK l g)(hk:g.kind=0):0<=g.driver/\g.driver<l.drivers.length:=by
 cases h with
 | @drv b z d _ _ t d0 hd hb=>have:=(ap9.1 hd).1;exact⟨d0,by show d<_;omega⟩
 |rrr=>exact atk hk (by simp)
 |pr=>exact atk hk (by simp)
 |rp=>exact atk hk (by simp)
theorem VG:zf.t.ok:=⟨(fun x h=>by cases h),(fun x h=>by cases h),ase _,ase _⟩
theorem Xx:Qb 1000 zf.t.q:=by
 have e:zf.t.q=0:=by decide +kernel
 rw[e];exact Qb.zero.mono oz
section
variable{l:Li}{xs:List Tn}{s g:Nat}(W:WkC l xs s g){k:Nat}{gr:Gr}(hg:(ay l)[k]?=some gr)
include W hg
theorem WkC.grp:DyK l gr/\GrOk l gr:=kF W.li (ar1 hg)
theorem WkC.tn:(pZ gr xs).t.ok/\Qb 1000 (pZ gr xs).t.q/\(gr.kind=0->∃x∈xs,pZ gr xs=x):=by
 unfold pZ
 by_cases hk:gr.kind=0
 ·rw[ate hk];have h:=afb (W.grp hg).1 hk;obtain⟨x,hx⟩:=aJ (l:=xs) (i:=gr.driver.toNat) (by rw[W.ln];omega);rw[aS hx];have hm:=ar1 hx;exact⟨(W.ok x hm).1,(W.ok x hm).2.2.1,fun _=>⟨x,hm,rfl⟩⟩
 ·rw[atd hk];exact⟨VG,Xx,fun h=>atk h hk⟩
variable{j r E:Nat}{a:Aq}(Q:QInv l j r E a)
include Q
theorem QInv.dyOk{F:Nat}(hE:E<=50000000000)(hF:E<=F):DyOk F l k a.as false k gr:=by
 obtain⟨i,g',h⟩:=NF (Q.sma hE hF k false) (Q.dy0 W.li W.sp hg false);have e:i=k:=by have:=h.hk;omega
 subst e;have:=h.hg;rw[hg]at this;cases this;exact h
theorem QInv.dyS(hr:r<=132000)(hj:j<=1):DyT a.as:=by have _:=W;have _:=hg;exact WH (Q.tw.tr.mono hr oz) (fun _=>by rw[a.llq];exact asv Q.lv hj)
theorem QInv.dyW(hE:E<=50000000000)(hr:r<=400000000):DyW l a.as:=by have _:=hg;exact⟨W.hl,W.li,Q.ab W.li hE hr,Q.chk⟩
theorem QInv.twl:Tw (Lw.llq a.as.rs) r:=by have _:=W;have _:=hg;rw[a.llq];exact Q.tw
theorem QInv.drv{n y:Nat}(ok:kT s g (n+1) y j r E=true)(hk:gr.kind=0):∀sv∈w6 l a.as gr (pZ gr xs),QInv l j r (p8 s g j r E) (a.nxt gr sv):=by
 obtain⟨⟨hE,hr,hj⟩,_⟩:=O0 ok;have D:=QInv.dyW W hg Q oz hr;have O:=QInv.dyOk W hg Q (F:=E) oz (ar8 _);obtain⟨i,z0,d,j0,e,j5,p0⟩:=N4 O hk;obtain⟨_,_,hx⟩:=W.tn hg;obtain⟨x,hx,ex⟩:=hx hk;obtain⟨_,he,_,hc,hs⟩:=W.ok x hx;have cm:(Lw.llq a.as.rs).length=a.ts.length:=by rw[a.llq]
 have tw:=QInv.twl W hg Q;have kD:=ul W.hl W.li W.cs j5 p0.or;have hK:eB r (Lw.llq a.as.rs).length<=eB r j:=o8 r (by rw[cm];exact Q.lv);obtain⟨o1,o2⟩:=yI W.hl W.li W.cs D.al D.hc tw hK j5 p0;rw[ex];unfold w6;rw[ate hk,e];show ∀sv∈Bu l a.as i (l.jo.getD z0.toNat default) x,_;rw[aS j5];unfold Bu;rw[atd oz];have hp:=ahp (ts:=Lw.llq a.as.rs) (p:=aH l j0 i) (o:=aN l a.as j0 i) hc hs kD tw.five o1 o2
 have lD:Pq.ok a.ts.length (p8 s g j r E) (tk l a.as i j0 x):=by
  have:=Ht (a:=0) (b:=0) hp (e:=p8 s g j r E) (by unfold p8 pf;omega) (by unfold p8 pf;omega);exact Pq.ok.lv this cm
 refine xS ⟨?_,?_,?_,?_⟩
 ·exact tw
 ·show(Lw.llq a.as.rs).length<=j;rw[cm];exact Q.lv
 ·intro p Kf;show Pq.ok (Lw.llq a.as.rs).length _ p;rw[cm];rcases OB Kf with h |h
  ·exact(Q.bs p h).up (ar8 _) Q.tw.five (by unfold p8 pf;omega)
  ·rw[aqf.1 h];exact lD
 ·exact(LB _ _ _).trans Q.ln
theorem QInv.dy{n y:Nat}(ok:kT s g (n+1) (y+1) j r E=true)(hk:gr.kind≠0):∀sv∈w6 l a.as gr (pZ gr xs),QInv l (j+1) (r+ns s j r E) (x9 s j r E) (a.nxt gr sv):=by
 obtain⟨⟨hj,hE,hr,hX,hJ⟩,_⟩:=PX ok;have D:DyR l a.as:=⟨QInv.dyW W hg Q oz oz,(QInv.dyS W hg Q hr hj).toDyS⟩
 have O:=QInv.dyOk W hg Q (F:=E) oz (ar8 _);have cm:(Lw.llq a.as.rs).length=a.ts.length:=by rw[a.llq]
 have Kg:(Lw.llq a.as.rs).length<=j:=by rw[cm];exact Q.lv
 have tw:=QInv.twl W hg Q
 have Z:Szs (Lw.llq a.as.rs).length r (3*E+2*s+2*eB r j+10) (8*s+5) (ns s j r E) (eB r j) (eB (r+ns s j r E) (j+1)) (Mc s j r E) (DV s j r E):=by
  refine⟨by omega,o8 r Kg,?_,hX,o8 _ oz,?_,?_,hJ,?_,?_⟩
  ·unfold ns pf;omega
  ·exact GQ r _ Kg
  ·exact GQ _ _ Kg
  ·exact asv (o8 r oz) (AK oz _)
  ·exact Sc oz _ _
 have hn:(Lw.llq a.as.rs).length<=1:=by omega
 have key:∀sv∈w6 l a.as gr (pZ gr xs),Xz (Lw.llq a.as.rs) r (ns s j r E) sv.ts/\∀p∈sv.ps,Pq.ok sv.ts.length (x9 s j r E) p:=by
  unfold w6;rw[atd hk]
  by_cases iA:gr.kind=1
  ·obtain⟨i,k2,z0,z1,z2,j0,j1,j2,P⟩:=O.rrr iA;obtain⟨e0,e1,e2,b0,b1,_⟩:=P.at;rw[ate iA,e0,e1,e2,b0,b1];exact Xv D hn W.cs tw Z (ar8 _) P
  ·rw[atd iA]
   by_cases cg:gr.kind=2
   ·obtain⟨i,z0,z1,j0,j,P,ha,hb⟩:=O.pr cg;obtain⟨e0,e1,b0,_⟩:=P.at;rw[ate cg,e0,e1,b0];exact agf D hn W.cs tw Z (ar8 _) P ha hb
   ·obtain⟨i,z0,z1,j0,j,P,_,hj,hb⟩:=O.rp hk iA cg;obtain⟨e0,e1,b0,pw⟩:=P.at;rw[atd cg,e0,e1,b0];exact aic D hn W.cs tw Z (ar8 _) P hj hb
 intro sv hsv;obtain⟨hx,hp⟩:=key sv hsv;have h5:=hx.tw.five;have EC:=hx.up;have jZ:=hx.ln;rw[cm]at EC jZ;refine⟨hx.tw,?_,?_,?_⟩
 ·show sv.ts.length<=j+1;have:=Q.lv;omega
 ·intro p Kf;rcases OB Kf with h |h
  ·exact(Q.bs p h).up EC h5 (by unfold x9 oZ wZ pf;omega)
  ·exact hp p h
 ·exact(LB _ _ _).trans Q.ln
end
structure Po(e:Nat)(p:List Rat):Prop where
  td:dV p
  len:p.length<=30
  b:Pb e p
theorem Po.mono{e f:Nat}{p:List Rat}(h:Po e p)(hf:e<=f):Po f p:=⟨h.td,h.len,h.b.mono hf⟩
theorem Po.qs{e:Nat}{p:List Rat}(h:Po e p)(he:e<=1000000000000){c:Rat}(hc:c∈p):Qs c:=(h.b c hc).qs oz
theorem Gn:∀{p:List Rat},dV p->0<p.length->∃c,p[p.length-1]?=some c/\c≠0
 |[],_,h=>by simp at h
 |[c],hp,_=>⟨c,rfl,hp.ne rfl⟩
 |c::d::p,hp,_=>by
  obtain⟨x,hx,h0⟩:=Gn hp.tail (by simp);exact⟨x,hx,h0⟩
theorem tE:∀p:List Rat,ptr p=p.take (ptr p).length
 |[]=>rfl
 |c::p=>by
  have ih:=tE p;unfold ptr;split
  ·rfl
  ·show c::ptr p=c::p.take (ptr p).length;rw[<- ih]
theorem Mq:∀{p:List Rat}{n:Nat},ptr (p.take n)=ptr p->(∃c,p[n-1]?=some c/\c≠0)->n<=p.length->0<n->n=(ptr p).length:=by
 intro p n h hc hn h0;obtain⟨c,hc,aO⟩:=hc
 have h1:dV (p.take n):=by
  have key:∀(l:List Rat)(c:Rat),l[l.length-1]?=some c->c≠0->dV l:=by
   intro l
   induction l with
   |nil=>intro c h;simp at h
   |cons d l ih =>
    intro c h aO;cases l with
    |nil =>
     simp at h;subst h;exact yU rfl (fun _=>aO)
    |cons d2 l =>
     refine yU (ih c (by simpa using h) aO) (fun e=>by cases e)
  refine key _ c ?_ aO;rw[aso,aon hn,asy,ate oz];exact hc
 rw[h1]at h;have h2:=atl List.length h;rw[aso]at h2;omega
theorem HG{p:List Rat}{n:Nat}(h:ptr (p.take (n+1))=ptr p)(hc:p[n]?=some 0):ptr (p.take n)=ptr p:=by
 rw[<- h];refine pH (eH _) (eH _) (fun t=>?_);rw[jm,jm]
 have key:∀(l:List Rat)(n:Nat),l[n]?=some 0->aq (l.take n) t=aq (l.take (n+1)) t:=by
  intro l
  induction l with
  |nil=>intro n h;simp at h
  |cons d l ih =>
   intro n h;cases n with
   |zero =>
    simp at h;subst h;show(0:Rat)=0+t*0;grind
   |succ n =>
    show d+t*aq (l.take n) t=d+t*aq (l.take (n+1)) t;rw[ih n (by simpa using h)]
 exact key p n hc
theorem BM(t:Rat)(i:Nat):∀k,t^(i+k)=t^i*t^k
 |0=>by rw[aoy,Rat.pow_zero];grind
 |k+1=>by rw[<- ao0,Rat.pow_succ,Rat.pow_succ,BM t i k];grind
theorem adv(n:Nat):BlkSub (.row 3 (apf n (.agg [.v (.bool false),nS,nS]))) (.row 3 ((apf n (0:Rat)).map qA)):=by
 refine .row (by simp) ?_;intro i e e' he he';rw[as5,ast]at he';rw[ast]at he;split at he
 ·rename_i h;rw[ate h]at he';cases he;cases he'
  refine⟨rfl,?_⟩;intro j x y hx hy
  match j,hx,hy with
  |0,hx,hy=>cases hx;cases hy;exact⟨rfl,.refl _⟩
  |1,hx,hy=>cases hx;cases hy;exact⟨rfl,.nil _ _ _⟩
  |2,hx,hy=>cases hx;cases hy;exact⟨rfl,.nil _ _ _⟩
 ·cases he
theorem Df{n:Nat}{l:List Rat}(h:l=apf n 0):BlkSub (.row 3 (apf n (.agg [.v (.bool false),nS,nS]))) (.row 3 (l.map qA)):=by rw[h];exact adv n
def kH(l:List Rat)(i:Nat):List Rat:=l.take i++apf (l.length-i) 0
theorem ah1(l:List Rat):kH l 0=apf l.length 0:=by unfold kH;simp
theorem ad8{l:List Rat}{i:Nat}(h:i<=l.length):(kH l i).length=l.length:=by unfold kH;simp;omega
theorem ahd(l:List Rat):kH l l.length=l:=by unfold kH;simp
theorem aaz{l:List Rat}{i:Nat}{x:Rat}(hx:l[i]?=some x):(kH l i).set i x=kH l (i+1):=by
 have hi:=(ap9.1 hx).1;unfold kH;rw[List.set_append_right _ _ (by rw[aso];omega),aso,aon oz,Nat.sub_self];have e:l.length-i=(l.length-(i+1))+1:=by omega
 rw[e,List.replicate_succ];show l.take i++x::apf (l.length-(i+1)) 0=_;rw[fO hx];simp
theorem WP{l:List Rat}{i:Nat}(h:i<l.length):(kH l i)[i]?=some 0:=by
 unfold kH;rw[asm (by rw[aso];omega),aso,aon oz,Nat.sub_self,ast,ate oz]
theorem IQ{x:Rat}:aa .eql (a9 x) 0=decide (x=0):=by
 have h:aa .eql (a9 x) 0=decide (a9 x=0):=rfl;rw[h];rcases oT x with h |h |h
 ·rw[atj oz,atj (by grind)]
 ·rw[ati h.1,ati h.2]
 ·rw[atj oz,atj (by grind)]
theorem HB{n:Nat}{x:Rat}(h:cond (aa .gtr (n:Int) 0) (aa .eql (a9 x) 0) false=true):0<n/\x=0:=by
 rw[IQ]at h;cases h1:aa .gtr (n:Int) 0
 ·rw[h1]at h;cases h
 ·rw[h1]at h;exact⟨ee (b:=0) h1,atg h⟩
theorem Pk{n:Nat}{x:Rat}(h:cond (aa .gtr (n:Int) 0) (aa .eql (a9 x) 0) false=false)(h0:0<n):x≠0:=by
 intro hx;rw[IQ,hx,show aa .gtr (n:Int) 0=true from ati oz]at h;cases h
theorem KO{n:Nat}{x:Rat}(h0:0<n->x≠0)(h:cond (aa .gtr (n:Int) 0) (aa .eql (a9 x) 0) false=true):False:=by
 obtain⟨h1,h2⟩:=HB h;exact h0 h1 h2
theorem oB{e:Nat}{p:List Rat}(hp:Po e p)(he:e<=1000000000000):FP 70 [nA p] (bQ 0):=by
 have jZ:=hp.len;have Ex:=Gn hp.td;refine am func70 ?_;refine gl ?_;refine gC (fun y=>?_) (fun y=>?_) (st1:=(2,0));exact atk (ee (b:=65) y) oz;refine gl ?_;refine aP [0,9,10] [] (fun(i:Nat)=>[pP 11 (i64 i)]) (fun _=>[]) (fun i=>i<=p.length) (fun i=>p.length-i) 0 (ase _) ?_;rintro i hi K1 J1;refine gC (fun y=>?_) (fun y=>?_)
 ·have af:=aT y;obtain⟨q,hq⟩:=aJ af;have hv:=sW (rt q) (hp.qs he (ar1 hq)).ok;rw[Bo]at hv;refine gi (aw hq) ?_;refine gc hv ?_;refine gf ?_;refine ga aL ?_;exact aM J1 (i+1) af
 obtain⟨z,hz⟩:∃z,0<p.length->p[p.length-1]?=some z/\z≠0:=by
  by_cases h:0<p.length
  ·obtain⟨z,h1⟩:=Ex h;exact⟨z,fun _=>h1⟩
  ·exact⟨0,fun h1=>atk h1 h⟩
 refine gl ?_;refine cG ?_;refine kG (fun h=>(gG (by have:=ee (b:=0) h;omega) (by unfold aF;omega))) ?_;refine nJ (fun h=>(aw (hz (ee (b:=0) h)).1)) ?_;refine bV (fun h=>(wR (hp.qs he (ar1 (hz (ee (b:=0) h)).1)))) ?_;refine gC (fun y=>?_) (fun y=>?_) (st1:=(10,0));exact(KO (fun h=>(hz h).2) y).elim;refine ah ?_
 first |rfl |(simp;done)
theorem DQ{ps:LL}(h:∀p∈ps,FP 70 [nA p] (bQ 0))(hl:ps.length<=1000):FP 263 [.lst 1 (ps.map nA)] (bQ 0):=by
 refine am func263 ?_;refine gl ?_;refine aP [6,7] [] (fun(i:Nat)=>[pP 8 (i64 i)]) (fun _=>[]) (fun i=>i<=ps.length) (fun i=>ps.length-i) 0 (ase _) ?_;rintro i hi K1 J1;refine gC (fun z=>?_) (fun z=>?_)
 ·have af:=aT z;obtain⟨p,hp⟩:=aJ af;refine gi (aw hp) ?_;refine gc (h p (ar1 hp)) ?_;refine gf ?_;refine ga aL ?_;exact aM J1 (i+1) af
 refine ah ?_
 first |rfl |(simp;done)
theorem Fs(d:Nat)(hd:aob d 1000=true)(p:List Rat)(hq:∀c∈p,Qs c)(hl:p.length<=1000) :
  Con prog 262 [nA p] [] (.ms d 3 0 (ptr p).length) [(d,some (.row 3 (p.map qA)))]:=by
 refine gF func262 (fun k z h=>by cases h) ?_;refine gl ?_;refine gW (Wk.virt 900 3 rfl) ?_;refine aP [6,7] [] (fun(j:Nat)=>[pP 3 (.ms 900 3 0 j),pP 8 (i64 j)]) (fun j=>[pP 900 (.row 3 ((p.take j).map qA))]) (fun j=>j<=p.length) (fun j=>p.length-j) 0 (ase _) ?_ (h1:=(.cons rfl (Sub.nM _ _ _) (.k .nil)));rintro j hj K1 J1;refine gC (fun y=>?_) (fun y=>?_)
 ·have fa:=aT y;obtain⟨q,lE⟩:=aJ fa;have jI:=wX (rt q) (rt 0) (hq q (ar1 lE)).ok Qs.zero.ok;rw[Dq,bE]at jI;refine gi (aw lE) ?_;refine gc (Con.sA (.cons (.refl _) (.cons l6 .nil)) jI) ?_;refine gs (eQ (.tmp rfl) rfl (by rw[ar3,aso];omega) (.tmp rfl) T41 rfl T44 rfl rfl (by simp only[asi,asu];omega) rfl rfl) ?_ (6,0);refine gW (Wk.of (sl:=[pP 6 (nA p),pP 7 (i64 p.length),pP 8 (i64 j),pP 3 (.ms 17 3 0 (j+1))]) (hp:=[pP 17 (.row 3 ((p.take (j+1)).map qA))]) a6 (.cons rfl (.of (by rw[fO lE,asz];rfl)) .nil)) ?_ (6,0);refine gW (Wk.rk (k:=17) (d:=900) rfl rfl) ?_;refine ga aL ?_;exact aM J1 (j+1) fa
 have fa:=bc hj y;subst fa;refine gW (Wk.of (sl:=[pP 3 (.ms 900 3 0 p.length)]) (hp:=[pP 900 (.row 3 (p.map qA))]) a6 (.cons rfl (.of (by rw[asK])) .nil)) ?_;refine aP [] [900] (fun(n:Nat)=>[pP 3 (.ms 900 3 0 n)]) (fun _=>[]) (fun n=>n<=p.length/\ptr (p.take n)=ptr p) (fun n=>n) p.length ⟨ar8 _,by rw[asK]⟩ ?_;rintro n ⟨hn,hv⟩ K2 J2;refine kG (fun h=>(gG (ee (b:=0) h) (by unfold aF;omega))) ?_;refine gs (fM rfl rfl rfl (fun h=>bI (n:=n-1) (.opt rfl (o1 h)) (.opt rfl (o1 h)) T41 rfl T44 rfl oz (by have:=ee (b:=0) h;omega) rfl)) ?_;refine gs (fM rfl rfl rfl (fun h=>dt (.opt rfl (o1 h)) rfl (aw (iU (l:=p) (i:=n-1) (by have:=ee (b:=0) h;omega))) T44 rfl rfl rfl)) ?_;refine bV (fun h=>(wR (hq _ (ar1 (iU (l:=p) (i:=n-1) (by have:=ee (b:=0) h;omega)))))) ?_;refine gC (fun t31=>?_) (fun t31=>?_)
 ·obtain ⟨h1, h2⟩:=HB t31;have h3:p[n - 1]? = some 0:=by rw [iU (l:=p) (i:=n - 1) oz,h2]
  refine ga (gG oz (by unfold aF;omega)) ?_;refine gs (ua (.tmp rfl) (.none _) (.some _ (.tmp rfl) oz) T41 rfl T44 rfl oz oz rfl) ?_;exact aM J2 (n-1) ⟨by omega,HG (by rw[show n-1+1=n by omega];exact hv) h3⟩ (hw:=Wk.of (.cons rfl (.of (by congr 1)) .nil) (.k .nil))
 have jY:n=(ptr p).length:=by
  rcases aov n with h |h
  ·subst h;rw[List.take_zero]at hv;rw[<- hv];rfl
  ·exact Mq hv ⟨_,iU (l:=p) (i:=n-1) oz,Pk t31 h⟩ hn h
 subst jY;refine gR ?_;exact aD.own1 rfl hd rfl
theorem Eb(p:List Rat)(hq:∀c∈p,Qs c)(hl:p.length<=1000):FP 262 [nA p] (nA (ptr p)):=by
 have h:=Con.freeze (by rw[ar3,aoj];exact ka p) (Fs 0 rfl p hq hl)
 rwa [as8,<- map_take,<- tE]at h
theorem S6(p:List Rat)(i:Nat):FP 402 [nA p,i64 i] (qA (p.getD i 0)):=by
 refine am func402 ?_;refine gl ?_;refine gC (fun z=>?_) (fun z=>?_)
 ·have h1:i<p.length:=aT z;refine gi (aw (iU (l:=p) h1)) ?_;refine ah ?_
  first |rfl |(simp;done)
 have h1:p.length<=i:=vL z;refine gR ?_;exact nk (by rw[ar2,asg h1];exact l6)
theorem H7{e f k:Nat}{p q:List Rat}{c:Rat}(hp:Pb e p)(hq:Pb f q)(hc:Qb k c)(h:e+(k+f)+1<=1000000000000)(lp:p.length<=60)(lq:q.length<=60):FP 367 [nA p,nA q,qA c] (nA (padd p q c)):=by
 have jZ:=qf c p q;have hb:=hp.lin hc hq;obtain⟨L,hL⟩:∃L,L=jD p q c:=⟨_,rfl⟩
 rw[<- hL]at jZ hb;have qo:∀i,Qs (p.getD i 0):=fun i=>Gb hp oz i
 have sF:∀i,Qs (q.getD i 0):=fun i=>Gb hq oz i
 have oy:Qs c:=hc.qs oz;have bU:∀i,Qs (c*q.getD i 0):=fun i=>(hc.mul (zM hq i)).qs oz
 refine am func367 ?_;refine gl ?_;refine gl ?_;refine gs (tG (.tmp rfl) (.tmp rfl) rfl) ?_;refine gs (it (.tmp rfl) T41 rfl T44 rfl rfl oz (by dsimp only;omega) rfl) ?_ (2,0);refine gW (Wk.of (sl:=[pP 0 (nA p),pP 1 (nA q),pP 5 (.ptr 5 0),pP 7 (.ms 14 3 0 L.length)]) (hp:=[pP 5 (.box (qA c).cells),pP 14 (.row 3 ((kH L 0).map qA))]) (.k (.k (.k (.cons rfl (.of (by rw[jZ];show AV.ms 14 3 0 _=_;congr 1;omega)) .nil)))) (.k (.cons rfl (Df (by rw[ah1,jZ];congr 1;omega)) .nil))) ?_ (2,0);refine gW (Wk.rk (k:=14) (d:=900) rfl rfl) ?_;refine aP [0,1,5,16] [5] (fun(i:Nat)=>[pP 7 (.ms 900 3 0 L.length),pP 15 (.ms 900 3 0 L.length),pP 17 (i64 i)]) (fun i=>[pP 900 (.row 3 ((kH L i).map qA))]) (fun i=>i<=L.length) (fun i=>L.length-i) 0 (ase _) ?_;rintro i hi K1 J1;refine gC (fun z=>?_) (fun z=>?_) (st2:=(7,0))
 ·have af:=aT z
  have hx:L[i]?=some (p.getD i 0+c*q.getD i 0):=by
   have h1:=iU (l:=L) af;rw[hL,HP,<- hL]at h1;exact h1
  refine gc (S6 p i) ?_;refine gc (S6 q i) ?_;refine gc (iG oy (sF i)) ?_;refine gc (rU (qo i) (bU i)) ?_;refine gs (bI (n:=i) (.tmp rfl) (.tmp rfl) T41 rfl T44 rfl oz oz rfl) ?_;refine gs (dS (.tmp rfl) rfl (aw (WP af)) rfl (.tmp rfl) rfl rfl T44 rfl rfl) ?_;refine gD ?_ (6,0);refine gW (Wk.of (sl:=[pP 0 (nA p),pP 1 (nA q),pP 5 (.ptr 5 0),pP 7 (.ms 900 3 0 L.length),pP 15 (.ms 900 3 0 L.length),pP 16 (i64 L.length),pP 17 (i64 i)]) (hp:=[pP 5 (.box (qA c).cells),pP 900 (.row 3 ((kH L (i+1)).map qA))]) a6 (.k (.cons rfl (.of (by rw[<- aaz hx,as7])) .nil))) ?_;refine ga aL ?_;exact aM J1 (i+1) af
 have af:=bc hi z;subst af;refine gW ((Wk.freeze (k:=900) rfl).trans<|Wk.of (sl:=[pP 7 (nA L)]) (hp:=[]) (.cons rfl (.of (by rw[cq (by rw[ar3,ad8 (ar8 _)]),ahd];rfl)) .nil) .nil) ?_;refine gc (Eb L (fun x hx=>(hb x hx).qs oz) oz) ?_;refine ah ?_;rw[hL];rfl
theorem V0{e f:Nat}{p q:List Rat}(hp:Pb e p)(hq:Pb f q)(lp:p.length<=30)(lq:q.length<=30)(h:31*(e+f+4)<=1000000000000):FP 264 [nA p,nA q] (nA (gz p q)):=by
 refine am func264 ?_;refine gl ?_;refine cG ?_;refine gC (fun t17=>?_) (fun t17=>?_)
 ·have h1:gz p q=[]:=by
   by_cases h0:p=[]
   ·rw[h0];rfl
   ·have h2:q=[]:=by
     refine Decidable.byContradiction fun h2=>?_
     have h3:=aqb.2 h0;have h4:=aqb.2 h2;rw[show aa .eql (p.length:Int) 0=false from atj oz,show aa .eql (q.length:Int) 0=false from atj oz]at t17;cases t17
    rw[h2];exact Lr p
  refine gR ?_;exact nk (by rw[h1];exact Sub.nil _ _ _)
 have h0:p≠[]:=fun h0=>by rw[h0]at t17;cases t17
 have h1:q≠[]:=fun h1=>by
  rw[h1]at t17;cases h9:aa .eql (p.length:Int) 0 <;> rw[h9]at t17 <;> cases t17
 have h2:=aqb.2 h0;have h3:=aqb.2 h1;refine gl ?_;refine gl ?_;refine ga (gy (by unfold aF;omega) (by unfold aF;omega)) ?_;refine ga (gG oz (by unfold aF;omega)) ?_;refine gs (it (.tmp rfl) T41 rfl T44 rfl rfl oz (by dsimp only;omega) rfl) ?_ (4,0);refine gW (Wk.of (sl:=[pP 0 (nA p),pP 1 (nA q),pP 5 (.ms 24 3 0 (p.length+q.length-1))]) (hp:=[pP 24 (.row 3 ((apf (p.length+q.length-1) (0:Rat)).map qA))]) a6 (.cons rfl (Df (by congr 1)) .nil)) ?_ (4,0);refine gW (Wk.rk (k:=24) (d:=900) rfl rfl) ?_;refine gl ?_;refine fT [0,1,25,26] [] (fun(i:Nat)(L:List Rat)=>[pP 5 (.ms 900 3 0 (p.length+q.length-1)),pP 27 (i64 i)]) (fun _ L=>[pP 900 (.row 3 (L.map qA))]) (fun i L=>i<=p.length/\L.length=p.length+q.length-1/\(∀t,aq L t=aq (p.take i) t*aq q t)/\∀j,Qb (i*(e+f+4)+1) (L.getD j 0)) (fun i _=>p.length-i) 0 (apf (p.length+q.length-1) 0) ⟨ase _,asr,fun t=>by rw[Jc];show(0:Rat)=0*aq q t;grind,fun j=>by rw[ar2,ast];split <;> exact Qb.zero.mono oz⟩ ?_
 rintro i L ⟨hi,hL,dC,hb⟩ K1 J1;refine gC (fun z=>?_) (fun z=>?_) (st2:=(13,0))
 ·have af:=aT z;obtain ⟨x,hx⟩:=aJ af;have Kh:=(hp x (ar1 hx)).qs (show e <= 4398046511104 by omega);have ank:i * (e + f + 4) <= 30 * (e + f + 4):=asl _ oz;refine gi (aw hx) ?_;refine gl ?_;refine fT [0,1,25,26,27,6,7,32,33] [7] (fun (k:Nat) (M:List Rat)=>[pP 5 (.ms 900 3 0 (p.length + q.length - 1)),pP 34 (i64 k)]) (fun _ M=>[pP 900 (.row 3 (M.map qA))]) (fun k M=>k <= q.length /\ M.length = p.length + q.length - 1 /\ (∀ t,aq M t = aq L t + x * t ^ i * aq (q.take k) t) /\ (∀ j,Qb ((i + 1) * (e + f + 4) + 1) (M.getD j 0)) /\ ∀ j,i + k <= j -> M.getD j 0 = L.getD j 0) (fun k _=>q.length - k) 0 L ⟨ase _,hL,fun t=>by show aq L t = aq L t + x * t ^ i * 0; grind,fun j=>(hb j).mono (by rw [an5]; omega),fun j _=>rfl⟩ ?_
  rintro k M ⟨hk,hM,UE,UF,heq⟩ K2 J2;refine gC (fun z=>?_) (fun z=>?_)
  ·have bh:=aT z;obtain ⟨y,hy⟩:=aJ bh;have hyq:=(hq y (ar1 hy)).qs (show f <= 4398046511104 by omega);have Aj:=(hp x (ar1 hx)).mul (hq y (ar1 hy));have UG:=hb (i + k);have Ay:=heq (i + k) (ar8 _);have lF:i + k < M.length:=by omega
   have dB:=iU lF
   have bP:Qb ((i+1)*(e+f+4)+1) (M.getD (i+k) 0+x*y):=by
    rw[Ay];exact(UG.add Aj).mono (by rw[an5];omega)
   refine gi (aw hy) ?_;refine ga (gy (by unfold aF;omega) (by unfold aF;omega)) ?_;refine ga (gy (by unfold aF;omega) (by unfold aF;omega)) ?_;refine gs (bI (n:=i+k) (.tmp rfl) (.tmp rfl) T41 rfl T44 rfl oz oz rfl) ?_;refine gs (dt (.tmp rfl) rfl (aw dB) T44 rfl rfl rfl) ?_;refine gc (iG Kh hyq) ?_;refine gc (rU (by rw[Ay];exact UG.qs oz) (Aj.qs oz)) ?_;refine gs (bI (n:=i+k) (.tmp rfl) (.tmp rfl) T41 rfl T44 rfl oz oz rfl) ?_;refine gs (dS (.tmp rfl) rfl (aw dB) rfl (.tmp rfl) rfl rfl T44 rfl rfl) ?_;refine gD ?_ (11,0);refine gW (Wk.of (sl:=[pP 0 (nA p),pP 1 (nA q),pP 5 (.ms 900 3 0 (p.length+q.length-1)),pP 25 (nA p),pP 26 (i64 p.length),pP 27 (i64 i),pP 6 (i64 i),pP 7 (.ptr 7 0),pP 32 (nA q),pP 33 (i64 q.length),pP 34 (i64 k)]) (hp:=[pP 7 (.box (qA x).cells),pP 900 (.row 3 ((M.set (i+k) (M.getD (i+k) 0+x*y)).map qA))]) a6 (.k (.cons rfl (.of (by rw[as7])) .nil))) ?_
   refine ga aL ?_;exact f7 J2 (k+1) (M.set (i+k) (M.getD (i+k) 0+x*y)) ⟨bh,by rw[as9];exact hM,fun t=>by rw[zI _ _ _ _ lF,UE,wA t hy,BM];grind,fun j=>by rw[pI _ _ _ _ lF];split;exact bP;exact UF j,fun j hj=>by rw[pI _ _ _ _ lF,atd oz];exact heq j oz⟩
  have bh:=bc hk z;subst bh;refine ga aL ?_;exact f7 J1 (i+1) M ⟨af,hM,fun t=>by rw[UE,dC,wA t hx,asK];grind,UF⟩
 have af:=bc hi z;subst af;have hr:ptr L=gz p q:=pH (eH _) (eH _) (fun t=>by rw[jm,dC,asK,kM]);refine gW ((Wk.freeze (k:=900) rfl).trans<|Wk.of (sl:=[pP 5 (nA L)]) (hp:=[]) (.cons rfl (.of (by rw[cq (by rw[ar3];exact hL.symm)];rfl)) .nil) .nil) ?_;refine gc (Eb L (fun x hx=>((Bf hb) x hx).qs (by have h9:p.length*(e+f+4)<=30*(e+f+4):=asl _ lp;omega)) oz) ?_;refine ah ?_;rw[hr]
abbrev pW:List Rat:=[1,0,1]
theorem q5(t:Rat):aq pW t=1+t*t:=by show(1:Rat)+t*(0+t*(1+t*0))=_;grind
theorem Y0{i:Nat}{x:Rat}(h:pW[i]?=some x):(x=0/\i=1)\/(x=1/\(i=0\/i=2)):=by
 match i,h with
 |0,h=>cases h;exact .inr ⟨rfl,.inl rfl⟩
 |1,h=>cases h;exact .inl ⟨rfl,rfl⟩
 |2,h=>cases h;exact .inr ⟨rfl,.inr rfl⟩
 |n+3,h=>simp at h
theorem aen{a b:Nat}(h0:a+b<=60)(h:cond (cond (aa .gtr (a:Int) 0) (aa .gtr (b:Int) 0) false) (aa .gtr (((a+b:Nat):Int)-2) 64) false=true):False:=by
 rw[show aa .gtr (((a+b:Nat):Int)-2) 64=false from atj oz]at h;cases h1:cond (aa .gtr (a:Int) 0) (aa .gtr (b:Int) 0) false <;> rw[h1]at h <;> cases h
theorem Mw{e k:Nat}{p:List Rat}{x:Rat}(hp:Pb e p)(hx:Qb k x):∀n,n<=p.length->Qb ((p.length-n)*(e+k+4)+1) (aq (p.drop n) x):=by
 have key:∀q:List Rat,Pb e q->Qb (q.length*(e+k+4)+1) (aq q x):=by
  intro q
  induction q with
  |nil=>intro _;exact Qb.zero.mono (by simp)
  |cons c q ih =>
   intro h;have h1:=ih (fun y hy=>h y (ass _ hy));refine((h c (as2 ..)).add (hx.mul h1)).mono ?_;rw[asi,an5];omega
 intro n hn;have h:=key (p.drop n) (fun c hc=>hp c (ap8 hc));rw[apx]at h;exact h
theorem BG{e f:Nat}{p q:List Rat}(hp:Po e p)(hq:Po f q)(h:e+(1+f)+1<=1000000000000):FP 286 [nA p,nA q] (.tup [nA (padd p q 1),.v .nilIface]):=by
 have l1:=hp.len;have l2:=hq.len;have jJ:FP 263 [.lst 1 [nA p,nA q]] (bQ 0):=DQ (ps:=[p,q]) (by intro x hx;simp only[asj,asf,or_false]at hx;rcases hx with rfl |rfl;exact oB hp oz;exact oB hq oz) (by simp);have h1:Qb 1 (((1:Int):Rat)):=Qb.one;refine am func286 ?_;refine gc jJ ?_;refine gf ?_;refine gc (kW 1 oz) ?_;refine gc (H7 (k:=1) hp.b hq.b h1 h oz oz) ?_;refine bu ?_
 first |rfl |(simp;done)
theorem wU{e f:Nat}{p q:List Rat}(hp:Po e p)(hq:Po f q)(h:e+(1+f)+1<=1000000000000):FP 288 [nA p,nA q] (.tup [nA (padd p q (-1)),.v .nilIface]):=by
 have l1:=hp.len;have l2:=hq.len;have jJ:FP 263 [.lst 1 [nA p,nA q]] (bQ 0):=DQ (ps:=[p,q]) (by intro x hx;simp only[asj,asf,or_false]at hx;rcases hx with rfl |rfl;exact oB hp oz;exact oB hq oz) (by simp);have h1:Qb 1 (((-1:Int):Rat)):=⟨by decide,by decide⟩
 refine am func288 ?_;refine gc jJ ?_;refine gf ?_;refine gc (kW (-1) oz) ?_;refine gc (H7 (k:=1) hp.b hq.b h1 h oz oz) ?_;refine bu ?_
 first |rfl |(simp;done)
theorem rA{e f:Nat}{p q:List Rat}(hp:Po e p)(hq:Po f q)(h:31*(e+f+4)<=1000000000000):FP 166 [nA p,nA q] (.tup [nA (gz p q),.v .nilIface]):=by
 have l1:=hp.len;have l2:=hq.len;have jJ:FP 263 [.lst 1 [nA p,nA q]] (bQ 0):=DQ (ps:=[p,q]) (by intro x hx;simp only[asj,asf,or_false]at hx;rcases hx with rfl |rfl;exact oB hp oz;exact oB hq oz) (by simp);refine am func166 ?_;refine gc jJ ?_;refine gf ?_;refine gl ?_;refine cG ?_;refine cG ?_;refine cG ?_;refine kG (fun _=>(gy (by unfold aF;omega) (by unfold aF;omega))) ?_;refine kG (fun _=>(eO oz)) ?_;refine gC (fun z=>?_) (fun z=>?_) (st1:=(5,0));exact(aen (a:=p.length) (b:=q.length) oz z).elim;refine gc (V0 hp.b hq.b l1 l2 h) ?_;refine bu ?_
 first |rfl |(simp;done)
theorem tZ{e k:Nat}{p:List Rat}{c:Rat}(hp:Po e p)(hc:Qb k c)(h:1+(k+e)+1<=1000000000000):FP 287 [nA p,qA c] (.tup [nA (padd [] p c),.v .nilIface]):=by
 have l1:=hp.len;have mX:FP 367 [nS,nA p,qA c] (nA (padd [] p c)):=Con.sA (.cons (Sub.nil 3 none 0) (.cons (.refl _) (.cons (.refl _) .nil))) (H7 (p:=[]) (e:=1) (fun x hx=>by cases hx) hp.b hc h (by simp) oz);refine am func287 ?_;refine gc (oB hp oz) ?_;refine gf ?_;refine gc mX ?_;refine bu ?_
 first |rfl |(simp;done)
theorem aex{e k:Nat}{p:List Rat}{x:Rat}(hp:Po e p)(hx:Qb k x)(h:31*(e+k+4)<=1000000000000):FP 23 [nA p,qA x] (.tup [qA (aq p x),.v .nilIface]):=by
 have l1:=hp.len;have Kh:=hx.qs (show k<=4398046511104 by omega);have dq:∀n,n<=p.length->Qb ((p.length-n)*(e+k+4)+1) (aq (p.drop n) x):=Mw hp.b hx;refine am func23 ?_;refine gc (oB hp oz) ?_;refine gf ?_;refine gl ?_;refine ga (eO oz) ?_;refine aP [0,3,4,7] [3,4] (fun(n:Nat)=>[pP 8 (i64 ((n:Int)-1))]) (fun n=>[pP 7 (.box (qA (aq (p.drop n) x)).cells)]) (fun n=>n<=p.length) (fun n=>n) p.length (ar8 _) ?_ (h2:=(.cons rfl (BlkSub.bL (by rw[apn];exact .cons (.refl _) (.cons (.nil _ _ _) (.cons (.nil _ _ _) .nil))) rfl) .nil));rintro n hn K1 J1;refine gC (fun z=>?_) (fun z=>?_)
 ·have kA : 0 < n := by have h9 := atg (p := (n : Int) - 1 >= 0) z; omega
  obtain⟨m,rfl⟩:∃m,n=m+1:=⟨n-1,by omega⟩
  obtain⟨c,hc⟩:=aJ (l:=p) (i:=m) oz;have oy:=hp.qs oz (ar1 hc);have bM:=dq (m+1) hn;have anx:(p.length-(m+1))*(e+k+4)<=30*(e+k+4):=asl _ oz;refine gc (iG (bM.qs oz) Kh) ?_;refine gi (eI (n:=m) oz hc) ?_;refine gc (rU ((bM.mul hx).qs oz) oy) ?_;refine gD ?_ (7,0);refine gW (Wk.of (sl:=[pP 0 (nA p),pP 3 (.ptr 3 0),pP 4 (.ptr 4 0),pP 7 (.ptr 7 0),pP 8 (i64 (((m+1:Nat):Int)-1))]) (hp:=[pP 3 (.box (qA x).cells),pP 4 (.box [.v (.bool false),nS,nS]),pP 7 (.box (qA (aq (p.drop m) x)).cells)]) a6 (.k (.k (.cons rfl (.of (by rw[WV x hc,Rat.add_comm,Rat.mul_comm];rfl)) .nil)))) ?_;refine ga (eO oz) ?_;exact aM J1 m oz (hw:=Wk.of (.cons rfl (.of (by congr 3;omega)) (.k (.k (.k (.k .nil))))) (.k (.k (.k .nil))))
 have kA:n=0:=by have h9:=ath (p:=(n:Int)-1>=0) z;omega
 subst kA;refine bu ?_
 first |rfl |(simp;done)
theorem LS{l:List Rat}{m:Nat}(hl:l.length=m)(h0:0<m)(hz:l.getD (m-1) 0=0):(ptr l).length<m:=by
 have h1:l[m-1]?=some 0:=by rw[iU (l:=l) (i:=m-1) oz,hz]
 have h2:ptr (l.take (m-1))=ptr l:=HG (by rw[show m-1+1=m by omega,<- hl,asK]) h1;have h3:=ka (l.take (m-1));rw[h2,aso]at h3;omega
theorem Hb{l:List Rat}{j m:Nat}(h:j<m):(l.take m).getD j 0=l.getD j 0:=by rw[mF,ate h]
theorem aj5{Y:List Rat}{m j:Nat}{v:Rat}(hj:j<m)(hm:m<=Y.length)(t:Rat):aq ((Y.set j v).take m) t=aq (Y.take m) t+(v-Y.getD j 0)*t^j:=by
 rw[<- Hb hj,<- zI v t (Y.take m) j (by rw[aso];omega),List.take_set]
theorem CM(k:Nat)(e:Nat):e+4<=2^k*(e+4):=Nat.le_mul_of_pos_left _ (aoe k)
theorem MU{j k:Nat}(h:j<=k)(e:Nat):2^j*(e+4)<=2^k*(e+4):=asl _ (fj h)
theorem ag0{j k:Nat}(h:j<k)(e:Nat):2*(2^j*(e+4))<=2^k*(e+4):=by
 have h1:=MU (show j+1<=k by omega) e;rw[ao1,an8,Nat.mul_left_comm]at h1;exact h1
theorem af9{e:Nat}{p:List Rat}(hp:Pb e p)(lp:p.length<=12)(h:4096*(e+4)<=1000000000000):FP 346 [nA p,nA pW] (.tup [nA (dvQ p),nA (gX p)]):=by
 have Ki:Qs (1:Rat):=Qb.one.qs oz;refine am func346 ?_;refine gt (aG (Fs 905 rfl p (fun c hc=>(hp c hc).qs oz) oz) (eJ rfl) aK rfl rfl) ?_;refine gl ?_;refine gl ?_;refine ga (eO (by simp only[asi,asu];omega)) ?_;refine ga (dx (by simp only[asi,asu];omega)) ?_;refine gs (tG (.const _) (.tmp rfl) rfl) ?_;refine gs (it (.tmp rfl) T41 rfl T44 rfl rfl oz (by dsimp only;omega) rfl) ?_;refine gl ?_;refine ga (show _=(2:Int)from rfl) ?_;refine gi (rfl) ?_;refine gW (Wk.of (sl:=[pP 1 (nA pW),pP 6 (.ms 905 3 0 (ptr p).length),pP 7 (.ms 23 3 0 (p.length-2)),pP 8 (.ptr 8 0)]) (hp:=[pP 8 (.box (qA 1).cells),pP 905 (.row 3 (p.map qA)),pP 23 (.row 3 ((apf (p.length-2) (0:Rat)).map qA))]) (.k (.k (.cons rfl (.of (by congr 1;simp only[asi,asu];omega)) (.k .nil)))) (.k (.k (.cons rfl (Df (by congr 1;simp only[asi,asu];omega)) .nil)))) ?_ (99999,0)
 refine gW (Wk.rk (k:=905) (d:=902) rfl rfl) ?_ (99999,0);refine gW (Wk.rk (k:=23) (d:=901) rfl rfl) ?_;refine kq [1,8] [8] (fun(X Q:List Rat)(m:Nat)=>[pP 6 (.ms 902 3 0 m),pP 7 (.ms 901 3 0 (p.length-2))]) (fun X Q _=>[pP 901 (.row 3 (Q.map qA)),pP 902 (.row 3 (X.map qA))]) (fun X Q m=>m<=X.length/\X.length<=12/\m<=p.length/\dV (X.take m)/\Q.length=p.length-2/\(∀t,aq p t=aq Q t*(1+t*t)+aq (X.take m) t)/\(∀j,Qb (2^(p.length-m)*(e+4)-3) (X.getD j 0))/\(∀j,j+3<=m->Q.getD j 0=0)/\∀j,Qb (4096*(e+4)) (Q.getD j 0)) (fun _ _ m=>m) p (apf (p.length-2) 0) ((ptr p).length) ⟨ka p,lp,ka p,by rw[<- tE];exact eH p,asr,fun t=>by rw[Jc,<- tE,jm];grind,fun j=>(zM hp j).mono (by have:=CM (p.length-(ptr p).length) e;omega),fun j _=>by rw[ar2,ast];split <;> rfl,fun j=>by rw[ar2,ast];split <;> exact Qb.zero.mono oz⟩ ?_
 rintro X Q m ⟨hmX,anz,hmp,anl,UH,dC,EY,UI,xn⟩ K1 J1;refine gl ?_;refine gC (fun z=>?_) (fun z=>?_) (st2:=(14,0))
 ·have uC : 3 <= m := by have h9 := atg (p := (m : Int) >= 3) z; omega
  obtain⟨c,hc⟩:∃c,c=X.getD (m-1) 0:=⟨_,rfl⟩
  have hcX:X[m-1]?=some c:=by rw[hc];exact iU oz
  have mY:=MU (show p.length-m<=12 by omega) e;have ma:Qb (2^(p.length-m)*(e+4)-3) c:=by rw[hc];exact EY _
  have oy:Qs c:=ma.qs (by have h9:(2:Nat)^12=4096:=rfl;omega);have fS:c/1=c:=by grind
  have hgQ:=iU (l:=Q) (i:=m-3) oz;refine gl ?_;refine ga (show _=((m-3:Nat):Int)from NE (by show 3<=m;omega) (by unfold aF;omega)) ?_;refine ga (gG oz (by unfold aF;omega)) ?_;refine gs (bI (n:=m-1) (.tmp rfl) (.tmp rfl) T41 rfl T44 rfl oz oz rfl) ?_;refine gs (dt (.tmp rfl) rfl (aw hcX) T44 rfl rfl rfl) ?_;refine gc (HW oy Ki) ?_;refine gD ?_;refine gs (bI (n:=m-3) (.tmp rfl) (.tmp rfl) T41 rfl T44 rfl oz (by show m-3<_;omega) rfl) ?_;refine gs (dS (.tmp rfl) rfl (aw hgQ) rfl (.tmp rfl) rfl rfl T44 rfl rfl) ?_ (8,0);refine gW (Wk.of (sl:=[pP 1 (nA pW),pP 6 (.ms 902 3 0 m),pP 7 (.ms 901 3 0 (p.length-2)),pP 8 (.ptr 8 0),pP 9 (i64 ((m-3:Nat):Int)),pP 10 (.ptr 10 0)]) (hp:=[pP 8 (.box (qA 1).cells),pP 10 (.box (qA c).cells),pP 901 (.row 3 ((Q.set (m-3) c).map qA)),pP 902 (.row 3 (X.map qA))]) a6 (.k (.cons rfl (.of (by rw[fS];rfl)) (.cons rfl (.of (by rw[as7,fS];rfl)) (.k .nil))))) ?_
  refine gl ?_;refine fT [1,8,9,10,55,56] [8,10,901] (fun(i:Nat)(Y:List Rat)=>[pP 6 (.ms 902 3 0 m),pP 7 (.ms 901 3 0 (p.length-2)),pP 57 (i64 i)]) (fun _ Y=>[pP 902 (.row 3 (Y.map qA))]) (fun i Y=>i<=3/\Y.length=X.length/\(∀t,aq (Y.take m) t=aq (X.take m) t-c*t^(m-3)*aq (pW.take i) t)/\(∀j,Qb (2*(2^(p.length-m)*(e+4))-4) (Y.getD j 0))/\(∀j,m-3+i<=j->Y.getD j 0=X.getD j 0)/\(3<=i->Y.getD (m-1) 0=0)) (fun i _=>3-i) 0 X ⟨ase _,rfl,fun t=>by show _=_-c*t^(m-3)*0;grind,fun j=>(EY j).mono (by have:=CM (p.length-m) e;omega),fun j _=>rfl,fun h9=>atk h9 oz⟩ ?_
  rintro i Y ⟨hi,hY,UJ,Kj,UK,hYz⟩ K2 J2;refine gC (fun z=>?_) (fun z=>?_) (st2:=(13,0))
  ·have af:i < 3:=aT (b:=3) z;obtain ⟨x,hx⟩:∃ x,pW[i]? = some x:=aJ af;have ox:Qb 1 x:=by rcases Y0 hx with ⟨h9,_⟩ | ⟨h9,_⟩ <;> rw [h9]; exact Qb.zero; exact Qb.one
   have lF:m-3+i<Y.length:=by omega
   have dB:=iU lF;have Kk:=UK (m-3+i) (ar8 _);have bR:=CM (p.length-m) e;have hpw:(2:Nat)^12=4096:=by decide
   have Az:=ma.mul ox
   have bP:Qb (2*(2^(p.length-m)*(e+4))-4) (Y.getD (m-3+i) 0-c*x):=by
    rw[Kk];exact((EY _).sub Az).mono oz
   refine gi (aw hx) ?_;refine ga (gy (by unfold aF;omega) (by unfold aF;omega)) ?_;refine ga (gy (by unfold aF;omega) (by unfold aF;omega)) ?_;refine gs (bI (n:=m-3+i) (.tmp rfl) (.tmp rfl) T41 rfl T44 rfl oz oz rfl) ?_;refine gs (dt (.tmp rfl) rfl (aw dB) T44 rfl rfl rfl) ?_;refine gc (iG oy (ox.qs oz)) ?_;refine gc (oW (by rw[Kk];exact(EY _).qs oz) (Az.qs oz)) ?_;refine gs (bI (n:=m-3+i) (.tmp rfl) (.tmp rfl) T41 rfl T44 rfl oz oz rfl) ?_;refine gs (dS (.tmp rfl) rfl (aw dB) rfl (.tmp rfl) rfl rfl T44 rfl rfl) ?_;refine gD ?_ (12,0);refine gW (Wk.of (sl:=[pP 1 (nA pW),pP 6 (.ms 902 3 0 m),pP 7 (.ms 901 3 0 (p.length-2)),pP 8 (.ptr 8 0),pP 9 (i64 ((m-3:Nat):Int)),pP 10 (.ptr 10 0),pP 55 (nA pW),pP 56 (i64 3),pP 57 (i64 i)]) (hp:=[pP 8 (.box (qA 1).cells),pP 10 (.box (qA c).cells),pP 901 (.row 3 ((Q.set (m-3) c).map qA)),pP 902 (.row 3 ((Y.set (m-3+i) (Y.getD (m-3+i) 0-c*x)).map qA))]) a6 (.k (.k (.k (.cons rfl (.of (by rw[as7])) .nil))))) ?_
   refine ga aL ?_;exact f7 J2 (i+1) (Y.set (m-3+i) (Y.getD (m-3+i) 0-c*x)) ⟨af,by rw[as9];exact hY,fun t=>by rw[aj5 oz oz,UJ,wA t hx,BM];grind,fun j=>by rw[pI _ _ _ _ lF];split;exact bP;exact Kj j,fun j hj=>by rw[pI _ _ _ _ lF,atd oz];exact UK j oz,fun h9=>by obtain rfl:i=2:=oz;cases hx;rw[pI _ _ _ _ lF,ate oz,Kk,show m-3+2=m-1 by omega,<- hc];grind⟩
  have Ke:i=3:=bc (b:=3) hi z;subst Ke;have hYm:(Y.take m).length=m:=by rw[aso];omega
  have an0:(ptr (Y.take m)).length<m:=LS hYm oz (by rw[Hb oz];exact hYz (ar8 _));have lD:=ag0 (show p.length-m<p.length-(ptr (Y.take m)).length by omega) e;have hpw:(2:Nat)^12=4096:=by decide
  have hTq:∀x∈Y.take m,Qs x:=fun x Kl=>((Bf Kj) x (apg Kl)).qs oz
  refine gW ((Wk.freeze (k:=902) rfl).trans<|Wk.of (sl:=[pP 1 (nA pW),pP 6 (nA (Y.take m)),pP 7 (.ms 901 3 0 (p.length-2)),pP 8 (.ptr 8 0)]) (hp:=[pP 8 (.box (qA 1).cells),pP 901 (.row 3 ((Q.set (m-3) c).map qA))]) (.k (.cons rfl (.of (by rw[tl (by rw[ar3];omega),as8,<- map_take];rfl)) (.k (.k .nil)))) (.k (.k .nil))) ?_;refine gt (aG (Fs 902 rfl (Y.take m) hTq oz) (eJ rfl) aK rfl rfl) ?_;exact js J1 (Y.take m) (Q.set (m-3) c) ((ptr (Y.take m)).length) ⟨ka _,by omega,by omega,by rw[<- tE];exact eH _,by rw[as9];exact UH,fun t=>by rw[<- tE,jm,UJ,zI _ _ _ _ oz,UI _ oz,dC t,show pW.take 3=pW from rfl,q5];grind,fun j=>by by_cases hj:j<m;(rw[Hb hj];exact(Kj j).mono oz);(rw[BV oz];exact Qb.zero.mono (by have:=CM (p.length-(ptr (Y.take m)).length) e;omega)),fun j hj=>by rw[pI _ _ _ _ oz,atd oz];exact UI j oz,fun j=>by rw[pI _ _ _ _ oz];split;exact ma.mono oz;exact xn j⟩
 have uC:m<=2:=by have h9:=ath (p:=(m:Int)>=3) z;omega
 obtain⟨r1,r2⟩:=HJ (p:=p) (eH Q) anl (by rw[aso];omega) (fun t=>by rw[jm];exact dC t);refine gW ((Wk.freeze (k:=902) rfl).trans<|(Wk.freeze (k:=901) rfl).trans<|Wk.of (sl:=[pP 6 (nA (gX p)),pP 7 (nA Q)]) (hp:=[]) (.cons rfl (.of (by rw[tl (by rw[ar3];omega)];show AV.lst 3 (((X.map qA).drop 0).take m)=_;rw[as8,<- map_take,r2];rfl)) (.cons rfl (.of (by show AV.fz 901 3 (Q.map qA) (.ms 901 3 0 (p.length-2))=_;rw[tl (by rw[ar3];omega),as8,<- map_take,asn oz];rfl)) .nil)) .nil) ?_
 refine gc (Eb Q (fun x Kl=>((Bf xn) x Kl).qs oz) oz) ?_;refine bu ?_;rw[r1]
theorem O1{e:Nat}{p:List Rat}(hp:Po e p)(lp:p.length<=12)(h:4096*(e+4)<=1000000000000):FP 366 [nA p,nA pW] (.tup [nA (dvQ p),nA (gX p),.v .nilIface]):=by
 have hW:Po 1 pW:=⟨rfl,by decide,fun c hc=>by simp only[pW,asj,asf,or_false]at hc;rcases hc with rfl |rfl |rfl;exact Qb.one;exact Qb.zero;exact Qb.one⟩
 have jJ:FP 263 [.lst 1 [nA p,nA pW]] (bQ 0):=DQ (ps:=[p,pW]) (by intro x hx;simp only[asj,asf,or_false]at hx;rcases hx with rfl |rfl;exact oB hp oz;exact oB hW oz) (by simp);refine am func366 ?_;refine gc jJ ?_;refine gf ?_;refine gl ?_;refine gf ?_;refine gc (af9 hp.b lp h) ?_;refine oc ?_
 first |rfl |(simp;done)
def E7(g:Gr)(j:Jt)(q:Nat):Int:=if q=0 then -1 else if q=1 then(if g.bo.contains j.b=true then -1 else j.b)else fQ g j
theorem Su{g:Gr}{j:Jt}{q:Nat}{b:Int}(hb:[j.b,j.a][q]?=some b):(if g.bo.contains b=true then E7 g j q else b)=E7 g j (q+1):=by
 match q,hb with
 |0,hb=>cases hb;rfl
 |1,hb =>
  cases hb;show(if g.bo.contains j.a=true then(if g.bo.contains j.b=true then -1 else j.b)else j.a)=fQ g j;rfl
theorem aiz{xs:List Int}{p:Nat}{x b:Int}(h:xs[p]?=some x):cond ((xs.take p).contains b) true (aa .eql x b)=(xs.take (p+1)).contains b:=by
 rw[fO h,Fp,wQ,apw,apw,List.any_append,List.any_cons,List.any_nil,Bool.or_false];congr 1
 by_cases h1:x=b
 ·subst h1;simp
 ·rw[atj h1]
  symm
  exact beq_false_of_ne (fun e=>h1 e.symm)
theorem VE(l:Li)(hl:l.ok)(g:Gr)(hg:GrOk l g):FP 86 [l.av,g.av] (.tup [.lst 1 ((b7 l g).map i64),i64 0]):=by
 have eY:=hg.lb;have md:=hg.lj;have EF:=hl.lj;refine am func86 ?_;refine gl ?_;refine aP [2,3,18,19] [2,3] (fun(i:Nat)=>[pP 20 (i64 i)]) (fun _=>[]) (fun i=>i<=g.jo.length) (fun i=>g.jo.length-i) 0 (ase _) ?_;rintro i hi K1 J1;refine gC (fun y=>?_) (fun y=>?_)
 ·have af:=aT y;obtain⟨z,hz⟩:=aJ af;obtain⟨z0,z1⟩:=hg.j z (ar1 hz);refine gi (aw hz) ?_;refine cG ?_;refine gC (fun y=>?_) (fun y=>?_) (st1:=(5,0))
  ·(rw[Lq z0 z1]at y;cases y)
  refine ga aL ?_;exact aM J1 (i+1) af
 have af:=bc hi y;refine gl ?_;refine gW ((Wk.virt 900 1 rfl).trans<|Wk.of (sl:=[pP 2 (.ptr 2 0),pP 3 (.ptr 3 0),pP 8 (.ms 900 1 0 0),pP 35 (.lst 1 (g.jo.map i64)),pP 36 (i64 g.jo.length),pP 37 (i64 0)]) (hp:=[pP 2 (.box l.av.cells),pP 3 (.box g.av.cells),pP 900 (.row 1 [])]) (.k (.k (.cons rfl (Sub.nM _ _ _) (.k (.k (.k .nil)))))) (.k (.k (.k .nil)))) ?_;refine aP [2,3,35,36] [2,3] (fun(k:Nat)=>[pP 8 (.ms 900 1 0 k),pP 37 (i64 k)]) (fun k=>[pP 900 (.row 1 (((b7 l g).take k).map i64))]) (fun k=>k<=g.jo.length) (fun k=>g.jo.length-k) 0 (ase _) ?_;rintro k hk K2 J2;refine gC (fun y=>?_) (fun y=>?_) (st2:=(26,0))
 ·have bh:=aT y;obtain ⟨z,hz⟩:=aJ bh;obtain ⟨z0,z1⟩:=hg.j z (ar1 hz);obtain ⟨j,hj⟩:∃ j,l.jo[z.toNat]? = some j:=aJ oz;have hlt:(((b7 l g).take k).map i64).length = k:=by rw [ar3,aso,lV]; omega
  refine gi (aw hz) ?_;refine gi (eI (n:=z.toNat) oz hj) ?_;refine gi (eI (n:=z.toNat) oz hj) ?_;refine ge rfl ?_;refine gD ?_;refine aP [2,3,35,36,37,53,54] [2,3] (fun(q:Nat)=>[pP 8 (.ms 900 1 0 k),pP 11 (i64 (E7 g j q)),pP 55 (i64 q)]) (fun _=>[pP 900 (.row 1 (((b7 l g).take k).map i64))]) (fun q=>q<=2) (fun q=>2-q) 0 (ase _) ?_;rintro q hq K3 J3;refine gC (fun y=>?_) (fun y=>?_)
  ·have bH:q < 2:=aT (b:=2) y;obtain ⟨b,hb⟩:∃ b,[j.b,j.a][q]? = some b:=aJ bH;refine gi (show [i64 j.b,i64 j.a][(q:Int).toNat]? = some (i64 b) by have:=aw (f:=i64) hb; exact this) ?_;refine gl ?_;refine aP [2,3,35,36,37,53,54,11,55,13,60,61] [2,3,900] (fun (p:Nat)=>[pP 8 (.ms 900 1 0 k),pP 14 (bl ((g.bo.take p).contains b)),pP 62 (i64 p)]) (fun _=>[]) (fun p=>p <= g.bo.length) (fun p=>g.bo.length - p) 0 (ase _) ?_;rintro p hp K4 J4;refine gC (fun y=>?_) (fun y=>?_)
   ·have fo:=aT y;obtain⟨x,hx⟩:=aJ fo;refine gi (aw hx) ?_;refine ga aL ?_;exact aM J4 (p+1) fo (hw:=Wk.of (.k (.cons rfl (.of (atl bl (aiz hx))) (.k (.k (.k (.k (.k (.k (.k (.k (.k (.k (.k (.k (.k .nil))))))))))))))) (.k (.k (.k .nil))))
   have fo:=bc hp y;subst fo;have EU:g.bo.take g.bo.length=g.bo:=asK;refine gC (fun y=>?_) (fun y=>?_)
   ·have h2 : g.bo.contains b = false := by rw [EU] at y; exact el y
    have h3:=Su (g:=g) hb;rw[atd (by rw[h2];simp)]at h3;refine ga aL ?_;exact aM J3 (q+1) bH (hw:=Wk.of (.k (.cons rfl (.of (atl i64 h3)) (.k (.k (.k (.k (.k (.k (.k (.k .nil)))))))))) (.k (.k (.k .nil))))
   have h2:g.bo.contains b=true:=by rw[EU]at y;exact fP y
   have h3:=Su (g:=g) hb;rw[ate h2]at h3;refine ga aL ?_;exact aM J3 (q+1) bH (hw:=Wk.of (.k (.cons rfl (.of (atl i64 h3)) (.k (.k (.k (.k (.k (.k (.k (.k .nil)))))))))) (.k (.k (.k .nil))))
  have bH:q=2:=bc (b:=2) hq y;subst bH;refine gs (eQ (.tmp rfl) rfl hlt.symm (.tmp rfl) T30 rfl T3 rfl rfl (by simp only[asi,asu];omega) rfl rfl) ?_ (25,0);refine gW (Wk.of (sl:=[pP 2 (.ptr 2 0),pP 3 (.ptr 3 0),pP 8 (.ms 80 1 0 (k+1)),pP 35 (.lst 1 (g.jo.map i64)),pP 36 (i64 g.jo.length),pP 37 (i64 k)]) (hp:=[pP 2 (.box l.av.cells),pP 3 (.box g.av.cells),pP 80 (.row 1 (((b7 l g).take (k+1)).map i64))]) a6 (.k (.k (.cons rfl (.of (atl (Blk.row 1) (Bc hz hj rfl))) .nil)))) ?_ (25,0);refine gW (Wk.rk (k:=80) (d:=900) rfl rfl) ?_;refine ga aL ?_;exact aM J2 (k+1) bh
 have bh:=bc hk y;subst bh;refine gW (Wk.of (sl:=[pP 8 (.ms 900 1 0 g.jo.length)]) (hp:=[pP 900 (.row 1 ((b7 l g).map i64))]) a6 (.cons rfl (.of (by rw[asn (by rw[lV];exact ar8 _)])) .nil)) ?_ (26,0);refine gW ((Wk.freeze (k:=900) rfl).trans (Wk.of (sl:=[pP 8 (.lst 1 ((b7 l g).map i64))]) (hp:=[]) (.cons rfl (.of (cq (by rw[ar3,lV]))) .nil) .nil)) ?_;refine bu ?_
 first |rfl |(simp;done)
theorem vT(i:Int)(n:Nat):FP 163 [i64 i,i64 n] (bl (aZ i n)):=by
 refine am func163 ?_;refine ah ?_;exact atl bl (Q4 i n)
theorem aj9(p q:Mk)(hp:p.ok)(hq:q.ok):FP 164 [p.av,q.av] (bl (decide (p.x.q=q.x.q/\p.y.q=q.y.q))):=by
 refine am func164 ?_;refine gc (Ll p.x q.x hp.x hq.x ((hp.qx.sub hq.qx).qs oz)) ?_;refine bV (fun _=>(Ll p.y q.y hp.y hq.y ((hp.qy.sub hq.qy).qs oz))) ?_;refine ah ?_;exact atl bl afm
theorem XA(b:Bd)(oe:b.ok):FP 162 [b.av] (i64 (if 8<b.pts.length then 4 else fI b.pts.length (fi b.pts):Nat)):=by
 have iM:=oe.ll;refine am func162 ?_;refine gl ?_;refine gC (fun z=>?_) (fun z=>?_)
 ·have h0:8<b.pts.length:=ee z;refine ah ?_;rw[ate h0];rfl
 have h0:b.pts.length<=8:=kl z;have e0:(if 8<b.pts.length then 4 else fI b.pts.length (fi b.pts):Nat)=fI b.pts.length (fi b.pts):=atd oz;refine aP [1] [1] (fun(p:Nat)=>[pP 3 (i64 p)]) (fun _=>[]) (fun p=>p<=b.pts.length/\∀j,j<p->fi b.pts j=0) (fun p=>b.pts.length-p) 0 ⟨ase _,fun j h=>by omega⟩ ?_;rintro p ⟨hp,j7⟩ K1 J1;refine gl ?_;refine gC (fun z=>?_) (fun z=>?_)
 ·have fo:=aT z;obtain⟨m,hm⟩:=aJ fo;have qR:b.pts.getD p default=m:=aS hm;have so:=ar1 hm;have Am:=ri Mk.name hm;have An:=oe.pts m so;refine gi (aw hm) ?_;refine gc (yx m.name (oe.names m so)) ?_;refine gC (fun z=>?_) (fun z=>?_)
  ·have h4:=el z;have e2:fi b.pts p = 5:=by unfold fi; rw [qR,ate h4]
   refine ah ?_;rw[e0,fx fo j7 (by rw[e2];decide),e2];rfl
  have h4:=fP z;refine aP [1,3,4] [1,4] (fun(q:Nat)=>[pP 5 (i64 q)]) (fun _=>[]) (fun q=>q<=p/\(b.pts.take q).any (fun y=>ez y.name m.name)=false) (fun q=>p-q) 0 ⟨ase _,rfl⟩ ?_;rintro q ⟨hq,ov⟩ K2 J2;refine gC (fun z=>?_) (fun z=>?_)
  ·have bH:=aT z;obtain⟨y,hy⟩:∃y,b.pts[q]?=some y:=aJ oz;refine gi (aw hy) ?_;refine gD ?_;refine gC (fun z=>?_) (fun z=>?_)
   ·have h5:ez y.name m.name = true:=z;have e2:fi b.pts p = 6:=by unfold fi; rw [qR,atd (by rw [h4]; decide),ate (by rw [Am]; exact oD hy bH h5)]
    refine ah ?_;rw[e0,fx fo j7 (by rw[e2];decide),e2];rfl
   have h5:ez y.name m.name=false:=z;refine ga aL ?_;exact aM J2 (q+1) ⟨bH,nI hy ov h5⟩
  have bH:=bc hq z;subst bH;have Ao:¬ic (b.pts.map Mk.name) q=true:=by rw[Am,ov];decide
  refine gc (zn m.x An.x) ?_;refine bV (fun _=>(zn m.y An.y)) ?_;refine gC (fun z=>?_) (fun z=>?_)
  ·have h6:=uc z;have e2:fi b.pts q = 3:=by unfold fi; rw [qR,atd (by rw [h4]; decide),atd Ao,atd (by rintro ⟨g1,g2⟩; rcases h6 with g | g; (rw [g1] at g; cases g); (rw [g2] at g; cases g))]
   refine ah ?_;rw[e0,fx fo j7 (by rw[e2];decide),e2];rfl
  have h6:=tb z;have e2:fi b.pts q=0:=by unfold fi;rw[qR,atd (by rw[h4];decide),atd Ao,ate h6]
  refine ga aL ?_;exact aM J1 (q+1) ⟨fo,fun j h9=>by rcases asb j q with g |g;exact j7 j g;(have:j=q:=by omega);subst this;exact e2⟩
 have fo:=bc hp z;subst fo;refine ah ?_;rw[e0,ry j7];rfl
theorem Zc(l:Li)(hl:l.ok):FP 75 [l.av] (i64 (jx l)):=by
 have eY:=hl.lb;have e0:jx l=fI l.bo.length (fv l.bo):=rfl;refine am func75 ?_;refine aP [1] [1] (fun(i:Nat)=>[pP 3 (i64 i)]) (fun _=>[]) (fun i=>i<=l.bo.length/\∀j,j<i->fv l.bo j=0) (fun i=>l.bo.length-i) 0 ⟨ase _,fun j h=>by omega⟩ ?_;rintro i ⟨hi,hj⟩ K1 J1;refine gl ?_;refine gC (fun z=>?_) (fun z=>?_)
 ·have af:=aT z;obtain⟨b,hb⟩:=aJ af;have dq:l.bo.getD i default=b:=aS hb;have oe:=hl.bo b (ar1 hb);have jK:=ri Bd.name hb;refine gi (aw hb) ?_;refine gc (yx b.name oe.name) ?_;refine gC (fun z=>?_) (fun z=>?_)
  ·have h1:=el z;have e1:fv l.bo i = 5:=by unfold fv; rw [dq,ate h1]
   refine ah ?_;rw[e0,fx af hj (by rw[e1];decide),e1];rfl
  have h1:=fP z;refine aP [1,3] [1] (fun(k:Nat)=>[pP 4 (i64 k)]) (fun _=>[]) (fun k=>k<=i/\(l.bo.take k).any (fun y=>ez y.name b.name)=false) (fun k=>i-k) 0 ⟨ase _,rfl⟩ ?_;rintro k ⟨hk,hd⟩ K2 J2;refine gC (fun z=>?_) (fun z=>?_)
  ·have bh:=aT z;obtain⟨y,hy⟩:∃y,l.bo[k]?=some y:=aJ oz;refine gi (aw hy) ?_;refine gi (aw hb) ?_;refine gD ?_;refine gC (fun z=>?_) (fun z=>?_)
   ·have h2:ez y.name b.name = true:=z;have e1:fv l.bo i = 6:=by unfold fv; rw [dq,atd (by rw [h1]; decide),ate (by rw [jK]; exact oD hy bh h2)]
    refine ah ?_;rw[e0,fx af hj (by rw[e1];decide),e1];rfl
   have h2:ez y.name b.name=false:=z;refine ga aL ?_;exact aM J2 (k+1) ⟨bh,nI hy hd h2⟩
  have bh:=bc hk z;subst bh;have cE:¬ic (l.bo.map Bd.name) k=true:=by rw[jK,hd];decide
  have e1:fv l.bo k=if 8<b.pts.length then 4 else fI b.pts.length (fi b.pts):=by unfold fv;rw[dq,atd (by rw[h1];decide),atd cE]
  refine gi (aw hb) ?_;refine gc (XA b oe) ?_;refine gC (fun z=>?_) (fun z=>?_)
  ·have h3:=yP z;refine ah ?_;rw[e0,fx af hj (by rw[e1];exact h3),e1]
  have h3:=wK z;refine ga aL ?_;exact aM J1 (k+1) ⟨af,fun j h9=>by rcases asb j k with g |g;exact hj j g;(have:j=k:=by omega);subst this;exact e1.trans h3⟩
 have af:=bc hi z;subst af;refine ah ?_;rw[e0,ry hj];rfl
theorem aai(l:Li)(hl:l.ok)(i:Nat)(hi:i<l.jo.length)(h16:l.jo.length<=16):FP 76 [l.av,i64 i] (i64 (iK l i)):=by
 obtain⟨j,qS⟩:=aJ hi;have dq:l.jo.getD i default=j:=aS qS;have jK:=ri Jt.name qS;refine am func76 ?_;refine gi (aw qS) ?_;refine gc (yx j.name (hl.jnames j (ar1 qS))) ?_;refine gC (fun z=>?_) (fun z=>?_)
 ·have h0:=el z;refine ah ?_;unfold iK;rw[dq,ate h0];rfl
 have h0:=fP z;refine aP [1,2,5] [2,5] (fun(k:Nat)=>[pP 6 (i64 k)]) (fun _=>[]) (fun k=>k<=i/\(l.jo.take k).any (fun y=>ez y.name j.name)=false) (fun k=>i-k) 0 ⟨ase _,rfl⟩ ?_;rintro k ⟨hk,hd⟩ K1 J1;refine gC (fun z=>?_) (fun z=>?_)
 ·have bh:=aT z;obtain⟨y,hy⟩:∃y,l.jo[k]?=some y:=aJ oz;refine gi (aw hy) ?_;refine gD ?_;refine gC (fun z=>?_) (fun z=>?_)
  ·have h2:ez y.name j.name=true:=z;refine ah ?_;unfold iK;rw[dq,atd (by rw[h0];decide),ate (by rw[jK];exact oD hy bh h2)];rfl
  have h2:ez y.name j.name=false:=z;refine ga aL ?_;exact aM J1 (k+1) ⟨bh,nI hy hd h2⟩
 have bh:=bc hk z;subst bh;have cE:¬ic (l.jo.map Jt.name) k=true:=by rw[jK,hd];decide
 have e1:iK l k=fF l j:=by unfold iK;rw[dq,atd (by rw[h0];decide),atd cE]
 refine gC (fun z=>?_) (fun z=>?_)
 ·have h1:=Rg z;refine ah ?_;rw[e1];unfold fF;rw[ate h1];rfl
 have h1:=QD z;refine gl ?_;refine gc (vT j.a l.bo.length) ?_;refine cG ?_;refine bV (fun _=>(vT j.b l.bo.length)) ?_;refine gC (fun z=>?_) (fun z=>?_)
 ·have h2:=uc z;refine ah ?_;rw[e1];unfold fF;rw[atd h1,ate h2];rfl
 have h2:=tb z;have kC:¬(aZ j.a l.bo.length=false\/aZ j.b l.bo.length=false):=by rw[h2.1,h2.2];simp
 obtain⟨A,hA,pA,mA,zA0⟩:=vi h2.1;obtain⟨B,hB,pB,mB,zB0⟩:=vi h2.2;refine gC (fun z=>?_) (fun z=>?_)
 ·have h3:=dJ z;refine ah ?_;rw[e1];unfold fF;rw[atd h1,atd kC,ate h3];rfl
 have h3:=du z;refine gi (aw hA) ?_;refine gi (aw hB) ?_;refine gD ?_;refine gl ?_;refine gc (vT j.point A.pts.length) ?_;refine cG ?_;refine bV (fun _=>(vT j.on B.pts.length)) ?_;refine gC (fun z=>?_) (fun z=>?_)
 ·have h4:=uc z;refine ah ?_;rw[e1];unfold fF;rw[atd h1,atd kC,atd h3,pA,pB,ate h4];rfl
 have h4:=tb z;have ow:¬(aZ j.point A.pts.length=false\/aZ j.on B.pts.length=false):=by rw[h4.1,h4.2];simp
 refine gC (fun z=>?_) (fun z=>?_)
 ·have h5:=dJ z;refine gC (fun z=>?_) (fun z=>?_)
  ·have h6:=A7 z;refine ah ?_;rw[e1];unfold fF;rw[atd h1,atd kC,atd h3,pA,pB,atd ow,ate h5,ate h6];rfl
  have h6:=Sb z;refine ah ?_;rw[e1];unfold fF;rw[atd h1,atd kC,atd h3,pA,pB,atd ow,ate h5,atd (by rw[h6];simp)];rfl
 have h5:=du z;refine gl ?_;refine gc (vT j.to B.pts.length) ?_;refine gC (fun z=>?_) (fun z=>?_)
 ·have h6:=el z;refine ah ?_;rw[e1];unfold fF;rw[atd h1,atd kC,atd h3,pA,pB,atd ow,atd h5,ate h6];rfl
 have h6:=fP z;obtain⟨m1,g1,d1,mm1,z1⟩:=zK h4.2;obtain⟨m2,g2,d2,mm2,z2⟩:=zK h6;have mo1:=(hl.bo B mB).pts m1 mm1;have mo2:=(hl.bo B mB).pts m2 mm2;refine gi (aw g1) ?_;refine gi (aw g2) ?_;refine gc (aj9 m1 m2 mo1 mo2) ?_;refine gD ?_;refine gC (fun z=>?_) (fun z=>?_)
 ·have h7:=atg z;refine ah ?_;rw[e1];unfold fF;rw[atd h1,atd kC,atd h3,pA,pB,atd ow,atd h5,atd (by rw[h6];decide),d1,d2,ate h7];rfl
 have h7:=ath z;refine ah ?_;rw[e1];unfold fF;rw[atd h1,atd kC,atd h3,pA,pB,atd ow,atd h5,atd (by rw[h6];decide),d1,d2,atd h7];rfl
theorem Yk(l:Li)(hl:l.ok)(i:Nat)(hi:i<l.drivers.length)(h2l:l.drivers.length<=2):FP 77 [l.av,i64 i] (i64 (eL l i)):=by
 obtain⟨b,hb⟩:=aJ hi;have dq:l.drivers.getD i default=b:=aS hb;have jK:=ri Dr.name hb;refine am func77 ?_;refine gi (aw hb) ?_;refine gc (yx b.name (hl.dnames b (ar1 hb))) ?_;refine gC (fun z=>?_) (fun z=>?_)
 ·have h1:=el z;refine ah ?_;unfold eL;rw[dq,ate h1];rfl
 have h1:=fP z;refine aP [1,2,5] [2,5] (fun(k:Nat)=>[pP 6 (i64 k)]) (fun _=>[]) (fun k=>k<=i/\(l.drivers.take k).any (fun y=>ez y.name b.name)=false) (fun k=>i-k) 0 ⟨ase _,rfl⟩ ?_;rintro k ⟨hk,hd⟩ K1 J1;refine gC (fun z=>?_) (fun z=>?_)
 ·have bh:=aT z;obtain⟨y,hy⟩:∃y,l.drivers[k]?=some y:=aJ oz;refine gi (aw hy) ?_;refine gD ?_;refine gC (fun z=>?_) (fun z=>?_)
  ·have h2:ez y.name b.name=true:=z;refine ah ?_;unfold eL;rw[dq,atd (by rw[h1];decide),ate (by rw[jK];exact oD hy bh h2)];rfl
  have h2:ez y.name b.name=false:=z;refine ga aL ?_;exact aM J1 (k+1) ⟨bh,nI hy hd h2⟩
 have bh:=bc hk z;subst bh;have cE:¬ic (l.drivers.map Dr.name) k=true:=by rw[jK,hd];decide
 refine gl ?_;refine gc (vT b.body l.bo.length) ?_;refine gC (fun z=>?_) (fun z=>?_)
 ·have h3:=el z;refine ah ?_;unfold eL;rw[dq,atd (by rw[h1];decide),atd cE,ate h3];rfl
 have h3:=fP z;refine gC (fun z=>?_) (fun z=>?_)
 ·have h4:=dJ z;refine ah ?_;unfold eL;rw[dq,atd (by rw[h1];decide),atd cE,atd (by rw[h3];decide),ate h4];rfl
 have h4:=du z;have e1:eL l k=if(l.drivers.take k).any (fun d=>decide (d.body=b.body))=true then 6 else 0:=by unfold eL;rw[dq,atd (by rw[h1];decide),atd cE,atd (by rw[h3];decide),atd h4]
 refine aP [1,2,5] [2,5] (fun(q:Nat)=>[pP 7 (i64 q)]) (fun _=>[]) (fun q=>q<=k/\(l.drivers.take q).any (fun d=>decide (d.body=b.body))=false) (fun q=>k-q) 0 ⟨ase _,rfl⟩ ?_;rintro q ⟨hq,ov⟩ K2 J2;refine gC (fun z=>?_) (fun z=>?_)
 ·have bH:=aT z;obtain⟨y,hy⟩:∃y,l.drivers[q]?=some y:=aJ oz;refine gi (aw hy) ?_;refine gD ?_;refine gC (fun z=>?_) (fun z=>?_)
  ·have h5:decide (y.body=b.body)=true:=ati (dJ z);refine ah ?_;rw[e1,ate (oD hy bH h5)];rfl
  have h5:decide (y.body=b.body)=false:=atj (du z);refine ga aL ?_;exact aM J2 (q+1) ⟨bH,nI hy ov h5⟩
 have bH:=bc hq z;subst bH;refine ah ?_;rw[e1,ov];rfl
theorem Ie(l:Li)(hl:l.ok):FP 26 [l.av] (i64 (ax l)):=by
 have eY:=hl.lb;refine am func26 ?_;refine gc (yx l.name hl.name) ?_;refine gC (fun z=>?_) (fun z=>?_)
 ·have h1:=el z;refine ah ?_;unfold ax;rw[ate h1];rfl
 have h1:=fP z;refine gl ?_;refine gC (fun z=>?_) (fun z=>?_)
 ·have h2:=Rd z;refine ah ?_;unfold ax;rw[atd (by rw[h1];decide),ate h2];rfl
 have h2:=LD z;refine gl ?_;refine gC (fun z=>?_) (fun z=>?_)
 ·have h3:8<l.bo.length:=ee z;refine ah ?_;unfold ax;rw[atd (by rw[h1];decide),atd h2,ate h3];rfl
 have h3:l.bo.length<=8:=kl z;have e0:ax l=if jx l≠0 then jx l else if fE l≠0 then fE l else iW l:=by unfold ax;rw[atd (by rw[h1];decide),atd h2,atd oz]
 refine gc (Zc l hl) ?_;refine gC (fun z=>?_) (fun z=>?_)
 ·have h4:jx l≠0:=yP z;refine ah ?_;rw[e0,ate h4]
 have h4:jx l=0:=wK z;refine gl ?_;refine gC (fun z=>?_) (fun z=>?_)
 ·have h5:16 < l.jo.length:=ee z;have ej:fE l = 4:=by unfold fE; rw [ate h5]
  refine ah ?_;rw[e0,atd (by rw[h4];simp),ate (by rw[ej];decide),ej];rfl
 have h5:l.jo.length<=16:=kl z;have ej:fE l=fI l.jo.length (iK l):=by unfold fE;rw[atd oz]
 refine aP [1] [1] (fun(i:Nat)=>[pP 4 (i64 i)]) (fun _=>[]) (fun i=>i<=l.jo.length/\∀j,j<i->iK l j=0) (fun i=>l.jo.length-i) 0 ⟨ase _,fun j h=>by omega⟩ ?_;rintro i ⟨hi,hj⟩ K1 J1;refine gl ?_;refine gC (fun z=>?_) (fun z=>?_)
 ·have af:=aT z;refine gc (aai l hl i af h5) ?_;refine gC (fun z=>?_) (fun z=>?_)
  ·have h6:=yP z;refine ah ?_;rw[e0,atd (by rw[h4];simp),ate (by rw[ej,fx af hj h6];exact h6),ej,fx af hj h6]
  have h6:=wK z;refine ga aL ?_;exact aM J1 (i+1) ⟨af,fun j h9=>by rcases asb j i with g |g;exact hj j g;(have:j=i:=by omega);subst this;exact h6⟩
 have af:=bc hi z;subst af;have ejz:fE l=0:=ej.trans (ry hj);have e0':ax l=iW l:=by rw[e0,atd (by rw[h4];simp),atd (by rw[ejz];simp)]
 refine gl ?_;refine gC (fun z=>?_) (fun z=>?_)
 ·have h6:2<l.drivers.length:=ee z;refine ah ?_;rw[e0'];unfold iW;rw[ate h6];rfl
 have h6:l.drivers.length<=2:=kl z;have ed:iW l=fI l.drivers.length (eL l):=by unfold iW;rw[atd oz]
 refine aP [1] [1] (fun(k:Nat)=>[pP 6 (i64 k)]) (fun _=>[]) (fun k=>k<=l.drivers.length/\∀j,j<k->eL l j=0) (fun k=>l.drivers.length-k) 0 ⟨ase _,fun j h=>by omega⟩ ?_;rintro k ⟨hk,jl⟩ K2 J2;refine gl ?_;refine gC (fun z=>?_) (fun z=>?_)
 ·have bh:=aT z;refine gc (Yk l hl k bh h6) ?_;refine gC (fun z=>?_) (fun z=>?_)
  ·have h7:=yP z;refine ah ?_;rw[e0',ed,fx bh jl h7]
  have h7:=wK z;refine ga aL ?_;exact aM J2 (k+1) ⟨bh,fun j h9=>by rcases asb j k with g |g;exact jl j g;(have:j=k:=by omega);subst this;exact h7⟩
 have bh:=bc hk z;subst bh;refine ah ?_;rw[e0',ed,ry jl];rfl
theorem Dj{l:Li}(hl:ax l=0):(ay l).length<=8:=by
 unfold ay;split
 ·exact(y9 hl).2
 ·exact ase _
abbrev eN{ts:LL}(p:Et ts×Et ts):AV:=aQ (sX p.1) (sX p.2)
abbrev nl:AV:=nS
section
variable{ts:LL}{a b a2 b2:List Rat}{x y x2 y2:Et ts}
end
open Lean.Grind (CommRing)
section
variable{r:(k:Nat)->T k}
end
section
variable{r:(k:Nat)->T k}{n:Nat}
def zS(h:il r n):Setoid (E r n) where
  r x y:=sg r n (x-y)=0
  iseqv:=by
    have H:=rc r n h;refine⟨fun x=>?_,fun {x y} e=>?_,fun {x y z} e f=>?_⟩
    · rw[show x-x=0 by grind];exact H.zero
    · rw[show y-x=-(x-y) by grind,H.neg,e];rfl
    · rw[show x-z=(x-y)+(y-z) by grind,H.zadd e];exact f
def Zq(h:il r n):Type:=Quotient (zS h)
def bj(h:il r n)(x:E r n):Zq h:=Quotient.mk (zS h) x
theorem v5(h:il r n){x y:E r n}:bj h x=bj h y↔sg r n (x-y)=0 :=
 ⟨fun e=>Quotient.exact (s:=zS h) e,fun e=>Quotient.sound (s:=zS h) e⟩
instance (h:il r n):Add (Zq h):=⟨Quotient.lift₂ (fun x y=>bj h (x+y)) (by
  intro a b c d e f;have H:=rc r n h;refine(v5 h).2 ?_;rw[show a+b-(c+d)=(a-c)+(b-d) by grind,H.zadd (show sg r n (a-c)=0 from e)];exact f)⟩
instance (h:il r n):Mul (Zq h):=⟨Quotient.lift₂ (fun x y=>bj h (x*y)) (by
  intro a b c d e f;have H:=rc r n h;refine(v5 h).2 ?_;have e':sg r n (a-c)=0:=e;have f':sg r n (b-d)=0:=f;rw[show a*b-c*d=(a-c)*b+c*(b-d) by grind,H.zadd (by rw[H.mul,e'];simp),H.mul,f'];simp)⟩
instance (h:il r n):Neg (Zq h):=⟨Quotient.lift (fun x=>bj h (-x)) (by
  intro a c e;have H:=rc r n h;refine(v5 h).2 ?_;have e':sg r n (a-c)=0:=e;rw[show -a - -c=-(a-c) by grind,H.neg,e'];rfl)⟩
instance (h:il r n):_root_.Sub (Zq h):=⟨fun x y=>x+-y⟩
instance (h:il r n)(c:Nat):OfNat (Zq h) c:=⟨bj h (OfNat.ofNat c)⟩
instance (h:il r n):NatCast (Zq h):=⟨fun c=>bj h (c:E r n)⟩
instance (h:il r n):IntCast (Zq h):=⟨fun c=>bj h (c:E r n)⟩
instance (h:il r n):SMul Nat (Zq h):=⟨fun c x=>bj h (c:E r n)*x⟩
instance (h:il r n):SMul Int (Zq h):=⟨fun c x=>bj h (c:E r n)*x⟩
def Zq.pow{h:il r n}(x:Zq h):Nat->Zq h
  |0=>bj h 1
  |c+1=>Zq.pow x c*x
instance (h:il r n):HPow (Zq h) Nat (Zq h):=⟨Zq.pow⟩
variable(h:il r n)
theorem GL(x y:E r n):bj h (x+y)=bj h x+bj h y:=rfl
theorem D5(x y:E r n):bj h (x*y)=bj h x*bj h y:=rfl
theorem Wm(x y:E r n):bj h (x-y)=bj h x-bj h y:=by
 rw[show x-y=x+-y by grind];rfl
theorem fV(a:Zq h):∃x,a=bj h x:=Quotient.ind (motive:=fun a=>∃x,a=bj h x) (fun x=>⟨x,rfl⟩) a
instance zRing:CommRing (Zq h) where
  add_zero a:=by
    obtain⟨x,rfl⟩:=fV h a;exact atl (bj h) (show x+0=x by grind)
  add_comm a b:=by
    obtain⟨x,rfl⟩:=fV h a;obtain⟨y,rfl⟩:=fV h b;exact atl (bj h) (show x+y=y+x by grind)
  add_assoc a b c:=by
    obtain⟨x,rfl⟩:=fV h a;obtain⟨y,rfl⟩:=fV h b;obtain⟨z,rfl⟩:=fV h c;exact atl (bj h) (show x+y+z=x+(y+z) by grind)
  mul_assoc a b c:=by
    obtain⟨x,rfl⟩:=fV h a;obtain⟨y,rfl⟩:=fV h b;obtain⟨z,rfl⟩:=fV h c;exact atl (bj h) (show x*y*z=x*(y*z) by grind)
  mul_one a:=by
    obtain⟨x,rfl⟩:=fV h a;exact atl (bj h) (show x*1=x by grind)
  one_mul a:=by
    obtain⟨x,rfl⟩:=fV h a;exact atl (bj h) (show 1*x=x by grind)
  left_distrib a b c:=by
    obtain⟨x,rfl⟩:=fV h a;obtain⟨y,rfl⟩:=fV h b;obtain⟨z,rfl⟩:=fV h c;exact atl (bj h) (show x*(y+z)=x*y+x*z by grind)
  right_distrib a b c:=by
    obtain⟨x,rfl⟩:=fV h a;obtain⟨y,rfl⟩:=fV h b;obtain⟨z,rfl⟩:=fV h c;exact atl (bj h) (show(x+y)*z=x*z+y*z by grind)
  zero_mul a:=by
    obtain⟨x,rfl⟩:=fV h a;exact atl (bj h) (show 0*x=0 by grind)
  mul_zero a:=by
    obtain⟨x,rfl⟩:=fV h a;exact atl (bj h) (show x*0=0 by grind)
  pow_zero a:=rfl
  pow_succ a c:=rfl
  ofNat_succ c:=atl (bj h) (Lean.Grind.Semiring.ofNat_succ (α:=E r n) c)
  ofNat_eq_natCast c:=atl (bj h) (Lean.Grind.Semiring.ofNat_eq_natCast (α:=E r n) c)
  nsmul_eq_natCast_mul c a:=rfl
  neg_add_cancel a:=by
    obtain⟨x,rfl⟩:=fV h a;exact atl (bj h) (show -x+x=0 by grind)
  sub_eq_add_neg a b:=rfl
  neg_zsmul i a:=by
    obtain⟨x,rfl⟩:=fV h a
    exact atl (bj h) (show((-i:Int):E r n)*x=-((i:E r n)*x) by
      rw[Lean.Grind.Ring.intCast_neg];grind)
  zsmul_natCast_eq_nsmul c a:=rfl
  intCast_ofNat c:=atl (bj h) (Lean.Grind.Ring.intCast_ofNat (α:=E r n) c)
  intCast_neg i:=atl (bj h) (Lean.Grind.Ring.intCast_neg (α:=E r n) i)
  mul_comm a b:=by
    obtain⟨x,rfl⟩:=fV h a;obtain⟨y,rfl⟩:=fV h b;exact atl (bj h) (show x*y=y*x by grind)
theorem agp{x:E r n}:bj h x=0↔sg r n x=0:=by
 have e:=v5 h (x:=x) (y:=0);rw[show x-0=x by grind]at e;exact e
end
example {r:(k:Nat)->T k} {n:Nat} (h:il r n) (a b c:Zq h) (e:a*b=1) (f:c*a=2):c=2*b:=by grind
end Go.Lw
namespace Go.Lw
open Lean.Grind (CommRing)
structure Hm{ts:LL}{R:Type}[CommRing R](f:Et ts->R):Prop where
  add:∀x y,f (x+y)=f x+f y
  mul:∀x y,f (x*y)=f x*f y
  neg:∀x,f (-x)=-f x
  one:f 1=1
  inv:∀x,be x≠0->f (iE x)*f x=1
  zero:∀x,f x=0↔be x=0
section
variable{ts:LL}{R:Type}[CommRing R]{f:Et ts->R}(h:Hm f)
include h
theorem Hm.sub(x y:Et ts):f (x-y)=f x-f y:=by
 rw[show x-y=x+-y by grind,h.add,h.neg];grind
theorem Hm.q1:f (qE ((1:Int):Rat))=1:=by rw[afq];exact h.one
theorem Hm.q4:f (qE 4)=4:=by
 have e:(qE 4:Et ts)=1+1+1+1:=by
  have e1:=pa (r:=aI ts) (n:=ts.length) 1 1;have e2:=pa (r:=aI ts) (n:=ts.length) 2 2;rw[show(1:Rat)+1=2 by decide +kernel]at e1;rw[show(2:Rat)+2=4 by decide +kernel,e1]at e2;rw[e2];have e3:(qE 1:Et ts)=1:=rfl;rw[e3];grind
 rw[e,h.add,h.add,h.add,h.one];grind
end
abbrev OQ(ts:LL):Prop:=il (aI ts) ts.length
section
variable{R:Type}[CommRing R]
end
end Go.Lw
namespace Go.Lw
open Lean.Grind (CommRing)
def fk{ts:LL}(T:LL)(y:Et ts):Et T:=dE T (sX y)
structure Lf(ts T:LL):Prop where
  pos:OQ T
  hm:Hm (fun y:Et ts=>bj pos (fk T y))
  low:∀l:List Rat,l.length<=2^ts.length->fk T (dE ts l)=dE T l
  q:∀q:Rat,fk T (qE q:Et ts)=qE q
  len:ts.length<=T.length
  sg:∀y:Et ts,be (fk T y)=be y
  ad:∀x y:Et ts,fk T (x+y)=fk T x+fk T y
  mu:∀x y:Et ts,fk T (x*y)=fk T x*fk T y
section
variable{ts:LL}
end
end Go.Lw
namespace Go.Lw
open Lean.Grind (CommRing)
def tB(T:LL)(p:Pq)(m:Rat×Rat):P2 T:=(dE T p.c*qE m.1-dE T p.s*qE m.2+dE T p.x,dE T p.s*qE m.1+dE T p.c*qE m.2+dE T p.y)
def fY(l:Li)(T:LL)(bs:List Pq)(b pt:Int):P2 T:=tB T (bs.getD b.toNat ke) (az l b pt)
def JH(l:Li)(T:LL)(bs:List Pq)(j:Jt):Prop :=
  if j.kind=0 then be ((fY l T bs j.a j.point).1-(fY l T bs j.b j.on).1)=0/\be ((fY l T bs j.a j.point).2-(fY l T bs j.b j.on).2)=0
  else be (rj (cZ (fY l T bs j.b j.to) (fY l T bs j.b j.on)) (cZ (fY l T bs j.a j.point) (fY l T bs j.b j.on)))=0
section
variable{T:LL}{u p c:Rat×Rat}{w o:P2 T}
end
def tK(a:As):List Pq:=a.bs.map fun b=>⟨lq b.c,lq b.s,lq b.x,lq b.y⟩
theorem MY(l:Li)(a:As)(b pt:Int):aC l a b pt=fY l (llq a.rs) (tK a) b pt:=by
 have e:(tK a).getD b.toNat ke=⟨lq (a.bs.getD b.toNat default).c,lq (a.bs.getD b.toNat default).s,lq (a.bs.getD b.toNat default).x,lq (a.bs.getD b.toNat default).y⟩:=by
  unfold tK;rw[ar2,ar2,asa];cases a.bs[b.toNat]? <;> rfl
 unfold fY;rw[e];rfl
def Nq(n:Nat)(p:Pq):Prop:=p.c.length<=2^n/\p.s.length<=2^n/\p.x.length<=2^n/\p.y.length<=2^n
section
variable{ts T:LL}(L:Lf ts T)
include L
theorem Lf.add(x y:Et ts):bj L.pos (fk T (x+y))=bj L.pos (fk T x)+bj L.pos (fk T y):=L.hm.add x y
theorem Lf.mul(x y:Et ts):bj L.pos (fk T (x*y))=bj L.pos (fk T x)*bj L.pos (fk T y):=L.hm.mul x y
theorem Lf.sub(x y:Et ts):bj L.pos (fk T (x-y))=bj L.pos (fk T x)-bj L.pos (fk T y):=L.hm.sub x y
theorem Lf.one:bj L.pos (fk T (1:Et ts))=1:=L.hm.one
theorem Lf.at{p:Pq}(hp:Nq ts.length p)(m:Rat×Rat):bj L.pos (tB T p m).1=bj L.pos (fk T (tB ts p m).1)/\bj L.pos (tB T p m).2=bj L.pos (fk T (tB ts p m).2):=by
 obtain⟨h1,h2,h3,h4⟩:=hp;unfold tB;dsimp only;constructor
 ·rw[L.add,L.sub,L.mul,L.mul,L.low _ h1,L.low _ h2,L.low _ h3,L.q,L.q,GL,Wm,D5,D5]
 ·rw[L.add,L.add,L.mul,L.mul,L.low _ h1,L.low _ h2,L.low _ h4,L.q,L.q,GL,GL,D5,D5]
theorem Lf.zero(x:Et ts):be (fk T x)=0↔be x=0:=(agp L.pos).symm.trans (L.hm.zero x)
end
end Go.Lw
namespace Go.Lw
open Lean.Grind (CommRing)
def GS(bs bs':List Pq)(n:Nat)(b:Int):Prop:=bs'.getD b.toNat ke=bs.getD b.toNat ke/\Nq n (bs.getD b.toNat ke)
section
variable{ts T:LL}(L:Lf ts T)
include L
theorem Lf.pt(l:Li){bs bs':List Pq}{b:Int}(h:GS bs bs' ts.length b)(pt:Int) :
  bj L.pos (fY l T bs' b pt).1=bj L.pos (fk T (fY l ts bs b pt).1)/\bj L.pos (fY l T bs' b pt).2=bj L.pos (fk T (fY l ts bs b pt).2):=by
 unfold fY;rw[h.1];exact L.at h.2 _
end
section
variable{T:LL}(hp:OQ T)
include hp
theorem QP{l:Li}{bs:List Pq}{j:Jt}(hk:j.kind=0)(h1:bj hp (fY l T bs j.a j.point).1=bj hp (fY l T bs j.b j.on).1)(h2:bj hp (fY l T bs j.a j.point).2=bj hp (fY l T bs j.b j.on).2):JH l T bs j:=by
 unfold JH;rw[ate hk];exact⟨(v5 hp).1 h1,(v5 hp).1 h2⟩
end
section
variable{ts T:LL}(L:Lf ts T)
include L
end
section
variable{l:Li}{a:As}{T:LL}(L:Lf (llq a.rs) T)
include L
theorem Lf.pin{bs':List Pq}{j:Jt}{i:Int}(hk:j.kind=0)(tie:(j.a=i/\GS (tK a) bs' (llq a.rs).length j.b)\/(j.a≠i/\j.b=i/\GS (tK a) bs' (llq a.rs).length j.a))
  (h:tB T (bs'.getD i.toNat ke) (aH l j i)=(fk T (aN l a j i).1,fk T (aN l a j i).2)):JH l T bs' j:=by
 have h1:=atl Prod.fst h;have h2:=atl Prod.snd h;dsimp only at h1 h2;rcases tie with⟨e,hs⟩ |⟨e,e2,hs⟩
 ·have b:=L.pt l hs j.on;unfold aH aN at h1 h2;simp only[ate e]at h1 h2;rw[MY]at h1 h2;refine QP L.pos hk ?_ ?_
  ·rw[b.1];unfold fY;rw[e];exact atl (bj L.pos) h1
  ·rw[b.2];unfold fY;rw[e];exact atl (bj L.pos) h2
 ·have b:=L.pt l hs j.point;unfold aH aN at h1 h2;simp only[atd e]at h1 h2;rw[MY]at h1 h2;refine QP L.pos hk ?_ ?_
  ·rw[b.1]
   conv=>rhs;unfold fY
   rw[e2];exact(atl (bj L.pos) h1).symm
  ·rw[b.2]
   conv=>rhs;unfold fY
   rw[e2];exact(atl (bj L.pos) h2).symm
end
section
variable{l:Li}{a:As}{r:Nat}(tw:Tw (llq a.rs) r)(hN:∀p∈tK a,Nq (llq a.rs).length p)
include tw hN
end
end Go.Lw
namespace Go.Lw
open Lean.Grind (CommRing)
section
variable{l:Li}{a:As}{r:Nat}(tw:Tw (llq a.rs) r)(hN:∀p∈tK a,Nq (llq a.rs).length p)
include tw hN
end
end Go.Lw
namespace Go.Lw
open Lean.Grind (CommRing)
section
variable{R:Type}[CommRing R]
end
section
variable{ts:LL}
end
section
variable{ts T:LL}(L:Lf ts T)
include L
end
end Go.Lw
namespace Go.Lw
open Go.Proofs
abbrev XD(p:Rat×Rat):List AV:=(qA p.1).cells++(qA p.2).cells
abbrev n8(p:Rat×Rat):AV:=.agg (XD p)
abbrev jq(v:List Rat×List Rat):AV:=.agg [nA v.1,nA v.2]
abbrev wS(l:Li)(G:List Gr)(e:Nat):List AV:=[.v (.string l.name),.lst 2 (l.bo.map Bd.av),.lst 7 (l.jo.map Jt.av),.lst 2 (l.drivers.map Dr.av),.lst 4 (G.map Gr.av),bQ e]
abbrev de(l:Li)(G:List Gr)(e:Nat):Hp:=[pP 1000 (.box (wS l G e))]
theorem Mi{e:Nat}(h:fc (ja e)=true):e=0:=by
 cases e with
 |zero=>rfl
 |succ n=>cases h
theorem Zr{e:Nat}(h:fc (ja e)=false):e≠0:=by
 intro h0;subst h0;cases h
theorem ado(e:Nat):(bQ e).ok=true:=by cases e <;> rfl
theorem Ma(q:Rat):jN (qA q) (qA q):=⟨rfl,fun j x y hx hy=>by
 match j,hx,hy with
 |0,hx,hy=>cases hx;cases hy;exact⟨rfl,.refl _⟩
 |1,hx,hy=>cases hx;cases hy;exact⟨rfl,.refl _⟩
 |2,hx,hy=>cases hx;cases hy;exact⟨rfl,.refl _⟩⟩
theorem ZI:jN (.agg [.v (.bool false),nS,nS]) (qA 0):=⟨rfl,fun j x y hx hy=>by
 match j,hx,hy with
 |0,hx,hy=>cases hx;cases hy;exact⟨rfl,.refl _⟩
 |1,hx,hy=>cases hx;cases hy;exact⟨rfl,.nil _ _ _⟩
 |2,hx,hy=>cases hx;cases hy;exact⟨rfl,.nil _ _ _⟩⟩
theorem ai5{sz:Nat}{a b c a' b' c':AV}(h1:jN a a')(h2:jN b b')(h3:jN c c'):Sub (.lst sz [a,b,c]) (.lst sz [a',b',c']) :=
 Sub.lst rfl (fun i x y hx hy=>by
  match i,hx,hy with
  |0,hx,hy=>cases hx;cases hy;exact h1
  |1,hx,hy=>cases hx;cases hy;exact h2
  |2,hx,hy=>cases hx;cases hy;exact h3)
def dP(e:Nat)(xs:List Rat):Nat:=if e≠0 then e else if xs.all (fun x=>decide (0<x))then 0 else 15
theorem Xy(e:Nat):dP e []=e:=by unfold dP;split;rfl;(rename_i h;simp only[List.all_nil,if_true];omega)
theorem aan(e:Nat)(xs:List Rat)(x:Rat):dP e (xs++[x])=if dP e xs≠0 then dP e xs else if 0<x then 0 else 15:=by
 unfold dP
 by_cases h:e≠0
 ·rw[ate h,ate h,ate h]
 ·rw[atd h,atd h,all_append];cases h1:xs.all (fun x=>decide (0<x))
  ·simp
  ·simp
theorem Oi{x:Rat}:aa .leq (a9 x) 0=!decide (0<x):=by
 have h:aa .leq (a9 x) 0=decide (a9 x<=0):=rfl;rw[h];rcases oT x with h |h |h
 ·rw[ati oz,atj (by grind)];rfl
 ·rw[ati oz,atj (by grind)];rfl
 ·rw[atj oz,ati h.2];rfl
section
variable(l:Li)(G:List Gr)
theorem WY(p:List Rat)(e2:Nat):Con prog 284 [.ptr 1000 0,nA p,bQ e2] (de l G 0) (nA p) (de l G e2):=by
 refine gF func284 (fun k z h=>bD h) ?_;refine gC (fun y=>?_) (fun y=>?_) (st1:=(2,5)) (st2:=(77777,0))
 ·refine gs ((OO (.tmp rfl) rfl (.tmp rfl) (ado e2) T32 rfl rfl)) ?_;refine gR ?_;exact aD.keep (bt rfl)
 cases y
theorem Vv{e:Nat}(he:e≠0)(p:List Rat)(e2:Nat):Con prog 284 [.ptr 1000 0,nA p,bQ e2] (de l G e) (nA p) (de l G e):=by
 refine gF func284 (fun k z h=>bD h) ?_;refine gC (fun y=>?_) (fun y=>?_) (st1:=(2,0));exact atk (Mi y) he;refine gR ?_;exact aD.keep (bt rfl)
theorem PP(e:Nat)(p:List Rat)(e2:Nat):Con prog 284 [.ptr 1000 0,nA p,bQ e2] (de l G e) (nA p) (de l G (if e=0 then e2 else e)):=by
 by_cases h:e=0
 ·subst h;rw[ate rfl];exact WY l G p e2
 ·rw[atd h];exact Vv l G h p e2
theorem xM(e:Nat)(p:List Rat):Con prog 284 [.ptr 1000 0,nA p,.v .nilIface] (de l G e) (nA p) (de l G e):=by
 have h:=PP l G e p 0;have e1:(if e=0 then 0 else e)=e:=by split <;> omega
 rw[e1]at h;exact h
theorem D7{p q r:List Rat}(e:Nat)(h:FP 286 [nA p,nA q] (.tup [nA r,.v .nilIface])):Con prog 185 [.ptr 1000 0,nA p,nA q] (de l G e) (nA r) (de l G e):=by
 refine gF func185 (fun k z h=>bD h) ?_;refine gc h ?_;refine gt (aG (xM l G e r) (aB rfl rfl rfl) aK rfl rfl) ?_;refine gR ?_;exact aD.keep (bt rfl)
theorem vn{p q r:List Rat}(e:Nat)(h:FP 288 [nA p,nA q] (.tup [nA r,.v .nilIface])):Con prog 188 [.ptr 1000 0,nA p,nA q] (de l G e) (nA r) (de l G e):=by
 refine gF func188 (fun k z h=>bD h) ?_;refine gc h ?_;refine gt (aG (xM l G e r) (aB rfl rfl rfl) aK rfl rfl) ?_;refine gR ?_;exact aD.keep (bt rfl)
theorem q7{p q r:List Rat}(e:Nat)(h:FP 166 [nA p,nA q] (.tup [nA r,.v .nilIface])):Con prog 187 [.ptr 1000 0,nA p,nA q] (de l G e) (nA r) (de l G e):=by
 refine gF func187 (fun k z h=>bD h) ?_;refine gc h ?_;refine gt (aG (xM l G e r) (aB rfl rfl rfl) aK rfl rfl) ?_;refine gR ?_;exact aD.keep (bt rfl)
theorem tq{p r:List Rat}{c:Rat}(e:Nat)(h:FP 287 [nA p,qA c] (.tup [nA r,.v .nilIface])):Con prog 186 [.ptr 1000 0,qA c,nA p] (de l G e) (nA r) (de l G e):=by
 refine gF func186 (fun k z h=>bD h) ?_;refine gc h ?_;refine gt (aG (xM l G e r) (aB rfl rfl rfl) aK rfl rfl) ?_;refine gR ?_;exact aD.keep (bt rfl)
theorem HT(p:List Rat)(hq:∀c∈p,Qs c)(hl:p.length<=1000):FP 165 [nA p] (nA (ptr p)):=by
 refine am func165 ?_;refine gc (Eb p hq hl) ?_;refine ah ?_;rfl
theorem Dv:FP 179 [] (nA pW):=by
 have hl:=HT pW (fun c hc=>by simp only[pW,asj,asf,or_false]at hc;rcases hc with rfl |rfl |rfl;exact Qb.one.qs oz;exact Qs.zero;exact Qb.one.qs oz) (by decide);have sE:FP 165 [.lst 3 [qA ((1:Int):Rat),.agg [.v (.bool false),nS,nS],qA ((1:Int):Rat)]] (nA pW):=Con.sA (.cons (ai5 (Ma _) ZI (Ma _)) .nil) hl;refine am func179 ?_;refine gc (kW 1 oz) ?_;refine gc (kW 1 oz) ?_;refine gc sE ?_;refine ah ?_;rfl
theorem Rs{p:List Rat}(e:Nat)(h:FP 366 [nA p,nA pW] (.tup [nA (dvQ p),nA (gX p),.v .nilIface]))(h0:gX p=[]):Con prog 285 [.ptr 1000 0,nA p] (de l G e) (nA (dvQ p)) (de l G e):=by
 rw[h0]at h;refine gF func285 (fun k z h=>bD h) ?_;refine gc Dv ?_;refine gc h ?_;refine cG ?_;refine gf ?_;refine gt (aG (xM l G e (dvQ p)) (aB rfl rfl rfl) aK rfl rfl) ?_;refine gR ?_;exact aD.keep (bt rfl)
theorem QT{p q:Rat×Rat}(h1:Qs p.1)(h2:Qs p.2)(h3:Qs q.1)(h4:Qs q.2):FP 182 [n8 p,n8 q] (n8 (a7 p q)):=by
 refine am func182 ?_;refine gc (oW h1 h3) ?_;refine gc (oW h2 h4) ?_;refine gD ?_;refine ah ?_;rfl
theorem ahb{p:Rat×Rat}(h1:Qs p.1)(h2:Qs p.2)(h3:Qs (p.1*p.1))(h4:Qs (p.2*p.2)):FP 181 [n8 p] (qA (p.1*p.1+p.2*p.2)):=by
 refine am func181 ?_;refine gc (iG h1 h1) ?_;refine gc (iG h2 h2) ?_;refine gc (rU h3 h4) ?_;refine gD ?_;refine ah ?_;rfl
theorem CZ(j:Jt)(b:Int):FP 176 [j.av,i64 b] (.tup [i64 (dc j b),i64 (br j b),i64 (aR j b)]):=by
 refine am func176 ?_;refine gC (fun z=>?_) (fun z=>?_)
 ·have h1:j.a=b:=dJ z;refine gD ?_;refine oc ?_;unfold dc br aR;rw[ate h1,ate h1,ate h1]
 have h1:j.a≠b:=du z;refine gD ?_;refine oc ?_;unfold dc br aR;rw[atd h1,atd h1,atd h1]
theorem HK(e:Nat)(xs:List Rat)(hq:∀x∈xs,Qs x)(hl:xs.length<=100):Con prog 183 [.ptr 1000 0,nA xs] (de l G e) (.tup []) (de l G (dP e xs)):=by
 refine gF func183 (fun k z h=>bD h) ?_;refine gl ?_;refine aP [0,6,7] [] (fun(i:Nat)=>[pP 8 (i64 i)]) (fun i=>[pP 1000 (.box (wS l G (dP e (xs.take i))))]) (fun i=>i<=xs.length) (fun i=>xs.length-i) 0 (ase _) ?_ (h2:=(.cons rfl (.of (by rw[List.take_zero,Xy])) .nil));rintro i hi K1 J1;refine gC (fun y=>?_) (fun y=>?_) (st1:=(2,0))
 ·have af:=aT y;obtain ⟨x,hx⟩:=aJ af;have hs:dP e (xs.take (i + 1)) = if dP e (xs.take i) ≠ 0 then dP e (xs.take i) else if 0 < x then 0 else 15:=by rw [fO hx,aan]
  have hk:Con prog 284 [.ptr 1000 0,nS,bQ 15] (de l G (dP e (xs.take i))) (nA []) (de l G (if dP e (xs.take i)=0 then 15 else dP e (xs.take i))):=Con.sA (.cons (.refl _) (.cons (Sub.nil 3 none 0) (.cons (.refl _) .nil))) (PP l G (dP e (xs.take i)) [] 15);refine v7 [0,6,7,8] [] [] [pP 1000 (.box (wS l G (dP e (xs.take (i+1)))))] (True) ?_ ?_ 2
  ·intro K2 J2;refine gi (aw hx) ?_;refine gc (wR (hq x (ar1 hx))) ?_;refine gC (fun y=>?_) (fun y=>?_)
   ·have h9 : ¬ 0 < x := by rw [Oi] at y; simpa using y
    refine gt (aG hk (.cons (.tmp rfl) (.cons (.const _) (eJ rfl))) aK rfl rfl) ?_;exact k8 J2 trivial (hw:=Wk.of a6 (.cons rfl (.of (by rw[hs];congr 2;by_cases h8:dP e (xs.take i)=0;(rw[ate h8,atd (fun h=>h h8),atd h9]);(rw[atd h8,ate h8]))) .nil))
   have h9:0<x:=by rw[Oi]at y;simpa using y
   exact k8 J2 trivial (hw:=Wk.of a6 (.cons rfl (.of (by rw[hs];congr 2;by_cases h8:dP e (xs.take i)=0;(rw[atd (fun h=>h h8),ate h9,h8]);(rw[ate h8]))) .nil))
  rintro -;refine ga aL ?_;exact aM J1 (i+1) af
 have af:=bc hi y;subst af;rw[asK];refine gR ?_;exact aD.keep (bt rfl)
end
def lN(p:Rat×Rat):List Rat×List Rat:=(padd [] pW p.1,padd [] pW p.2)
def qX(d:Rat×Rat):List Rat:=[d.1,-(((2:Int):Rat)*d.2),-d.1]
def rY(d:Rat×Rat):List Rat:=[d.2,((2:Int):Rat)*d.1,-d.2]
def cI(l:Li)(j:Jt)(b pt:Int):List Rat×List Rat :=
  if b=0 then lN (az l 0 pt)
  else(padd (lN (az l 0 (aR j b))).1 (ptr (qX (a7 (az l b pt) (az l b (dc j b))))) 1,padd (lN (az l 0 (aR j b))).2 (ptr (rY (a7 (az l b pt) (az l b (dc j b))))) 1)
def jp(a b:List Rat×List Rat):List Rat×List Rat:=(padd a.1 b.1 (-1),padd a.2 b.2 (-1))
def nK(a b:List Rat×List Rat):List Rat:=padd (gz a.1 b.1) (gz a.2 b.2) 1
def pM(a b:List Rat×List Rat):List Rat:=padd (gz a.1 b.2) (gz a.2 b.1) (-1)
structure Plm(n e:Nat)(p:List Rat):Prop where
  td:dV p
  len:p.length<=n
  b:Pb e p
theorem Plm.po{n e:Nat}{p:List Rat}(h:Plm n e p)(hn:n<=30):Po e p:=⟨h.td,by have:=h.len;omega,h.b⟩
theorem Plm.mono{n e m f:Nat}{p:List Rat}(h:Plm n e p)(hn:n<=m)(hf:e<=f):Plm m f p:=⟨h.td,by have:=h.len;omega,h.b.mono hf⟩
theorem Plm.add{n e m f k:Nat}{p q:List Rat}{c:Rat}(hp:Plm n e p)(hq:Plm m f q)(hc:Qb k c):Plm (max n m) (e+(k+f)+1) (padd p q c):=⟨eH _,by have:=GM p q c;have:=hp.len;have:=hq.len;omega,hp.b.add hc hq.b⟩
theorem Plm.mul{n e m f:Nat}{p q:List Rat}(hp:Plm n e p)(hq:Plm m f q):Plm (n+m-1) (n*(e+f+1)+1) (gz p q) :=
 ⟨eH _,by have:=Ro p q;have:=hp.len;have:=hq.len;omega,(hp.b.mul hq.b).mono (by have:=asl (e+f+1) hp.len;omega)⟩
theorem Plm.dvQ{n e:Nat}{p:List Rat}(hp:Plm n e p):Plm n (n*(e+1)+1) (Lw.dvQ p) :=
 ⟨eH _,asv (U7 p) hp.len,hp.b.dvQ.mono (by have:=asl (e+1) hp.len;omega)⟩
theorem rx:Plm 3 1 pW:=⟨rfl,by decide,fun c hc=>by simp only[pW,asj,asf,or_false]at hc;rcases hc with rfl |rfl |rfl;exact Qb.one;exact Qb.zero;exact Qb.one⟩
theorem f9(n:Nat):Plm n 1 []:=⟨rfl,ase _,fun c hc=>by cases hc⟩
structure Vn(e:Nat)(v:List Rat×List Rat):Prop where
  x:Plm 3 e v.1
  y:Plm 3 e v.2
theorem Vn.mono{e f:Nat}{v:List Rat×List Rat}(h:Vn e v)(hf:e<=f):Vn f v:=⟨h.x.mono (ar8 _) hf,h.y.mono (ar8 _) hf⟩
theorem Iu{k:Nat}{p:Rat×Rat}(h:Sm k p):Vn (k+3) (lN p):=⟨((f9 3).add rx h.x).mono oz oz,((f9 3).add rx h.y).mono oz oz⟩
theorem LX{k:Nat}{d:Rat×Rat}(h:Sm k d):Plm 3 (k+3) (ptr (qX d))/\Plm 3 (k+3) (ptr (rY d)):=by
 have h2:Qb 2 (((2:Int):Rat)):=⟨by decide,by decide⟩
 refine⟨⟨eH _,ka _,Pb.tr fun c hc=>?_⟩,⟨eH _,ka _,Pb.tr fun c hc=>?_⟩⟩
 ·simp only[qX,asj,asf,or_false]at hc;rcases hc with rfl |rfl |rfl
  ·exact h.x.mono oz
  ·exact(h2.mul h.y).neg.mono oz
  ·exact h.x.neg.mono oz
 ·simp only[rY,asj,asf,or_false]at hc;rcases hc with rfl |rfl |rfl
  ·exact h.y.mono oz
  ·exact(h2.mul h.x).mono oz
  ·exact h.y.neg.mono oz
theorem mI{e f:Nat}{a b:List Rat×List Rat}(ha:Vn e a)(hb:Vn f b):Vn (e+f+2) (jp a b):=by
 have h1:Qb 1 (((-1:Int):Rat)):=⟨by decide,by decide⟩
 exact⟨(ha.x.add hb.x h1).mono oz oz,(ha.y.add hb.y h1).mono oz oz⟩
theorem nP{e f:Nat}{a b:List Rat×List Rat}(ha:Vn e a)(hb:Vn f b):Plm 5 (6*(e+f+1)+4) (nK a b)/\Plm 5 (6*(e+f+1)+4) (pM a b):=by
 have h1:Qb 1 (((1:Int):Rat)):=Qb.one;have h2:Qb 1 (((-1:Int):Rat)):=⟨by decide,by decide⟩
 exact⟨((ha.x.mul hb.x).add (ha.y.mul hb.y) h1).mono oz oz,((ha.x.mul hb.y).add (ha.y.mul hb.x) h2).mono oz oz⟩
end Go.Lw
