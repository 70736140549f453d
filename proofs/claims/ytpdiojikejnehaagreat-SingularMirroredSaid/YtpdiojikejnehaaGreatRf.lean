/- SingularMirrored: for any linkage and any turns the law returns true and leaves its arguments as they were. No other condition. Part 6 of 8: what the later parts need -/
import Derived.Test.YtpdiojikejnehaaGreatRe
import Derived.Laws.Cover3
set_option linter.unusedVariables false
open List (mem_append nil_append map_nil map_map range_succ)
open List renaming mem_of_getElem? → Xx, map_cons → Yi, mem_cons → X6, length_cons → XK, length_append → XZ, length_nil → XM, getD_eq_getElem?_getD → Xy, getElem?_append_left → XU, getElem?_append_right → XT, getElem?_replicate → X1, map_append → XQ, length_take → XO, take_length → XP, not_mem_nil → XV, length_map → XA
open Nat renaming le_refl → XD, lt_or_ge → XH, le_trans → XW, zero_le → XJ, pow_add → Yb
open Int renaming toNat_natCast → X3
open Go.Proofs.Tryz
namespace Go.Lw
open Go.Proofs
abbrev KG(l:Li)(g:Gr)(a:As):List AV:=[.v (.string l.name),.lst 2 (l.bo.map Bd.av),.lst 7 (l.jo.map Jt.av),.lst 2 (l.dv.map Dr.av),i64 g.kind,.lst 1 (g.bo.map i64),.lst 1 (g.jo.map i64),i64 g.driver,
  .lst 1 (a.rs.map nR),.lst 4 (a.bs.map Pl.av),.lst 1 (a.ms.map i64),.v .nilIface]
abbrev cf(l:Li)(g:Gr)(a:As):Blk:=.box (KG l g a)
def pq(e:Nat):AV:=if e=0 then .ptr 900 0 else .v (.pointer none)
def Il(e:Nat)(l:Li)(g:Gr)(a:As):Hp:=if e=0 then[(900,some (cf l g a))]else[]
theorem lL{e:Nat}(h:e≠0):pq e=.v (.pointer none):=Yk h
theorem pX{e:Nat}{l:Li}{g:Gr}{a:As}(h:e≠0):Il e l g a=[]:=Yk h
theorem JL(l:Li)(g:Gr):cR l g true=fO l g++g.bo:=rfl
theorem D8(l:Li)(g:Gr):cR l g false=fO l g:=by unfold cR;simp
theorem V9{rs:List (List Rt)}{b:Pl}{i:Nat}{x:List Rt}(h:bC rs=0)(hx:b.l[i]?=some x)(hb:∀y∈b.l.take i,cG rs.length y=0)(hn:cG rs.length x≠0):bN rs b.l=cG rs.length x:=GK h hx hb hn
theorem OC{l:Li}{g:Gr}{a:As}{own:Bool}{j:Nat}{b:Int}(hb:(eK (cR l g own))[j]?=some b)(hj:∀c∈(eK (cR l g own)).take j,gf a c=0)(hn:gf a b≠0):eD ((eK (cR l g own)).map (gf a))=gf a b:=by
 have h1:eK (cR l g own)=(eK (cR l g own)).take j++b::(eK (cR l g own)).drop (j+1):=by
  obtain⟨hi,e⟩:=List.getElem?_eq_some_iff.1 hb;rw[<- e,<- List.drop_eq_getElem_cons hi,List.take_append_drop]
 generalize eK (cR l g own)=xs at *;rw[h1,XQ,r6 _ _ (o5 hj),Yi,Gx,Yl hn]
theorem Ha(l:Li)(hl:l.ok)(k:Int)(a:As)(al:AB a)(own:Bool) :
  Con prog 63 [l.av,i64 k,a.av,bl own] [] (.tup [pq (fI l k a own),br (fI l k a own)]) (Il (fI l k a own) l (iz l k) a):=by
 have hbl:=al.bl;refine gF func63 (fun k z h=>by cases h) ?_;refine gc (Aj l hl) ?_;refine gC (fun t27=>?_) (fun t27=>?_)
 ·have h1:=cU t27;refine gR ?_;rw[US rfl h1,lL h1,pX h1];exact kl rfl
 have h1:=cS t27;obtain⟨hli,hsp⟩:=It h1;rw[show(if aA l=0 then splitG l else[])=splitG l from Yl hli];have hbs:=(cK hli).2.2.2.1;have hgl:=(pH hli).2;have hsg:splitG l=findG l:=by unfold splitG;rw[Yl hsp]
 refine cQ ?_;refine gC (fun t36=>?_) (fun t36=>?_)
 ·have h2:=Eu t36;have he:fI l k a own=9:=(qH hli).trans (JO hsp h2);refine gR ?_;rw[he,lL (by decide),pX (by decide)];exact kl rfl
 have h2:=QH t36;refine gl ?_;refine gl ?_;refine gC (fun t44=>?_) (fun t44=>?_)
 ·have h3:=w7 t44;have he:fI l k a own=10:=(qH hli).trans (KD hsp h2 h3);refine gR ?_;rw[he,lL (by decide),pX (by decide)];exact kl rfl
 have h3:=Ah t44;refine gc (qN a.rs 400000000 al.tr) ?_;refine gC (fun t50=>?_) (fun t50=>?_)
 ·have h4:=cU t50;refine gR ?_;rw[(qH hli).trans (Pt hsp h2 h3 h4),lL h4,pX h4];exact kl rfl
 have h4:=cS t50;obtain⟨i,rfl,hi⟩:=Ld h2;obtain⟨g,hg⟩:=aw hi;obtain⟨hgd,hgo⟩:=oY hli (Xx hg);have hgA:iz l (i:Nat)=g:=aq hg;rw[hgA];have he5:fI l (i:Nat) a own=eD ((eK (cR l g own)).map (gf a)):=by rw[<- hgA];exact(qH hli).trans (D4 hsp h2 h3 h4)
 have hnl:(cR l g own).length<=5:=LY hgo;have hgb:=hgo.lb;have hgj:=hgo.lj;refine gi (aE hg) ?_;refine gt (aH (Oz l hl hli g hgo) (bB rfl rfl) aI rfl rfl) ?_;refine gD ?_;refine gC (fun t62=>?_) (fun t62=>?_) (st1:=(13,0));cases t62;refine BK [1,4,6,10] [4,6] [(13,some (.ms 900 1 0 (cR l g own).length))] [(900,some (.row 1 ((cR l g own).map i64)))] (True) ?_ ?_
 ·intro K1 J1;refine gC (fun t64=>?_) (fun t64=>?_)
  ·have ho:own=true:=t64;subst ho;refine gi (aE hg) ?_;refine gs (bX (.tmp rfl) rfl (by rw[XA,qv]) (.tmp rfl) T39 rfl T3 rfl rfl (by simp only[XA];omega) rfl rfl) ?_;exact o9 J1 trivial (hw:=(Wk.of (sl:=[(1,some (i64 i)),(4,some (.ptr 4 0)),(6,some (.ptr 6 0)),(10,some (.lst 4 ((splitG l).map Gr.av))),(13,some (.ms 71 1 0 (cR l g true).length))]) (hp:=[(4,some (.box l.av.cells)),(6,some (.box a.av.cells)),(71,some (.row 1 ((cR l g true).map i64)))]) (.k (.k (.k (.k (.cons rfl (Sub.of (by rw[JL,XZ,qv,XA])) .nil))))) (.k (.k (.cons rfl (BlkSub.of (by rw[JL,XQ])) .nil)))).trans<|(Wk.rk (k:=71) (d:=900) rfl rfl).trans<|Wk.o)
  have ho:own=false:=t64;subst ho;exact o9 J1 trivial (hw:=Wk.of (.cons rfl (Sub.of (by rw[D8,qv])) (.k (.k (.k (.k .nil))))) (.cons rfl (BlkSub.of (by rw[D8])) (.k (.k .nil))))
 rintro -;refine gt (aH (Con.rk 900 rfl rfl (Pj (cR l g own) oz)) (cB rfl) aI rfl rfl) ?_ (17,0);refine gW ((Wk.freeze (k:=900) rfl).trans<|Wk.of (sl:=[(1,some (i64 i)),(4,some (.ptr 4 0)),(6,some (.ptr 6 0)),(10,some (.lst 4 ((splitG l).map Gr.av))),(13,some (.lst 1 ((eK (cR l g own)).map i64)))]) (hp:=[(4,some (.box l.av.cells)),(6,some (.box a.av.cells))]) (.k (.k (.k (.k (.cons rfl (Sub.of (bJ (by rw[XA,DF]))) .nil))))) (.k (.k .nil))) ?_;refine gl ?_;refine aW [1,4,6,10,74,75] [4,6] (fun(j:Nat)=>[(76,some (i64 j))]) (fun _=>[]) (fun j=>j<=(eK (cR l g own)).length/\∀b∈(eK (cR l g own)).take j,gf a b=0) (fun j=>(eK (cR l g own)).length-j) 0 ⟨XJ _,fun b hb=>by simp at hb⟩ ?_;rintro j ⟨hj,hjz⟩ K2 J2;refine gC (fun t77=>?_) (fun t77=>?_)
 ·have hjn:=a6 t77;obtain ⟨b,hb⟩:=aw hjn;have hbm:=zx.1 (Xx hb);have hbr:=yP hli hgo b hbm;have hsl:(eK (cR l g own)).length <= 5:=by rw [DF]; exact hnl
  refine gi (aE hb) ?_;refine gC (fun t81=>?_) (fun t81=>?_)
  ·have hz : gf a b = 0 := by unfold gf; rw [Yl (by simpa [aa] using t81)]
   refine ga aN ?_;exact aO J2 (j+1) ⟨hjn,fun c hc=>by rw[dR hb]at hc;rcases List.mem_append.1 hc with h9 |h9;exact hjz c h9;(rw[List.mem_singleton.1 h9];exact hz)⟩
  have hb0:0<=b:=by have:=of_decide_eq_false (p:=b<0) t81;omega
  obtain⟨p,hp⟩:=aw (l:=a.bs) (i:=b.toNat) oz;have hpn:=al.nr p (Xx hp);have hnd:gf a b=bN a.rs p.l:=by unfold gf;rw[Yk oz,aq hp]
  refine gi (f6 (n:=b.toNat) oz hp) ?_;refine ge rfl ?_;refine aW [1,4,6,10,74,75,76,95,96] [4,6] (fun(q:Nat)=>[(97,some (i64 q))]) (fun _=>[]) (fun q=>q<=4/\∀x∈p.l.take q,cG a.rs.length x=0) (fun q=>4-q) 0 ⟨XJ _,fun x hx=>by simp at hx⟩ ?_;rintro q ⟨hq,hqz⟩ K3 J3;refine gC (fun t98=>?_) (fun t98=>?_)
  ·have hqn:q<4:=a6 (b:=4) t98;obtain⟨x,hx⟩:∃x,p.l[q]?=some x:=aw (show q<p.l.length from hqn);have hxn:=hpn x (Xx hx);have hone:bN a.rs [x]=cG a.rs.length x:=PC h4;refine gi (aE hx) ?_;refine gc (F2 a.rs 400000000 al.tr x 50000000000 hxn (Uy _)) ?_;refine gC (fun t109=>?_) (fun t109=>?_)
   ·have h5:=cU t109;rw [hone] at h5 ⊢;have h6:gf a b = cG a.rs.length x:=hnd.trans (V9 h4 hx hqz h5);have h7:fI l (i:Nat) a own = cG a.rs.length x:=by rw [he5,OC hb hjz (by rw [h6]; exact h5),h6]
    refine gR ?_;rw[h7,lL h5,pX h5];exact kl rfl
   have h5:=cS t109;rw[hone]at h5;refine ga aN ?_;exact aO J3 (q+1) ⟨hqn,fun z hz=>by rw[dR hx]at hz;rcases List.mem_append.1 hz with h9 |h9;exact hqz z h9;(rw[List.mem_singleton.1 h9];exact h5)⟩
  have hqn:q=4:=bc (b:=4) hq t98;subst hqn;have hqz:∀x∈p.l,cG a.rs.length x=0:=hqz;refine ga aN ?_;exact aO J2 (j+1) ⟨hjn,fun c hc=>by rw[dR hb]at hc;rcases List.mem_append.1 hc with h9 |h9;exact hjz c h9;(rw[List.mem_singleton.1 h9,hnd];exact vk h4 hqz)⟩
 have hjn:=bc hj t77
 have h8:fI l (i:Nat) a own=0:=by
  rw[he5];exact o5 (fun b hb=>hjz b (by rw[hjn,XP];exact hb))
 refine gi (aE hg) ?_;refine gD ?_ (77777,0);refine gW (Wk.o (sl:=[(8,some (.ptr 120 0)),(9,some (.v .nilIface))]) (hp:=[(120,some (cf l g a))])) ?_ (77777,0);refine gW (Wk.rk (k:=120) (d:=900) rfl rfl) ?_;refine gR ?_;rw[h8];exact az.keep (bj rfl)
theorem zC{ts:LL}{r e:Nat}(tw:Tw ts r){a b c d:List Rat}(ha:Nm ts.length e a)(hb:Nm ts.length e b)(hc:Nm ts.length e c)(hd:Nm ts.length e d)(he:2*e<=lm ts.length) :
  FP 76 [aY ts,aM a b,aM c d] (.tup [aM (sh ts.length (subT ts (ae ts.length a) (ae ts.length c))) (sh ts.length (subT ts (ae ts.length b) (ae ts.length d))),.v .nilIface]):=by
 refine aj func76 ?_;refine gc (my (e:=e) tw [(a,b),(c,d)] (by simp only[X6,XV,or_false];rintro p (rfl |rfl);exact⟨ha,hb⟩;exact⟨hc,hd⟩) oz (by simp)) ?_;refine gC (fun t16=>?_) (fun t16=>?_) (st1:=(3,0));cases t16;refine gt (aH (Con.rB 21 rfl rfl rfl rfl (p5 tw ha hb hc hd he)) (aJ rfl rfl rfl) aI rfl rfl) ?_;refine gt (aH (Con.rB 21 rfl rfl rfl rfl (wC _ _ _)) (bB rfl rfl) aI rfl rfl) ?_;refine bp ?_;rfl
theorem BE{ts:LL}{r e:Nat}(tw:Tw ts r){a b c d:List Rat}(ha:Nm ts.length e a)(hb:Nm ts.length e b)(hc:Nm ts.length e c)(hd:Nm ts.length e d)(he:2*(e+e+kB r ts.length)<=lm ts.length) :
  FP 77 [aY ts,aM a b,aM c d] (.tup [nA (sh ts.length (nK ts (ae ts.length a) (ae ts.length b) (ae ts.length c) (ae ts.length d))),.v .nilIface]):=by
 refine aj func77 ?_;refine gc (Con.sA (.cons (.refl _) (.cons (.refl _) (.cons (.refl _) (.cons (Sub.fn0 _) .nil)))) (Dw tw ha hb hc hd oz _ _ (Ix tw ha hb hc hd he))) ?_;refine bp ?_
 first |rfl |(simp;done)
section
variable{ts:LL}{u k:Nat}{a b a2 b2:List Rat}{x y x2 y2:Et ts}{w v w' v' w2 v2 w3 v3:Nat}
theorem W6 [c : Ct ts u k] [ha : Zl ts u k a x w v] [hb : Zl ts u k b y w' v'] [ha2 : Zl ts u k a2 x2 w2 v2] [hb2 : Zl ts u k b2 y2 w3 v3] (h : w + v + (w' + v') + (w2 + v2 + (w3 + v3)) <= 2500 := by decide) :
  FP 76 [aY ts,aM a b,aM a2 b2] (.tup [aM (sX (x-x2)) (sX (y-y2)),.v .nilIface]):=by
 obtain⟨R,tw,hk⟩:=c.ex;have h0:=F9 c hk;have h1:=zC (e:=2500*1000000) tw (ha.up c oz) (hb.up c oz) (ha2.up c oz) (hb2.up c oz) oz;rw[ha.eq,hb.eq,ha2.eq,hb2.eq]at h1;exact h1
end
variable{P:Program}{N:Nat}{R:Array Oper}{s:AS}{pos:String}{after:Array Edge}
theorem aX{d f k:Nat}{bx:Blk}{args:Array Operand}{ts:Array TypeId}{xs:List AV}{r:AV}{t:TypeId}
  (hcon:Con P f xs [(k,some bx)] r [(k,some bx)]) (ha:EvL s args.toList xs) (hk:s.blk k=some bx) (hok:iA s [(k,some bx)] [(k,some bx)] r=true) (hN:Nat.blt d N=true) :
  Step P N R s ⟨some d,.call ⟨.value (.func f),args,ts⟩,t,pos,after,none⟩ ⟨some r,[],eG args.toList,[k]⟩:=by
 refine Step.weaken (aH (d:=d) hcon ha (fun k' z h=>by
  obtain⟨rfl,h9⟩:=fC h;cases h9;exact hk) hok hN) (fun s' h=>h) (fun s' h k' hk'=>?_) (fun s' h=>?_)
 ·left;simp only[XQ,dp,Yi,map_nil,mem_append,X6,XV,or_false]at hk' ⊢;rcases hk' with h9 |h9 <;> exact h9
 ·intro C m a w hr;refine⟨m,hr.weak (fun t x hx=>⟨x,hx,.refl _⟩) (fun k' x hx=>⟨x,?_,.refl _⟩)⟩;have hb:lk s'.hp k=some bx:=(h.2 k (List.mem_singleton.2 rfl)).trans hk;show lk ([(k,some bx)]++dp [(k,some bx)]++s'.hp) k'=some x;have hx':lk s'.hp k'=some x:=hx;simp only[dp,Yi,map_nil,List.cons_append,nil_append,aT]
  by_cases e:k'=k
  ·rw[Yl e];rw[e,hb]at hx';exact hx'
  ·rw[Yk e,Yk e];exact hx'
theorem nN{k1 k2 k':Nat}{x y:Option Blk}{z:Blk}(h:lk [(k1,x),(k2,y)] k'=some z):(k'=k1/\x=some z)\/(k'≠k1/\k'=k2/\y=some z):=by
 rw[aT]at h
 by_cases e:k'=k1
 ·rw[Yl e]at h;exact .inl ⟨e,h⟩
 ·rw[Yk e]at h;obtain⟨h1,h2⟩:=fC h;exact .inr ⟨e,h1,h2⟩
theorem mI{k1 k2:Nat}{x y:Option Blk}:lk [(k1,x),(k2,y)] k1=x:=by rw[aT,Yl rfl]
theorem nk{k1 k2:Nat}{x y:Option Blk}(h:k1≠k2):lk [(k1,x),(k2,y)] k2=y:=by rw[aT,Yk (fun e=>h e.symm),aT,Yl rfl]
theorem Fy{k1 k2:Nat}(hne:k1≠k2){x y:Blk}{m:Nat->Option Nat}{b:Nat}:a9 [(k1,some x),(k2,some y)] m b↔m k1=some b\/m k2=some b:=by
 constructor
 ·rintro⟨k',z,hz,hb⟩;rcases nN hz with⟨e,_⟩ |⟨_,e,_⟩
  ·exact .inl (e▸hb)
  ·exact .inr (e▸hb)
 ·rintro(h |h)
  ·exact⟨k1,x,mI,h⟩
  ·exact⟨k2,y,nk hne,h⟩
theorem Gc{k1 k2 d1 d2:Nat}(hk:k1≠k2)(hd:d1≠d2){x y x' y':Blk}{m m2:Nat->Option Nat}(h1:m2 d1=m k1)(h2:m2 d2=m k2):a9 [(d1,some x'),(d2,some y')] m2=a9 [(k1,some x),(k2,some y)] m:=by
 funext b;apply propext;rw[Fy hk,Fy hd,h1,h2]
theorem AL{ext:Nat->Prop}{k1 k2 d1 d2:Nat}(hk:k1≠k2)(hd:d1≠d2){x y x' y':Blk}{m m2:Nat->Option Nat}{w:World}(h1:m2 d1=m k1)(h2:m2 d2=m k2):Im ext [(d1,some x'),(d2,some y')] m2 w=Im ext [(k1,some x),(k2,some y)] m w:=by
 funext b cs;simp only[Im,Gc hk hd (x:=x) (y:=y) (x':=x') (y':=y') h1 h2]
theorem JA{ext:Nat->Prop}{k1 k2 d1 d2:Nat}(hk:k1≠k2)(hd:d1≠d2){x y:Blk}{m m2:Nat->Option Nat}{w:World}(hx:x.nm=[])(hy:y.nm=[])(h1:m2 d1=m k1)(h2:m2 d2=m k2)
  (hr:HeapRel ext [(k1,some x),(k2,some y)] m w):HeapRel ext [(d1,some x),(d2,some y)] m2 w:=by
 refine⟨?_,?_,?_⟩
 ·intro k' z hz;rw[AL hk hd (x:=x) (y:=y) h1 h2];rcases nN hz with⟨rfl,h9⟩ |⟨_,rfl,h9⟩
  ·cases h9;exact BlkRep.mono (w:=w) (fun _ _ h=>h) (fun _ _ h=>h) (fun _ _ hn=>(yf hx hn).elim) h1 (fun _ _=>rfl) (hr.blk k1 _ mI)
  ·cases h9;exact BlkRep.mono (w:=w) (fun _ _ h=>h) (fun _ _ h=>h) (fun _ _ hn=>(yf hy hn).elim) h2 (fun _ _=>rfl) (hr.blk k2 _ (nk hk))
 ·intro k k' z z' b hz hz' hb hb';rcases nN hz with⟨rfl,_⟩ |⟨_,rfl,_⟩ <;> rcases nN hz' with⟨rfl,_⟩ |⟨_,rfl,_⟩
  ·rfl
  ·exact absurd (hr.inj k1 k2 _ _ b mI (nk hk) (h1▸hb) (h2▸hb')) hk
  ·exact absurd (hr.inj k1 k2 _ _ b mI (nk hk) (h1▸hb') (h2▸hb)) hk
  ·rfl
 ·intro k' z b hz hb;rcases nN hz with⟨rfl,h9⟩ |⟨_,rfl,h9⟩
  ·exact hr.sep k1 _ b mI (h1▸hb)
  ·exact hr.sep k2 _ b (nk hk) (h2▸hb)
theorem Con.rekeyBB{P:Program}{f:FuncId}{k1 k2 o1 o2:Nat}{x y x' y':Blk}{xs:List AV}{r:AV}(d1 d2:Nat)(hk:k1≠k2)(hd:d1≠d2)(hx:x.nm=[])(hy:y.nm=[])(hx':x'.nm=[])(hy':y'.nm=[])(hxs:(xs.all fun x=>x.nm.isEmpty)=true)(hr:r.nm=[])
  (h:Con P f (.ptr k1 o1 :: .ptr k2 o2::xs) [(k1,some x),(k2,some y)] r [(k1,some x'),(k2,some y')]):Con P f (.ptr d1 o1 :: .ptr d2 o2::xs) [(d1,some x),(d2,some y)] r [(d1,some x'),(d2,some y')]:=by
 refine⟨h.ok,?_⟩;intro ext m w vs hext hheap hvs hrep;obtain⟨m2,e1,e2⟩:∃m2:Nat->Option Nat,m2 k1=m d1/\m2 k2=m d2:=⟨fun k=>if k=k1 then m d1 else m d2,Yl rfl,Yk (fun e=>hk e.symm)⟩
 have h1 := h.ret ext m2 w vs hext (JA hd hk hx hy e1 e2 hheap) (by simpa using hvs) (by
  intro j v z hv hz;rw[AL hd hk (x:=x) (y:=y) e1 e2]
  match j,hz with
  |0,hz =>
   cases hz;have h2:=hrep 0 v _ hv rfl;cases h2 with
   |ptr hm=>exact .ptr (e1.trans hm)
  |1,hz =>
   cases hz;have h2:=hrep 1 v _ hv rfl;cases h2 with
   |ptr hm=>exact .ptr (e2.trans hm)
  |j+2,hz =>
   have h2:=hrep (j+2) v z hv hz;refine iN ?_ h2;have:=List.all_eq_true.1 hxs z (Xx hz);simpa using this)
 refine Calls.mono h1 ?_;rintro e w' ⟨v,m',rfl,hf,hh,hn,hkp,hrr⟩;have ho:=Gc hd hk (x:=x) (y:=y) (x':=x) (y':=y) e1 e2;obtain⟨m3,f1,f2⟩:∃m3:Nat->Option Nat,m3 d1=m' k1/\m3 d2=m' k2:=⟨fun k=>if k=d1 then m' k1 else m' k2,Yl rfl,Yk (fun e=>hd e.symm)⟩
 refine⟨v,m3,rfl,ho▸hf,JA hk hd hx' hy' f1 f2 hh,?_,?_,?_⟩
 ·intro k' z b hz hb;rw[<- ho];rcases nN hz with⟨rfl,_⟩ |⟨_,rfl,_⟩
  ·exact hn k1 _ b mI (f1▸hb)
  ·exact hn k2 _ b (nk hk) (f2▸hb)
 ·intro k' z z' hz hz';rcases nN hz with⟨rfl,_⟩ |⟨_,rfl,_⟩
  ·rw[f1,<- e1];exact hkp k1 _ _ mI mI
  ·rw[f2,<- e2];exact hkp k2 _ _ (nk hk) (nk hk)
 ·rw[AL hk hd (x:=x') (y:=y') f1 f2];exact iN hr hrr
end Go.Lw
namespace Go.Lw
open Go.Proofs
theorem CG{l:Li}{body pt:Int}{n k:Nat}{bd:Bd}{m:Mk}(h:MkP l body pt n k bd m):qP (aS l body pt)=.agg [bl m.x.neg,ws m.x.num,ws m.x.den,bl m.y.neg,ws m.y.num,ws m.y.den]:=by
 rw[h.ex,h.ey]
theorem om{p q:Rat×Rat}{e f:Nat}(hp:Sm e p)(hq:Sm f q)(he:e<=1000000)(hf:f<=1000000):FP 156 [qP p,qP q] (qP (cq p q)):=by
 refine aj func156 ?_;refine gc (xG (hp.x.qs oz) (hq.x.qs oz)) ?_;refine gc (xG (hp.y.qs oz) (hq.y.qs oz)) ?_;refine gD ?_;refine af ?_
 first |rfl |(simp;done)
theorem JB{p q:Rat×Rat}{e f:Nat}(hp:Sm e p)(hq:Sm f q)(he:e<=1000000)(hf:f<=1000000):FP 261 [qP p,qP q] (qA (bY p q)):=by
 refine aj func261 ?_;refine gc (tA (hp.x.qs oz) (hq.x.qs oz)) ?_;refine gc (tA (hp.y.qs oz) (hq.y.qs oz)) ?_;refine gc (yg ((hp.x.mul hq.x).qs oz) ((hp.y.mul hq.y).qs oz)) ?_;refine gD ?_;refine af ?_
 first |rfl |(simp;done)
theorem Sx{p q:Rat×Rat}{e f:Nat}(hp:Sm e p)(hq:Sm f q)(he:e<=1000000)(hf:f<=1000000):FP 178 [qP p,qP q] (qA (AX p q)):=by
 refine aj func178 ?_;refine gc (tA (hp.x.qs oz) (hq.y.qs oz)) ?_;refine gc (tA (hp.y.qs oz) (hq.x.qs oz)) ?_;refine gc (xG ((hp.x.mul hq.y).qs oz) ((hp.y.mul hq.x).qs oz)) ?_;refine gD ?_;refine af ?_
 first |rfl |(simp;done)
theorem BB{p:Rat×Rat}{e:Nat}(hp:Sm e p)(he:e<=1000000):FP 169 [qP p] (nA (sh 0 (bY p p:Rat))):=by
 refine aj func169 ?_;refine gc (JB hp hp he he) ?_;refine gc (lT ((hp.dot hp).qs oz)) ?_;refine af ?_
 first |rfl |(simp;done)
theorem WT:FP 69 [] (nA (sh 0 ((1:Int):Rat))):=by
 refine aj func69 ?_;refine gc (kA 1 oz) ?_;refine gc (lT (rL oz)) ?_;refine af ?_
 first |rfl |(simp;done)
theorem m7{l:Li}(hl:l.ok)(hli:aA l=0)(g:Gr)(a:As){body pt:Int}(h1:bu body l.bo.length=true)(h2:bu pt (cA l body).length=true) :
  Con prog 170 [.ptr 1000 0,i64 body,i64 pt] [(1000,some (cf l g a))] (qP (aS l body pt)) [(1000,some (cf l g a))]:=by
 obtain⟨n,k,bd,m,mp⟩:=oD hl hli h1 h2;rw[CG mp];have hn:=mp.hn;have hk:=mp.hk;have hlb:=hl.lb;subst hn;subst hk;refine gF func170 (fun k z h=>bD h) ?_;refine gi (aE mp.gbd) ?_;refine gi (aE mp.gm) ?_;refine gR ?_;exact az.keep (bj rfl)
theorem oS{E:Nat}{l:Li}(hl:l.ok)(hli:aA l=0)(g:Gr){a:As}(al:AB a)(hc:bC a.rs=0){body pt:Int}(h1:bu body l.bo.length=true)(h2:bu pt (cA l body).length=true)(hE:E<=20000000000)(h3:(llq a.rs).length<=2)(hb:Pd E a body) :
  Con prog 91 [.ptr 1000 0,i64 body,i64 pt] [(1000,some (cf l g a))] (aM (sX (bh l a body pt).1) (sX (bh l a body pt).2)) [(1000,some (cf l g a))]:=by
 obtain⟨n,k,bd,m,b,hp⟩:=tU hl hli al hc h1 h2 hb;obtain⟨tw,hta⟩:=df al.tr hc
 have kb:kB 400000000 (llq a.rs).length<=1200000006:=by
  have h9:=ig 400000000 h3;have h8:eB 400000000 2=1200000006:=by decide
  show eB 400000000 _<=_;omega
 have hlm:lm (llq a.rs).length=200000000000:=by unfold lm;rw[Yl h3]
 have hlb:=hl.lb;have hbl:=al.bl;have hmk:=m7 hl hli g a h1 h2;show Con prog _ _ _ (aM (sh (llq a.rs).length (s7 l a body pt).1) (sh (llq a.rs).length (s7 l a body pt).2)) _;rw[hp.eq];have hn:=hp.mp.hn;rw[CG hp.mp]at hmk
 have hat:FP 89 [dI a.rs,b.av,m.x.av,m.y.av] (.tup [aM (sh (llq a.rs).length (oI (llq a.rs) b m).1) (sh (llq a.rs).length (oI (llq a.rs) b m).2),.v .nilIface]):=by
  rw[hta,hp.av,hp.mp.ex,hp.mp.ey];have h9:=vF tw (hp.ok.c.mono (f:=E+1000) oz) (hp.ok.s.mono oz) (hp.ok.x.mono oz) (hp.ok.y.mono oz) (hp.mp.sm.x.mono (f:=E+1000) oz) (hp.mp.sm.y.mono (f:=E+1000) oz) oz;unfold oI;rw[hp.mp.ex,hp.mp.ey,bV,bV];exact h9
 refine gF func91 (fun k z h=>bD h) ?_;refine gt (aH hmk (aJ rfl rfl rfl) aI rfl rfl) ?_;refine gi (f6 (n:=n) hn hp.gb) ?_;refine gc hat ?_;refine gD ?_;refine gC (fun t39=>?_) (fun t39=>?_) (st2:=(77777,0))
 ·refine gR ?_;exact az.keep (bj rfl)
 cases t39
theorem tI{E:Nat}(hE:E<=20000000000){l:Li}(hl:l.ok)(hli:aA l=0)(g:Gr)(hg:GrOk l g){a:As}(al:AB a)(hc:bC a.rs=0){k:Nat}{z b:Int}{j:Jt}(hz:g.jo[k]?=some z)(hj:l.jo[z.toNat]?=some j)(h3:(llq a.rs).length<=2)(h:PinP E l a j b) :
  Con prog 150 [.ptr 1000 0,i64 k,i64 b] [(1000,some (cf l g a))] (.tup [qP (ak l j b),aM (sX (aG l a j b).1) (sX (aG l a j b).2)]) [(1000,some (cf l g a))]:=by
 obtain⟨z0,z1⟩:=hg.j z (Xx hz);obtain⟨i1,i2,i3,i4,_⟩:=cO hli hj;have hgj:=hg.lj;have hlj:=hl.lj;refine gF func150 (fun k z h=>bD h) ?_;refine gi (aE hz) ?_;refine gi (f6 (n:=z.toNat) oz hj) ?_;refine gD ?_;refine gC (fun t27=>?_) (fun t27=>?_)
 ·have e:j.a = b:=cH t27;have hb:Pd E a j.b:=by rcases h.tie with h9 | h9; exact h9.2; exact absurd e h9.1
  have eq1:ak l j b=aS l b j.point:=Yl e;have eq2:aG l a j b=bh l a j.b j.on:=Yl e;rw[eq1,eq2];subst e;refine gt (aH (m7 hl hli g a i1 i3) (aJ rfl rfl rfl) aI rfl rfl) ?_;refine gt (aH (oS hl hli g al hc i2 i4 hE h3 hb) (aJ rfl rfl rfl) aI rfl rfl) ?_;refine gD ?_;refine gR ?_;exact az.keep (bj rfl)
 have e:j.a≠b:=dm t27;have e2:j.b=b/\Pd E a j.a:=by rcases h.tie with h9 |h9;exact absurd h9.1 e;exact h9.2
 have eq1:ak l j b=aS l b j.on:=Yk e;have eq2:aG l a j b=bh l a j.a j.point:=Yk e;rw[eq1,eq2];obtain⟨e2,hb⟩:=e2;subst e2;refine gt (aH (m7 hl hli g a i2 i4) (aJ rfl rfl rfl) aI rfl rfl) ?_;refine gt (aH (oS hl hli g al hc i1 i3 hE h3 hb) (aJ rfl rfl rfl) aI rfl rfl) ?_;refine gD ?_;refine gR ?_;exact az.keep (bj rfl)
theorem Cr{l:Li}(hl:l.ok)(hli:aA l=0)(g:Gr)(hg:GrOk l g)(a:As){z b:Int}{j:Jt}(hz:g.jo[2]?=some z)(hj:l.jo[z.toNat]?=some j)(h:j.a=b\/j.b=b) :
  Con prog 166 [.ptr 1000 0,i64 b] [(1000,some (cf l g a))] (qP (ak l j b)) [(1000,some (cf l g a))]:=by
 obtain⟨z0,z1⟩:=hg.j z (Xx hz);obtain⟨i1,i2,i3,i4,_⟩:=cO hli hj;have hgj:=hg.lj;have hlj:=hl.lj;have h2:=(List.getElem?_eq_some_iff.1 hz).1;refine gF func166 (fun k z h=>bD h) ?_;refine gi (aE hz) ?_;refine gi (f6 (n:=z.toNat) oz hj) ?_;refine gD ?_;refine gC (fun t23=>?_) (fun t23=>?_)
 ·have e:j.a=b:=cH t23;have eq1:ak l j b=aS l b j.point:=Yl e;rw[eq1];subst e;refine gt (aH (m7 hl hli g a i1 i3) (aJ rfl rfl rfl) aI rfl rfl) ?_;refine gR ?_;exact az.keep (bj rfl)
 have e:j.a≠b:=dm t23;have e2:j.b=b:=by rcases h with h9 |h9;exact absurd h9 e;exact h9
 have eq1:ak l j b=aS l b j.on:=Yk e;rw[eq1];subst e2;refine gt (aH (m7 hl hli g a i2 i4) (aJ rfl rfl rfl) aI rfl rfl) ?_;refine gR ?_;exact az.keep (bj rfl)
theorem BY{l:Li}(hl:l.ok)(g:Gr)(hg:GrOk l g)(a:As){z:Int}{j:Jt}(hz:g.jo[1]?=some z)(hj:l.jo[z.toNat]?=some j) :
  Con prog 90 [.ptr 1000 0] [(1000,some (cf l g a))] j.av [(1000,some (cf l g a))]:=by
 obtain⟨z0,z1⟩:=hg.j z (Xx hz);have hgj:=hg.lj;have hlj:=hl.lj;have h2:=(List.getElem?_eq_some_iff.1 hz).1;refine gF func90 (fun k z h=>bD h) ?_;refine gi (aE hz) ?_;refine gi (f6 (n:=z.toNat) oz hj) ?_;refine gD ?_;refine gR ?_;exact az.keep (bj rfl)
abbrev VU{ts:LL}(p:Rat×Rat)(at_:Et ts×Et ts)(c:Rat×Rat):List AV :=
  [bl (rt p.1).neg,ws (rt p.1).num,ws (rt p.1).den,bl (rt p.2).neg,ws (rt p.2).num,ws (rt p.2).den,nA (sX at_.1),nA (sX at_.2),bl (rt c.1).neg,ws (rt c.1).num,ws (rt c.1).den,bl (rt c.2).neg,ws (rt c.2).num,ws (rt c.2).den]
abbrev uO{ts:LL}(p:Rat×Rat)(at_:Et ts×Et ts)(c:Rat×Rat):AV:=.agg (VU p at_ c)
abbrev M0{ts:LL}(p:Rat×Rat)(at_:Et ts×Et ts)(c:Rat×Rat):AV:=.agg [nA (sX at_.1),nA (sX at_.2),nA (sh 0 (bF c p:Rat))]
theorem Bl{ts:LL}{p c:Rat×Rat}(hp:Sm 1000 p)(hc:Sm 1000 c)(at_:Et ts×Et ts):FP 73 [uO p at_ c] (M0 p at_ c):=by
 refine aj func73 ?_;refine gc (om hc hp oz oz) ?_;refine gc (BB (hc.sub hp) oz) ?_;refine gD ?_;refine af ?_
 first |rfl |(simp;done)
theorem Hy{E:Nat}{l:Li}(hl:l.ok)(hli:aA l=0){a:As}(al:AB a)(hc:bC a.rs=0)(h3:(llq a.rs).length<=2){i k z0 z1 z2:Int}{j0 j1 j2:Jt}(hg:GrOk l ⟨1,[i,k],[z0,z1,z2],0⟩)
  (h0:l.jo[z0.toNat]?=some j0) (h1:l.jo[z1.toNat]?=some j1) (h2:l.jo[z2.toNat]?=some j2) (p0:PinP E l a j0 i) (p1:PinP E l a j1 k) (t1:j2.a=i\/j2.b=i) (t2:j2.a=k\/j2.b=k) (hE:E<=20000000000:=by omega) :
  Con prog 70 [.ptr 1000 0] [(1000,some (cf l ⟨1,[i,k],[z0,z1,z2],0⟩ a))] (.tup [uO (ak l j0 i) (aG l a j0 i) (ak l j2 i),uO (ak l j1 k) (aG l a j1 k) (ak l j2 k)]) [(1000,some (cf l ⟨1,[i,k],[z0,z1,z2],0⟩ a))]:=by
 refine gF func70 (fun k z h=>bD h) ?_;refine gi (rfl) ?_;refine gi (rfl) ?_;refine gD ?_;refine gt (aH (tI oz hl hli _ hg al hc (k:=0) rfl h0 h3 p0) (.cons (.tmp rfl) (.cons (.const _) (cB rfl))) aI rfl rfl) ?_;refine gt (aH (tI oz hl hli _ hg al hc (k:=1) rfl h1 h3 p1) (.cons (.tmp rfl) (.cons (.const _) (cB rfl))) aI rfl rfl) ?_;refine gt (aH (Cr hl hli _ hg a rfl h2 t1) (bB rfl rfl) aI rfl rfl) ?_;refine gt (aH (Cr hl hli _ hg a rfl h2 t2) (bB rfl rfl) aI rfl rfl) ?_;refine gD ?_;refine gR ?_;exact az.keep (bj rfl)
theorem Jh{E:Nat}{l:Li}(hl:l.ok)(hli:aA l=0){a:As}(al:AB a)(hc:bC a.rs=0)(h3:(llq a.rs).length<=2){i z0 z1:Int}{j0 j1:Jt}(hg:GrOk l ⟨2,[i],[z0,z1],0⟩)
  (h0:l.jo[z0.toNat]?=some j0) (h1:l.jo[z1.toNat]?=some j1) (p0:PinP E l a j0 i) (ha:j1.a=i) (hk:j1.kind≠0) (hb:Pd E a j1.b) (hE:E<=20000000000:=by omega) :
  Con prog 74 [.ptr 1000 0] [(1000,some (cf l ⟨2,[i],[z0,z1],0⟩ a))] (.tup [uO (ak l j0 i) (aG l a j0 i) (aS l i j1.point),aM (sX (bh l a j1.b j1.on).1) (sX (bh l a j1.b j1.on).2),aM (sX (bh l a j1.b j1.to).1) (sX (bh l a j1.b j1.to).2)]) [(1000,some (cf l ⟨2,[i],[z0,z1],0⟩ a))]:=by
 obtain⟨i1,i2,i3,i4,i5⟩:=cO hli h1;rw[ha]at i1 i3;refine gF func74 (fun k z h=>bD h) ?_;refine gi (rfl) ?_;refine gt (aX (BY hl _ hg a rfl h1) (cB rfl) rfl rfl rfl) ?_;refine gD ?_;refine gt (aH (tI oz hl hli _ hg al hc (k:=0) rfl h0 h3 p0) (.cons (.tmp rfl) (.cons (.const _) (cB rfl))) aI rfl rfl) ?_;refine gt (aH (m7 hl hli _ a i1 i3) (aJ rfl rfl rfl) aI rfl rfl) ?_;refine gt (aH (oS hl hli _ al hc i2 i4 oz h3 hb) (aJ rfl rfl rfl) aI rfl rfl) ?_;refine gt (aH (oS hl hli _ al hc i2 (i5 hk) oz h3 hb) (aJ rfl rfl rfl) aI rfl rfl) ?_;refine gD ?_;refine gR ?_;exact az.keep (bj rfl)
structure Vr where
  w:List Rt
  x:List Rt
  y:List Rt
instance:Inhabited Vr:=⟨⟨[],[],[]⟩⟩
def Vr.av(v:Vr):AV:=.agg [nR v.w,nR v.x,nR v.y]
def Vr.l(v:Vr):List (List Rt):=[v.w,v.x,v.y]
abbrev dz(rs:List (List Rt)):Blk:=.box [.lst 1 (rs.map nR),.v .nilIface]
theorem oE(rs:List (List Rt))(a:List Rat):Con prog 71 [.ptr 1000 0,nA a,.v .nilIface] [(1000,some (dz rs))] (nA a) [(1000,some (dz rs))]:=by
 refine gF func71 (fun k z h=>bD h) ?_;refine gC (fun t11=>?_) (fun t11=>?_) (st2:=(77777,0))
 ·refine gR ?_;exact az.keep (bj rfl)
 cases t11
theorem lV(rs:List (List Rt))(a b:List Rat):Con prog 75 [.ptr 1000 0,aM a b,.v .nilIface] [(1000,some (dz rs))] (aM a b) [(1000,some (dz rs))]:=by
 refine gF func75 (fun k z h=>bD h) ?_;refine gC (fun t11=>?_) (fun t11=>?_) (st2:=(77777,0))
 ·refine gR ?_;exact az.keep (bj rfl)
 cases t11
section
variable{rs:List (List Rt)}{r u k:Nat}{a b:List Rat}{x y:Et (llq rs)}{w v w' v':Nat}
theorem D5 (h : TR rs r) (hc : bC rs = 0) [c0 : Ct (llq rs) u k] [ha : Zl (llq rs) u k a x w v] [hb : Zl (llq rs) u k b y w' v'] (hs : w + v + (w' + v') <= 10000 := by decide) :
  Con prog 79 [.ptr 1000 0,nA a,nA b] [(1000,some (dz rs))] (nA (sX (x*y))) [(1000,some (dz rs))]:=by
 have hx:=HU (ha:=ha) (hb:=hb) hs;rw[lh h hc]at hx;refine gF func79 (fun k z h=>bD h) ?_;refine gc hx ?_;refine gt (aH (oE _ _) (aJ rfl rfl rfl) aI rfl rfl) ?_;refine gR ?_;exact az.keep (bj rfl)
theorem WD (h : TR rs r) (hc : bC rs = 0) [c0 : Ct (llq rs) u k] [ha : Zl (llq rs) u k a x w v] [hb : Zl (llq rs) u k b y w' v'] (hs : w + v + (w' + v') <= 10000 := by decide) :
  Con prog 78 [.ptr 1000 0,nA a,nA b] [(1000,some (dz rs))] (nA (sX (x-y))) [(1000,some (dz rs))]:=by
 have hx:=IT (ha:=ha) (hb:=hb) hs;rw[lh h hc]at hx;refine gF func78 (fun k z h=>bD h) ?_;refine gc hx ?_;refine gt (aH (oE _ _) (aJ rfl rfl rfl) aI rfl rfl) ?_;refine gR ?_;exact az.keep (bj rfl)
end
structure DyW(l:Li)(a:As):Prop where
  hl:l.ok
  li:aA l=0
  al:AB a
  hc:bC a.rs=0
structure DyR(l:Li)(a:As):Prop extends DyW l a where
  s:DyS a
theorem DyR.two{l:Li}{a:As}(D:DyR l a):(llq a.rs).length<=2:=XW (D.s.one D.hc) oz
theorem AF{n:Nat}(hn:n<=1):kB 64990 n<=65000:=by
 have h1:=ig 64990 hn;have h2:eB 64990 1=64992:=by simp only[eB]
 show eB 64990 _<=_;omega
theorem oe{n:Nat}(h3:n<=2):kB 400000000 n<=1200000006:=by
 have h9:=ig 400000000 h3;have h8:eB 400000000 2=1200000006:=by decide
 show eB 400000000 _<=_;omega
abbrev rC(l:Li)(a:As)(i:Int)(j0 j:Jt):List AV :=
  qC (ak l j0 i)++([nA (sX (aG l a j0 i).1),nA (sX (aG l a j0 i).2)]++(qC (cr l i j)++[nA (sh 0 (cm l i j0 j:Rat)),nA (sh 0 (iR l i j:Rat)),nA (sX (cc l a i j0 j)),nA (sX (bU l a i j0 j).1),nA (sX (bU l a i j0 j).2)]))
theorem CK{l:Li}{a:As}(D:DyR l a){n:Nat}{i:Int}{j0 j:Jt}(h0:l.jo[n]?=some j0)(p0:PinP 3900000 l a j0 i){m:Nat}(h1:l.jo[m]?=some j)(hb:Pd 3900000 a j.a) :
  Zu 310000 65000 (bU l a i j0 j).1 80 81/\Zu 310000 65000 (bU l a i j0 j).2 80 81:=by
 obtain⟨i1,i2,i3,i4,_⟩:=cO D.li h1;obtain⟨z1,z2⟩:=l8 D.hl D.li D.al D.s D.hc h0 p0;obtain⟨y1,y2⟩:=mQ D.hl D.li D.al D.s D.hc i1 i3 hb;haveI c:=D.s.ct D.hc;haveI:=z1;haveI:=z2;haveI:=y1;haveI:=y2
 exact⟨(inferInstance:Zu 310000 65000 ((bh l a j.a j.point).1-(aG l a j0 i).1) _ _),(inferInstance:Zu 310000 65000 ((bh l a j.a j.point).2-(aG l a j0 i).2) _ _)⟩
theorem Dt{E:Nat}(hE:E<=20000000000){l:Li}{a:As}(D:DyW l a)(h3:(llq a.rs).length<=2){i z0 z1:Int}{j0 j:Jt}(hg:GrOk l ⟨3,[i],[z0,z1],0⟩)
  (h0:l.jo[z0.toNat]?=some j0) (h1:l.jo[z1.toNat]?=some j) (p0:PinP E l a j0 i) (hi:j.b=i) (hk:j.kind≠0) (hb:Pd E a j.a)
  (hsub:FP 76 [.agg [.lst 1 (a.rs.map nR)],aM (sX (bh l a j.a j.point).1) (sX (bh l a j.a j.point).2),aM (sX (aG l a j0 i).1) (sX (aG l a j0 i).2)] (.tup [aM (sX (bU l a i j0 j).1) (sX (bU l a i j0 j).2),.v .nilIface]))
  (hdot:FP 80 [.agg [.lst 1 (a.rs.map nR)],aM (sX (bU l a i j0 j).1) (sX (bU l a i j0 j).2),aM (sX (bU l a i j0 j).1) (sX (bU l a i j0 j).2)] (.tup [nA (sX (cc l a i j0 j)),.v .nilIface])) :
  Con prog 81 [.ptr 1000 0,.ptr 1001 0] [(1000,some (cf l ⟨3,[i],[z0,z1],0⟩ a)),(1001,some (dz a.rs))] (.agg (rC l a i j0 j)) [(1000,some (cf l ⟨3,[i],[z0,z1],0⟩ a)),(1001,some (dz a.rs))]:=by
 obtain⟨i1,i2,i3,i4,i5⟩:=cO D.li h1;have hs0:Sm 1000 (ak l j0 i):=gG D.hl D.li h0 (by rcases p0.tie with h9 |h9;exact .inl h9.1;exact .inr h9.2.1);subst hi;have hs1:=jW D.hl D.li i2 i4;have hs2:=jW D.hl D.li i2 (i5 hk);have hv:=hs2.sub hs1;refine gF func81 (fun k z h=>WL h) ?_;refine gi (rfl) ?_;refine gt (aX (BY D.hl _ hg a rfl h1) (cB rfl) rfl rfl rfl) ?_;refine gD ?_;refine gt (aH (tI hE D.hl D.li _ hg D.al D.hc (k:=0) rfl h0 h3 p0) (.cons (.tmp rfl) (.cons (.const _) (cB rfl))) aI rfl rfl) ?_;refine gt (aX (m7 D.hl D.li _ a i2 i4) (aJ rfl rfl rfl) rfl rfl rfl) ?_;refine gt (aX (m7 D.hl D.li _ a i2 (i5 hk)) (aJ rfl rfl rfl) rfl rfl rfl) ?_;refine gc (om hs2 hs1 oz oz) ?_;refine gD ?_;refine gc (om hs1 hs0 oz oz) ?_;refine gc (Sx hv (hs1.sub hs0) oz oz) ?_;refine gc (lT ((hv.cross (hs1.sub hs0)).qs oz)) ?_;refine gc (BB hv oz) ?_;refine gD ?_;refine gt (aH (oS D.hl D.li _ D.al D.hc i1 i3 hE h3 hb) (aJ rfl rfl rfl) aI rfl rfl) ?_;refine gC (fun t63=>?_) (fun t63=>?_) (st2:=(77777,0))
 ·refine gc hsub ?_;refine gt (aH (Con.rB 1001 rfl rfl rfl rfl (lV _ _ _)) (aJ rfl rfl rfl) aI rfl rfl) ?_;refine gD ?_;refine gc hdot ?_;refine gt (aH (Con.rB 1001 rfl rfl rfl rfl (oE _ _)) (aJ rfl rfl rfl) aI rfl rfl) ?_;refine gD ?_;refine gR ?_;exact az.keep (lU rfl rfl)
 cases t63
theorem UT{l:Li}{a:As}(D:DyR l a){i z0 z1:Int}{j0 j:Jt}(hg:GrOk l ⟨3,[i],[z0,z1],0⟩)
  (h0:l.jo[z0.toNat]?=some j0) (h1:l.jo[z1.toNat]?=some j) (p0:PinP 3900000 l a j0 i) (hi:j.b=i) (hk:j.kind≠0) (hb:Pd 3900000 a j.a) :
  Con prog 81 [.ptr 1000 0,.ptr 1001 0] [(1000,some (cf l ⟨3,[i],[z0,z1],0⟩ a)),(1001,some (dz a.rs))] (.agg (rC l a i j0 j)) [(1000,some (cf l ⟨3,[i],[z0,z1],0⟩ a)),(1001,some (dz a.rs))]:=by
 obtain⟨i1,i2,i3,i4,i5⟩:=cO D.li h1;obtain⟨z1',z2'⟩:=l8 D.hl D.li D.al D.s D.hc h0 p0;obtain⟨y1,y2⟩:=mQ D.hl D.li D.al D.s D.hc i1 i3 hb;obtain⟨w1,w2⟩:=CK D h0 p0 h1 hb;haveI c:=D.s.ct D.hc;haveI:=z1';haveI:=z2';haveI:=y1;haveI:=y2;haveI:=w1;haveI:=w2
 have hsub:=W6 (ts:=llq a.rs) (u:=310000) (k:=65000) (a:=sX (bh l a j.a j.point).1) (b:=sX (bh l a j.a j.point).2) (a2:=sX (aG l a j0 i).1) (b2:=sX (aG l a j0 i).2);have hdot:=Ni (ts:=llq a.rs) (u:=310000) (k:=65000) (a:=sX (bU l a i j0 j).1) (b:=sX (bU l a i j0 j).2) (a2:=sX (bU l a i j0 j).1) (b2:=sX (bU l a i j0 j).2);rw[lh D.s.tr D.hc]at hsub hdot;exact Dt oz D.toDyW D.two hg h0 h1 p0 hi hk hb hsub hdot
theorem Kl{l:Li}{a:As}(D:DyR l a){i:Int}{j0 j:Jt}{w v:Nat}[z1:Zl (llq a.rs) 310000 65000 (sh 0 (cm l i j0 j:Rat)) (qE (cm l i j0 j)) 3 0][z2:Zl (llq a.rs) 310000 65000 (sh 0 (iR l i j:Rat)) (qE (iR l i j)) 3 0][z3:Zu 310000 65000 (cc l a i j0 j) w v](hw:w+v<=2000) :
  Con prog 82 [.agg (rC l a i j0 j),.ptr 1001 0] [(1001,some (dz a.rs))] (nA (sX (qE (iR l i j)*cc l a i j0 j-qE (cm l i j0 j)*qE (cm l i j0 j)))) [(1001,some (dz a.rs))]:=by
 haveI c:=D.s.ct D.hc;haveI:=z1.zu;haveI:=z2.zu
 have m1:=D5 (a:=sh 0 (iR l i j:Rat)) (b:=sX (cc l a i j0 j)) D.s.tr D.hc oz;have m2:=D5 (a:=sh 0 (cm l i j0 j:Rat)) (b:=sh 0 (cm l i j0 j:Rat)) D.s.tr D.hc oz;have m3:=WD (a:=sX (qE (iR l i j)*cc l a i j0 j)) (b:=sX (qE (cm l i j0 j)*qE (cm l i j0 j):Et (llq a.rs))) D.s.tr D.hc oz;refine gF func82 (fun k z h=>by have:=(fC h).1;omega) ?_;refine gt (aH (Con.rB 1001 rfl rfl rfl rfl m1) (aJ rfl rfl rfl) aI rfl rfl) ?_;refine gt (aH (Con.rB 1001 rfl rfl rfl rfl m2) (aJ rfl rfl rfl) aI rfl rfl) ?_;refine gt (aH (Con.rB 1001 rfl rfl rfl rfl m3) (aJ rfl rfl rfl) aI rfl rfl) ?_;refine gD ?_;refine gR ?_;exact az.keep (bj rfl)
abbrev Ci:Type:=List Rat×List Rat×List Rat
abbrev Gt(c:Ci):AV:=.agg [nA c.1,nA c.2.1,nA c.2.2]
structure CiZ(rs:List (List Rt))(c:Ci):Prop where
  x:Nm (llq rs).length 2500000000 c.1
  y:Nm (llq rs).length 2500000000 c.2.1
  r:Nm (llq rs).length 2500000000 c.2.2
  sg:0<=am (dE (llq rs) c.2.2)
theorem Vd{ts:LL}(p q:Et ts×Et ts):dotE (q.1-p.1) (q.2-p.2) (q.1-p.1) (q.2-p.2)=aB p q:=by
 unfold aB dB aQ dotE;dsimp only;grind
theorem EE{ts:LL}(c:Ct ts 310000 65000){x y x2 y2:Et ts}(h1:Zu 310000 65000 x 40 40)(h2:Zu 310000 65000 y 40 40)(h3:Zu 310000 65000 x2 40 40)(h4:Zu 310000 65000 y2 40 40):Zu 310000 65000 (aB (x,y) (x2,y2)) 320 327:=by
 haveI:=c;haveI:=h1;haveI:=h2;haveI:=h3;haveI:=h4
 exact(inferInstance:Zu 310000 65000 (dotE (x-x2) (y-y2) (x-x2) (y-y2)) _ _)
section
variable{rs:List (List Rt)}{r:Nat}{a b c a2 b2 c2:List Rat}
theorem Jk(h:TR rs r)(hc:bC rs=0){e:Nat}(ha:Nm (llq rs).length e a)(hb:Nm (llq rs).length e b)(he:e<=lm (llq rs).length):FP 273 [dI rs,aM a b] (.v .nilIface):=by
 obtain⟨tw,etw⟩:=df h hc;have hca:=my tw [(a,b)] (fun p hp=>by rw[List.mem_singleton.1 hp];exact⟨ha,hb⟩) he (by show 1<=500;omega);rw[<- etw]at hca;refine aj func273 ?_;refine gc hca ?_;refine af ?_;rfl
theorem H5(h:TR rs r)(hc:bC rs=0){e:Nat}(ha:Nm (llq rs).length e a)(hb:Nm (llq rs).length e b)(hn:Nm (llq rs).length e c)(he:e+1<=lm (llq rs).length):FP 272 [dI rs,.agg [nA a,nA b,nA c]] (.v .nilIface):=by
 obtain⟨tw,etw⟩:=df h hc;have hneg:=x4 tw hn oz;rw[<- etw]at hneg;refine aj func272 ?_;refine gc (Jk h hc ha hb oz) ?_;refine gC (fun t13=>?_) (fun t13=>?_) (st1:=(3,0));cases t13;refine gc hneg ?_;refine af ?_;rfl
theorem Fo(h:TR rs r)(hc:bC rs=0)(cs:List Ci)(hz:∀c∈cs,CiZ rs c)(hl:cs.length<=100):FP 274 [dI rs,.lst 3 (cs.map Gt)] (.v .nilIface):=by
 obtain⟨tw,etw⟩:=df h hc;have hlm:=kE (llq rs).length;refine aj func274 ?_;refine gl ?_;refine aW [2,9,10] [2] (fun(i:Nat)=>[(11,some (i64 i))]) (fun _=>[]) (fun i=>i<=cs.length) (fun i=>cs.length-i) 0 (XJ _) ?_;rintro i hi K1 J1;refine gC (fun t12=>?_) (fun t12=>?_)
 ·have hin:=a6 t12;obtain⟨z,hzi⟩:=aw hin;have hz9:=hz z (Xx hzi);have hs:=qU tw hz9.r oz;rw[<- etw]at hs;refine gi (aE hzi) ?_;refine gc hs ?_;refine gC (fun t23=>?_) (fun t23=>?_) (st1:=(6,0));cases t23;refine gC (fun t26=>?_) (fun t26=>?_) (st1:=(8,0));exact absurd t26 (by have h9:=hz9.sg;unfold am dE at h9;simp only[aa,decide_eq_true_eq];omega);refine ga aN ?_;exact aO J1 (i+1) hin
 refine af ?_;rfl
theorem TW(h:TR rs r)(hc:bC rs=0)(cs:List Ci)(hz:∀c∈cs,CiZ rs c)(hl:cs.length<=100):FP 167 [dI rs,.lst 3 (cs.map Gt)] (.v .nilIface):=by
 have hlm:=kE (llq rs).length;have hck:=qN rs r h;rw[hc]at hck;refine aj func167 ?_;refine gc hck ?_;refine gC (fun t12=>?_) (fun t12=>?_) (st1:=(3,0));cases t12;refine gl ?_;refine aW [1,2,14,15] [2] (fun(i:Nat)=>[(16,some (i64 i))]) (fun _=>[]) (fun i=>i<=cs.length) (fun i=>cs.length-i) 0 (XJ _) ?_;rintro i hi K1 J1;refine gC (fun t17=>?_) (fun t17=>?_)
 ·have hin:=a6 t17;obtain⟨z,hzi⟩:=aw hin;have hz9:=hz z (Xx hzi);refine gi (aE hzi) ?_;refine gc (H5 h hc hz9.x hz9.y hz9.r oz) ?_;refine gC (fun t24=>?_) (fun t24=>?_) (st1:=(9,0));cases t24;refine ga aN ?_;exact aO J1 (i+1) hin
 refine gc (Fo h hc cs hz hl) ?_;refine af ?_;rfl
theorem V4(h:TR rs r)(hc:bC rs=0){x y x2 y2:Et (llq rs)}[c0:Ct (llq rs) 310000 65000][i1:Zl (llq rs) 310000 65000 a x 40 40][i2:Zl (llq rs) 310000 65000 b y 40 40][i4:Zl (llq rs) 310000 65000 a2 x2 40 40][i5:Zl (llq rs) 310000 65000 b2 y2 40 40] :
  FP 282 [dI rs,aM a b,aM a2 b2] (.tup [nA (sX (aB (x,y) (x2,y2))),.v .nilIface]):=by
 obtain⟨_,etw⟩:=df h hc;obtain⟨R,tw,hk⟩:=c0.ex;have kk:=c0.kk hk;obtain⟨K,hK⟩:∃K,40*310000+40*65000=K:=⟨_,rfl⟩
 have hlm:=kE (llq rs).length;have n1:=i1.nm;have n2:=i2.nm;have n4:=i4.nm;have n5:=i5.nm
 have hca:=my tw [(a,b),(a2,b2)] (e:=40*310000+40*65000) (fun p hp=>by
  simp only[X6,XV,or_false]at hp;rcases hp with rfl |rfl
  ·exact⟨n1,n2⟩
  ·exact⟨n4,n5⟩) oz (by show 2<=500;omega)
 rw[<- etw]at hca;have hle:=p5 tw n4 n5 n1 n2 oz;have m1:=n4.sub n1;have m2:=n5.sub n2;have hdo:=B7 tw m1 m2 m1 m2 oz;rw[i1.eq,i2.eq,i4.eq,i5.eq]at hle;rw[i1.eq,i2.eq,i4.eq,i5.eq,bg,bg]at hdo;have hd2:=Vd (x,y) (x2,y2);refine aj func282 ?_;refine gc hca ?_;refine gC (fun t17=>?_) (fun t17=>?_) (st1:=(3,0)) (st2:=(5,0));cases t17;refine gW (Wk.of (sl:=[(4,some (.ptr 4 0)),(5,some (.ptr 5 0)),(9,some (.ptr 21 0))]) (hp:=[(4,some (.box [nA a,nA b])),(5,some (.box [nA a2,nA b2])),(21,some (.box [.lst 1 ((llq rs).map nA),.v .nilIface]))]) aZ (.k (.k (.cons rfl (BlkSub.bL (.cons (.of (mJ etw)) (.cons (.refl _) .nil)) rfl) .nil)))) ?_;refine gt (aH (Con.rB 21 rfl rfl rfl rfl hle) (aJ rfl rfl rfl) aI rfl rfl) ?_;refine gt (aH (Con.rB 21 rfl rfl rfl rfl hdo) (aJ rfl rfl rfl) aI rfl rfl) ?_;refine gt (aH (Con.rB 21 rfl rfl rfl rfl (v9 _ _)) (bB rfl rfl) aI rfl rfl) ?_;refine bp ?_;rw[<- hd2];rfl
theorem uo(rs:List (List Rt))(a:List Rat):Con prog 275 [.ptr 1000 0,nA a,.v .nilIface] [(1000,some (dz rs))] (nA a) [(1000,some (dz rs))]:=by
 refine gF func275 (fun k z h=>bD h) ?_;refine gC (fun t11=>?_) (fun t11=>?_) (st2:=(77777,0))
 ·refine gR ?_;exact az.keep (bj rfl)
 cases t11
end
section
variable{rs:List (List Rt)}{r u k:Nat}{a b:List Rat}{x y:Et (llq rs)}{w v w' v':Nat}
theorem TP (h : TR rs r) (hc : bC rs = 0) [c0 : Ct (llq rs) u k] [ha : Zl (llq rs) u k a x w v] [hb : Zl (llq rs) u k b y w' v'] (hs : w + v + (w' + v') <= 10000 := by decide) :
  Con prog 270 [.ptr 1000 0,nA a,nA b] [(1000,some (dz rs))] (nA (sX (x+y))) [(1000,some (dz rs))]:=by
 have hx:=PR (ha:=ha) (hb:=hb) hs;rw[lh h hc]at hx;refine gF func270 (fun k z h=>bD h) ?_;refine gc hx ?_;refine gt (aH (uo _ _) (aJ rfl rfl rfl) aI rfl rfl) ?_;refine gR ?_;exact az.keep (bj rfl)
theorem GT (h : TR rs r) (hc : bC rs = 0) [c0 : Ct (llq rs) u k] [ha : Zl (llq rs) u k a x w v] [hb : Zl (llq rs) u k b y w' v'] (hs : w + v + (w' + v') <= 10000 := by decide) :
  Con prog 266 [.ptr 1000 0,nA a,nA b] [(1000,some (dz rs))] (nA (sX (x-y))) [(1000,some (dz rs))]:=by
 have hx:=IT (ha:=ha) (hb:=hb) hs;rw[lh h hc]at hx;refine gF func266 (fun k z h=>bD h) ?_;refine gc hx ?_;refine gt (aH (uo _ _) (aJ rfl rfl rfl) aI rfl rfl) ?_;refine gR ?_;exact az.keep (bj rfl)
theorem zB (h : TR rs r) (hc : bC rs = 0) [c0 : Ct (llq rs) u k] [ha : Zl (llq rs) u k a x w v] [hb : Zl (llq rs) u k b y w' v'] (hs : w + v + (w' + v') <= 10000 := by decide) :
  Con prog 276 [.ptr 1000 0,nA a,nA b] [(1000,some (dz rs))] (nA (sX (x*y))) [(1000,some (dz rs))]:=by
 have hx:=HU (ha:=ha) (hb:=hb) hs;rw[lh h hc]at hx;refine gF func276 (fun k z h=>bD h) ?_;refine gc hx ?_;refine gt (aH (uo _ _) (aJ rfl rfl rfl) aI rfl rfl) ?_;refine gR ?_;exact az.keep (bj rfl)
theorem N6 (h : TR rs r) (hc : bC rs = 0) [c0 : Ct (llq rs) u k] (n : Int) (hn : -9223372036854775808 <= n /\ n <= 9223372036854775807) [hq : Qz u (n : Rat) w'] [ha : Zl (llq rs) u k a x w v] (hs : w' + 0 + (w + v) <= 10000 := by decide) :
  Con prog 267 [.ptr 1000 0,i64 n,nA a] [(1000,some (dz rs))] (nA (sX (qE (n:Rat)*x))) [(1000,some (dz rs))]:=by
 have hm:=zB (a:=sh 0 ((n:Rat):Rat)) (b:=a) h hc hs;refine gF func267 (fun k z h=>bD h) ?_;refine gc (kA n hn) ?_;refine gc (lT (rL hn)) ?_;refine gt (aH hm (aJ rfl rfl rfl) aI rfl rfl) ?_;refine gR ?_;exact az.keep (bj rfl)
end
section
variable{rs:List (List Rt)}{r:Nat}{a b c a2 b2 c2:List Rat}{x y z x2 y2 z2:Et (llq rs)}
theorem Lx(h:TR rs r)(hc:bC rs=0)[c0:Ct (llq rs) 310000 65000][i1:Zl (llq rs) 310000 65000 a x 40 40][i2:Zl (llq rs) 310000 65000 b y 40 40][i3:Zl (llq rs) 310000 65000 c z 3 0][i4:Zl (llq rs) 310000 65000 a2 x2 40 40][i5:Zl (llq rs) 310000 65000 b2 y2 40 40][i6:Zl (llq rs) 310000 65000 c2 z2 3 0] :
  Con prog 168 [.ptr 1000 0,.agg [nA a,nA b,nA c],.agg [nA a2,nA b2,nA c2]] [(1000,some (dz rs))] (.tup [nA (sX (bn (x,y) z (x2,y2) z2)),nA (sX (aB (x,y) (x2,y2)))]) [(1000,some (dz rs))]:=by
 have hd:=V4 (a:=a) (b:=b) (a2:=a2) (b2:=b2) h hc;haveI:=i3.zu;haveI:=i6.zu;haveI zd:=EE c0 i1.zu i2.zu i4.zu i5.zu;haveI q4:Qz 310000 ((4:Int):Rat) 1:=Qz.int (c:=Ct.cx (c:=c0)) (by decide);have m1:=TP (a:=c) (b:=sX (aB (x,y) (x2,y2))) h hc (by decide);have m2:=GT (a:=sX (z+aB (x,y) (x2,y2))) (b:=c2) h hc (by decide);have m3:=zB (a:=c) (b:=sX (aB (x,y) (x2,y2))) h hc (by decide);have m4:=N6 (a:=sX (z*aB (x,y) (x2,y2))) h hc 4 oz (by decide);have m5:=zB (a:=sX (z+aB (x,y) (x2,y2)-z2)) (b:=sX (z+aB (x,y) (x2,y2)-z2)) h hc (by decide);have m6:=GT (a:=sX (qE ((4:Int):Rat)*(z*aB (x,y) (x2,y2)))) (b:=sX ((z+aB (x,y) (x2,y2)-z2)*(z+aB (x,y) (x2,y2)-z2))) h hc (by decide);refine gF func168 (fun k z h=>bD h) ?_;refine gc hd ?_;refine gt (aX (uo _ _) (aJ rfl rfl rfl) rfl rfl rfl) ?_;refine gD ?_;refine gt (aX m1 (aJ rfl rfl rfl) rfl rfl rfl) ?_;refine gt (aX m2 (aJ rfl rfl rfl) rfl rfl rfl) ?_;refine gD ?_;refine gt (aX m3 (aJ rfl rfl rfl) rfl rfl rfl) ?_;refine gt (aX m4 (.cons (.tmp rfl) (.cons (.const _) (cB rfl))) rfl rfl rfl) ?_;refine gt (aX m5 (aJ rfl rfl rfl) rfl rfl rfl) ?_;refine gt (aX m6 (aJ rfl rfl rfl) rfl rfl rfl) ?_;refine gR ?_;exact az.keep (bj rfl)
end
class Cy(ts:LL)(u k:outParam Nat):Prop where
  ex:∃R,Tw ts R/\eB R ts.length<=k
  k1:1<=k
  u3:3<=u
  two:ts.length<=2
instance Cy.cx{ts:LL}{u k:Nat}[c:Cy ts u k]:Cx (ax ts) ts.length u k:=by
  obtain⟨R,tw,h⟩:=c.ex;exact⟨⟨R,Gm tw▸tw,h⟩,c.k1,c.u3⟩
theorem Cy.zq{ts:LL}{u k:Nat}[c:Cy ts u k]{q:Rat}{w:Nat}[h:Qz u q w]:Zl ts u k (sh 0 (q:Rat)) (qE q:Et ts) w 0:=⟨gM _ q,by
 obtain⟨R,tw,_⟩:=c.ex;exact(Nm.ofQ tw.five h.cb).eq oz⟩
theorem Cy.lm{ts:LL}{u k:Nat}(c:Cy ts u k):lm ts.length=200000000000:=by unfold Go.Lw.lm;rw[Yl c.two]
def iE{ts:LL}(y:Et ts):Et ts:=T.inv (ax ts) ts.length y
abbrev bf(ts:LL):Blk:=.box [.lst 1 (ts.map nA),.v .nilIface]
theorem zO(ts:LL):dz (ts.map (List.map rt))=bf ts:=by
 have h:=j7 ts;unfold dI aY at h;have h1:=AV.agg.inj h
 injection h1 with h2
 show Blk.box [.lst 1 ((ts.map (List.map rt)).map nR),.v .nilIface]=_;rw[h2]
section
variable{ts:LL}{u k:Nat}{a b:List Rat}{x y:Et ts}{w v w' v':Nat}
theorem Nc[c:Cy ts u k][ha:Zl ts u k a x w v][hb:Zl ts u k b y w' v'](hs:w*u+v*k+(w'*u+v'*k)<200000000000):FP 356 [aY ts,nA a,nA b] (.tup [nA (sX (x+y)),.v .nilIface]):=by
 obtain⟨R,tw,hk⟩:=c.ex;have h1:=x7 tw ha.nm hb.nm (by rw[c.lm];omega);rw[ha.eq,hb.eq]at h1;exact h1
theorem Nv[c:Cy ts u k][ha:Zl ts u k a x w v][hb:Zl ts u k b y w' v'](hs:w*u+v*k+(w'*u+v'*k)<200000000000):FP 176 [aY ts,nA a,nA b] (.tup [nA (sX (x-y)),.v .nilIface]):=by
 obtain⟨R,tw,hk⟩:=c.ex;have h1:=ou tw ha.nm hb.nm (by rw[c.lm];omega);rw[ha.eq,hb.eq]at h1;exact h1
theorem U3[c:Cy ts u k][ha:Zl ts u k a x w v][hb:Zl ts u k b y w' v'](hs:w*u+v*k+(w'*u+v'*k)<200000000000):FP 127 [aY ts,nA a,nA b] (.tup [nA (sX (x*y)),.v .nilIface]):=by
 obtain⟨R,tw,hk⟩:=c.ex;have h1:=Bs tw ha.nm hb.nm (by rw[c.lm];omega);rw[ha.eq,hb.eq]at h1;exact h1
theorem DW[c:Cy ts u k][ha:Zl ts u k a x w v](hs:w*u+v*k<200000000000):FP 147 [aY ts,nA a] (.tup [nA (sX (-x)),.v .nilIface]):=by
 obtain⟨R,tw,hk⟩:=c.ex;have h1:=x4 tw ha.nm (by rw[c.lm];omega);rw[ha.eq]at h1;exact h1
theorem F3[c:Cy ts u k][ha:Zl ts u k a x w v](hs:w*u+v*k<200000000000):FP 116 [aY ts,nA a] (.tup [i64 (am x),.v .nilIface]):=by
 obtain⟨R,tw,hk⟩:=c.ex;have h1:=qU tw ha.nm (by rw[c.lm];omega);rw[ha.eq]at h1;exact h1
theorem L2{j m:Nat}[c:Cy ts u k][ha:Zl ts u k a x w v][hb:Zl ts u k b y w' v'](nb:Nl j b)(hj:j<=ts.length)(h0:am y≠0)(hm:∀R,eB R ts.length<=k->iB R j (w'*u+v'*k)<=m)(hf:w'*u+v'*k<200000000000)(hs:w*u+v*k+m+k<=200000000000) :
  FP 281 [aY ts,nA a,nA b] (.tup [nA (sX (x*iE y)),.v .nilIface])/\Nm ts.length (w*u+v*k+m+k) (sX (x*iE y)):=by
 obtain⟨R,tw,hk⟩:=c.ex;have hi:=hm R hk;have he:=hb.eq;have h1:T.sgn (ax ts) ts.length (ae ts.length b)≠0:=by rw[he];exact h0
 have hd:=Ax tw ha.nm hb.nm hj nb h1 (by rw[c.lm];omega) oz;have hn:=A7 tw ha.nm hb.nm hj nb h1 (by rw[c.lm];omega) oz;rw[ha.eq,he]at hd hn;exact⟨hd,hn.mono oz⟩
theorem q5{j:Nat}[c:Cy ts u k][ha:Zl ts u k a x w v][hb:Zl ts u k b y w' v'](nb:Nl j b)(hj:j<=ts.length)(hj1:j<=1)(h0:am y≠0)(hs:(w+5*w')*u+(v+5*v'+3)*k<=200000000000) :
  FP 281 [aY ts,nA a,nA b] (.tup [nA (sX (x*iE y)),.v .nilIface])/\Zu u k (x*iE y) (w+5*w') (v+5*v'+3):=by
 have e:(w+5*w')*u+(v+5*v'+3)*k=w*u+v*k+(5*(w'*u+v'*k)+2*k)+k:=by
  simp only[Nat.add_mul,Nat.mul_add,Nat.mul_assoc];omega
 rw[e]at hs
 have h:=L2 (a:=a) (b:=b) (m:=5*(w'*u+v'*k)+2*k) nb hj h0 (fun R hR=>by
  have h2:=Rv R (w'*u+v'*k) hj1;have h3:=ig R hj;omega) oz hs
 exact⟨h.1,⟨h.2.eq e.symm⟩⟩
theorem pa(ts:LL)(a:List Rat):Con prog 275 [.ptr 1000 0,nA a,.v .nilIface] [(1000,some (bf ts))] (nA a) [(1000,some (bf ts))]:=by
 have h:=uo (ts.map (List.map rt)) a;rw[zO]at h;exact h
theorem pI(ts:LL)(a:List Rat):Con prog 71 [.ptr 1000 0,nA a,.v .nilIface] [(1000,some (bf ts))] (nA a) [(1000,some (bf ts))]:=by
 have h:=oE (ts.map (List.map rt)) a;rw[zO]at h;exact h
theorem ka[c:Cy ts u k][ha:Zl ts u k a x w v][hb:Zl ts u k b y w' v'](hs:w*u+v*k+(w'*u+v'*k)<200000000000) :
  Con prog 270 [.ptr 1000 0,nA a,nA b] [(1000,some (bf ts))] (nA (sX (x+y))) [(1000,some (bf ts))]:=by
 refine gF func270 (fun k z h=>bD h) ?_;refine gc (Nc hs) ?_;refine gt (aH (pa _ _) (aJ rfl rfl rfl) aI rfl rfl) ?_;refine gR ?_;exact az.keep (bj rfl)
theorem kZ[c:Cy ts u k][ha:Zl ts u k a x w v][hb:Zl ts u k b y w' v'](hs:w*u+v*k+(w'*u+v'*k)<200000000000) :
  Con prog 266 [.ptr 1000 0,nA a,nA b] [(1000,some (bf ts))] (nA (sX (x-y))) [(1000,some (bf ts))]:=by
 refine gF func266 (fun k z h=>bD h) ?_;refine gc (Nv hs) ?_;refine gt (aH (pa _ _) (aJ rfl rfl rfl) aI rfl rfl) ?_;refine gR ?_;exact az.keep (bj rfl)
theorem jL[c:Cy ts u k][ha:Zl ts u k a x w v][hb:Zl ts u k b y w' v'](hs:w*u+v*k+(w'*u+v'*k)<200000000000) :
  Con prog 276 [.ptr 1000 0,nA a,nA b] [(1000,some (bf ts))] (nA (sX (x*y))) [(1000,some (bf ts))]:=by
 refine gF func276 (fun k z h=>bD h) ?_;refine gc (U3 hs) ?_;refine gt (aH (pa _ _) (aJ rfl rfl rfl) aI rfl rfl) ?_;refine gR ?_;exact az.keep (bj rfl)
theorem sR{q:List Rat}(hd:FP 281 [aY ts,nA a,nA b] (.tup [nA q,.v .nilIface])) :
  Con prog 269 [.ptr 1000 0,nA a,nA b] [(1000,some (bf ts))] (nA q) [(1000,some (bf ts))]:=by
 refine gF func269 (fun k z h=>bD h) ?_;refine gc hd ?_;refine gt (aH (pa _ _) (aJ rfl rfl rfl) aI rfl rfl) ?_;refine gR ?_;exact az.keep (bj rfl)
theorem qr[c:Cy ts u k][ha:Zl ts u k a x w v](hs:w*u+v*k<200000000000) :
  Con prog 263 [.ptr 1000 0,nA a] [(1000,some (bf ts))] (i64 (am x)) [(1000,some (bf ts))]:=by
 refine gF func263 (fun k z h=>bD h) ?_;refine gC (fun t11=>?_) (fun t11=>?_) (st1:=(2,0));cases t11;refine gc (F3 hs) ?_;refine gR ?_;exact az.keep (bj rfl)
theorem wY{q:List Rat}(hd:FP 281 [aY ts,nA a,nA b] (.tup [nA q,.v .nilIface])) :
  Con prog 163 [.ptr 1000 0,nA a,nA b] [(1000,some (bf ts))] (nA q) [(1000,some (bf ts))]:=by
 refine gF func163 (fun k z h=>bD h) ?_;refine gc hd ?_;refine gt (aH (pI _ _) (aJ rfl rfl rfl) aI rfl rfl) ?_;refine gR ?_;exact az.keep (bj rfl)
theorem BM[c:Cy ts u k][ha:Zl ts u k a x w v](hs:w*u+v*k<200000000000) :
  Con prog 160 [.ptr 1000 0,nA a] [(1000,some (bf ts))] (i64 (am x)) [(1000,some (bf ts))]:=by
 refine gF func160 (fun k z h=>bD h) ?_;refine gC (fun t11=>?_) (fun t11=>?_) (st1:=(2,0));cases t11;refine gc (F3 hs) ?_;refine gR ?_;exact az.keep (bj rfl)
theorem Bt[c:Cy ts u k](n:Int)(hn:-9223372036854775808<=n/\n<=9223372036854775807)[hq:Qz u (n:Rat) w'][ha:Zl ts u k a x w v](hs:w'*u+0*k+(w*u+v*k)<200000000000) :
  Con prog 267 [.ptr 1000 0,i64 n,nA a] [(1000,some (bf ts))] (nA (sX (qE (n:Rat)*x))) [(1000,some (bf ts))]:=by
 haveI:=Cy.zq (ts:=ts) (u:=u) (k:=k) (q:=(n:Rat)) (w:=w');have hm:=jL (ts:=ts) (u:=u) (k:=k) (a:=sh 0 ((n:Rat):Rat)) (b:=a) (x:=qE (n:Rat)) (y:=x) hs;refine gF func267 (fun k z h=>bD h) ?_;refine gc (kA n hn) ?_;refine gc (lT (rL hn)) ?_;refine gt (aH hm (aJ rfl rfl rfl) aI rfl rfl) ?_;refine gR ?_;exact az.keep (bj rfl)
theorem ua{p1 p2 v1 v2 c m1 m2 q1 q2:List Rat}(h1:Con prog 276 [.ptr 1000 0,nA c,nA v1] [(1000,some (bf ts))] (nA m1) [(1000,some (bf ts))])
  (h2:Con prog 276 [.ptr 1000 0,nA c,nA v2] [(1000,some (bf ts))] (nA m2) [(1000,some (bf ts))])
  (h3:Con prog 270 [.ptr 1000 0,nA p1,nA m1] [(1000,some (bf ts))] (nA q1) [(1000,some (bf ts))])
  (h4:Con prog 270 [.ptr 1000 0,nA p2,nA m2] [(1000,some (bf ts))] (nA q2) [(1000,some (bf ts))]) :
  Con prog 268 [.ptr 1000 0,aM p1 p2,nA c,aM v1 v2] [(1000,some (bf ts))] (aM q1 q2) [(1000,some (bf ts))]:=by
 refine gF func268 (fun k z h=>bD h) ?_;refine gt (aH h1 (aJ rfl rfl rfl) aI rfl rfl) ?_;refine gt (aH h3 (aJ rfl rfl rfl) aI rfl rfl) ?_;refine gt (aH h2 (aJ rfl rfl rfl) aI rfl rfl) ?_;refine gt (aH h4 (aJ rfl rfl rfl) aI rfl rfl) ?_;refine gD ?_;refine gR ?_;exact az.keep (bj rfl)
theorem FE{r e:Nat}(tw:Tw ts r)(ha:Nm ts.length e a)(he:e<=lm ts.length)(hs:0<=T.sgn (ax ts) ts.length (ae ts.length a)) :
  Con prog 271 [.ptr 1000 0,nA a] [(1000,some (bf ts))] (nA (cw ts.length)) [(1000,some (bf (aR ts a)))]:=by
 refine gF func271 (fun k z h=>bD h) ?_;refine gC (fun t12=>?_) (fun t12=>?_) (st1:=(2,0));cases t12;refine gc (CD tw ha he hs) ?_;refine gC (fun t24=>?_) (fun t24=>?_) (st1:=(5,0));cases t24;refine gR ?_;exact az.keep (bj rfl)
abbrev Bu(ts:LL)(ps:List AV):AV:=.agg [.lst 1 (ts.map nA),.lst 2 ps]
theorem Mm{r:Nat}(tw:Tw ts r):Con prog 355 [.ptr 1000 0] [(1000,some (bf ts))] (aY ts) [(1000,some (bf ts))]:=by
 have h3:=tw.three;have hqs:=tw.rb.qs tw.le;refine gF func355 (fun k z h=>bD h) ?_;refine gl ?_;refine gW (Wk.virt 900 1 rfl) ?_;refine aW [2,3,13,14] [1000,2] (fun(i:Nat)=>[(15,some (i64 i))]) (fun i=>[(3,some (.box [.ms 900 1 0 i])),(900,some (.row 1 ((ts.take i).map nA)))]) (fun i=>i<=ts.length) (fun i=>ts.length-i) 0 (XJ _) ?_ (h2:=(.cons rfl (BlkSub.bL (.cons (.nM _ _ _) .nil) rfl) (.k .nil)));rintro i hi K1 J1;refine gC (fun t16=>?_) (fun t16=>?_) (st2:=(13,0))
 ·have hin:=a6 t16;obtain⟨d,hd⟩:=aw hin
  have hdl:d.length<=32:=by
   have h9:=tw.len i hin;rw[aq hd]at h9;have:2^i<=32:=cM (b:=5) oz;omega
  have hdq:=hqs d (Xx hd);refine gi (aE hd) ?_;refine gl ?_;refine gW (Wk.virt 901 3 rfl) ?_;refine aW [2,3,13,14,15,19,20] [1000,2,3,900] (fun(j:Nat)=>[(6,some (.ms 901 3 0 j)),(21,some (i64 j))]) (fun j=>[(901,some (.row 3 ((d.take j).map qA)))]) (fun j=>j<=d.length) (fun j=>d.length-j) 0 (XJ _) ?_;rintro j hj K2 J2;refine gC (fun t22=>?_) (fun t22=>?_) (st2:=(11,0))
  ·have hjn:=a6 t22;obtain ⟨q,hq⟩:=aw hjn;have hadd:=ni (rt q) (rt 0) (hdq q (Xx hq)).ok Qs.zero.ok;rw [rE,bV] at hadd;refine gi (aE hq) ?_;refine gc (Con.sA (.cons (.refl _) (.cons jx .nil)) hadd) ?_;refine gs (bX (.tmp rfl) rfl (by rw [XA,XO]; omega) (.tmp rfl) T67 rfl T45 rfl rfl (by simp only [XK,XM]; omega) rfl rfl) ?_ (10,0);refine gW (Wk.of (sl:=[(2,some (.ptr 2 0)),(3,some (.ptr 3 0)),(13,some (.lst 1 (ts.map nA))),(14,some (i64 ts.length)),(15,some (i64 i)),(6,some (.ms 30 3 0 (j + 1))),(19,some (nA d)),(20,some (i64 d.length)),(21,some (i64 j))]) (hp:=[(1000,some (bf ts)),(2,some (.box [nS])),(3,some (.box [.ms 900 1 0 i])),(900,some (.row 1 ((ts.take i).map nA))),(30,some (.row 3 ((d.take (j + 1)).map qA)))]) aZ (.k (.k (.k (.k (.cons rfl (BlkSub.of (by rw [dR hq,XQ]; rfl)) .nil)))))) ?_ (10,0)
   refine gW (Wk.rk (k:=30) (d:=901) rfl rfl) ?_;refine ga aN ?_;exact aO J2 (j+1) hjn
  have hjn:=bc hj t22;subst hjn;refine gW ((Wk.freeze (k:=901) rfl).trans<|Wk.of (sl:=[(2,some (.ptr 2 0)),(3,some (.ptr 3 0)),(13,some (.lst 1 (ts.map nA))),(14,some (i64 ts.length)),(15,some (i64 i)),(6,some (nA d))]) (hp:=[(1000,some (bf ts)),(2,some (.box [nS])),(3,some (.box [.ms 900 1 0 i])),(900,some (.row 1 ((ts.take i).map nA)))]) (.k (.k (.k (.k (.k (.cons rfl (Sub.of (by rw[bJ (by simp)];simp[nA])) .nil)))))) (.k (.k (.k (.k .nil))))) ?_
  refine gs (bX (.tmp rfl) rfl (by rw[XA,XO];omega) (.tmp rfl) T35 rfl T67 rfl rfl (by simp only[XK,XM];omega) rfl rfl) ?_ (12,0);refine gW (Wk.of (sl:=[(2,some (.ptr 2 0)),(3,some (.ptr 3 0)),(13,some (.lst 1 (ts.map nA))),(14,some (i64 ts.length)),(15,some (i64 i))]) (hp:=[(1000,some (bf ts)),(2,some (.box [nS])),(3,some (.box [.ms 36 1 0 (i+1)])),(36,some (.row 1 ((ts.take (i+1)).map nA)))]) aZ (.k (.k (.k (.cons rfl (BlkSub.of (by rw[dR hd,XQ];rfl)) .nil))))) ?_ (12,0);refine gW (Wk.rk (k:=36) (d:=900) rfl rfl) ?_;refine ga aN ?_;exact aO J1 (i+1) hin
 have hin:=bc hi t16;subst hin;refine gW ((Wk.freeze (k:=900) rfl).trans<|Wk.of (sl:=[(2,some (.ptr 2 0)),(3,some (.ptr 3 0))]) (hp:=[(1000,some (bf ts)),(2,some (.box [nS])),(3,some (.box [.lst 1 (ts.map nA)]))]) aZ (.k (.k (.cons rfl (BlkSub.bL (.cons (Sub.of (by rw[bJ (by simp)];simp)) .nil) rfl) .nil)))) ?_;refine gR ?_;exact az.keep (bj rfl)
theorem mO{r:Nat}(tw:Tw ts r)(ps:List AV):Con prog 265 [.ptr 1000 0,.lst 2 ps] [(1000,some (bf ts))] (.tup [Bu ts ps,.v .nilIface]) [(1000,some (bf ts))]:=by
 refine gF func265 (fun k z h=>bD h) ?_;refine gC (fun t10=>?_) (fun t10=>?_) (st1:=(2,0));cases t10;refine gt (aH (Mm tw) (cB rfl) aI rfl rfl) ?_;refine gR ?_;exact az.keep (bj rfl)
end
theorem dJ(ts:LL)(a:List Rat):(aR ts a).length=ts.length+1:=by simp[aR]
theorem FY{ts:LL}{a:List Rat}{j:Nat}(h:j<ts.length):(aR ts a).getD j []=ts.getD j []:=by
 unfold aR;rw[Xy,Xy,XU h]
theorem sk(ts:LL)(a:List Rat):(aR ts a).getD ts.length []=bT a (2^ts.length):=by
 unfold aR;rw[Xy,XT (XD _),Nat.sub_self];rfl
theorem v6{ts:LL}{a:List Rat}{j:Nat}(h:j<ts.length):ax (aR ts a) j=ax ts j:=by
 unfold ax;rw[FY h]
theorem vV{ts:LL}{a:List Rat}{j:Nat}(h:j<=ts.length)(x:T j):T.sgn (ax (aR ts a)) j x=T.sgn (ax ts) j x :=
 T.sgn_congr j (fun i hi=>v6 oz) x
theorem RB.ext{r e:Nat}{ts:LL}{a:List Rat}(h:RB r ts)(ha:Cb e a):RB (r+e) (aR ts a):=by
 obtain⟨D,N,h0,h1,h2,h3⟩:=h;obtain⟨D',N',k1,k2,k3⟩:=ha.wide (n:=2^ts.length);have hN:N<=2^r:=h3;refine⟨D*D',max (N*D') (N'*D),Nat.mul_pos h0 k1.1,?_,?_,?_⟩
 ·intro d hd;rcases List.mem_append.1 hd with h9 |h9
  ·exact((h1 d h9).scale k1.1).mono (Nat.le_max_left _ _)
  ·rw[List.mem_singleton.1 h9,Nat.mul_comm D];exact(k1.scale h0).mono (Nat.le_max_right _ _)
 ·rw[Yb];exact Nat.mul_le_mul h2 k2
 ·rw[Yb];refine Nat.max_le.2 ⟨Nat.mul_le_mul h3 k2,?_⟩;rw[Nat.mul_comm (2^r)];exact Nat.mul_le_mul k3 h2
theorem B5{r e:Nat}{ts:LL}{a:List Rat}(tw:Tw ts r)(h2:ts.length<=2)(ha:Nm ts.length e a)(he:r+e<=5000000000)(hs:0<=T.sgn (ax ts) ts.length (ae ts.length a)):Tw (aR ts a) (r+e):=by
 refine⟨by rw[dJ];omega,?_,?_,tw.rb.ext ha.cb,he⟩
 ·intro j hj;rw[dJ]at hj;rcases XH j ts.length with h |h
  ·rw[FY h];exact tw.len j h
  ·have : j = ts.length := by omega
   subst this;rw[sk];exact fS ha.nl.le
 ·intro j hj;rw[dJ]at hj;rw[vV oz];rcases XH j ts.length with h |h
  ·rw[v6 h];exact tw.pos j h
  ·have : j = ts.length := by omega
   subst this
   have e1:ax (aR ts a) ts.length=ae ts.length a:=by
    show ae ts.length ((aR ts a).getD ts.length [])=_;rw[sk,qM]
   rw[e1];exact hs
theorem mi{ts:LL}{a l:List Rat}{e:Nat}(h:Nm ts.length e l)(h4:ts.length<=4):Nm (aR ts a).length e l:=by
 rw[dJ];exact⟨by omega,h.nl.mono oz,h.cb⟩
theorem Xc{ts:LL}{a l:List Rat}(h:Nl ts.length l):am (dE (aR ts a) l)=am (dE ts l):=by
 unfold am dE;rw[dJ];show T.sgn (ax (aR ts a)) (ts.length+1) (ae (ts.length+1) l)=_;rw[xm (ax (aR ts a)) h.le (Nat.le_succ _),vV (XD _)]
theorem sr{ts:LL}{a:List Rat}(h4:ts.length<=4):Nm (aR ts a).length 1 (cw ts.length):=by
 rw[dJ];refine⟨by omega,.inr ⟨_,XD _,Ai _⟩,1,1,⟨by omega,?_⟩,by omega,by omega⟩;intro q hq;unfold cw at hq;rcases List.mem_or_eq_of_mem_set hq with h |h
 ·rw[(List.mem_replicate.1 h).2];exact⟨0,by rw[Rat.zero_mul];rfl,by simp⟩
 ·rw[h];exact⟨1,by rw[Rat.one_mul];rfl,by simp⟩
theorem Pm{r e k:Nat}{ts:LL}{a:List Rat}(tw:Tw ts r)(h1:ts.length<=1)(ha:Nm ts.length e a)(he:r+e<=5000000000)(hs:0<=T.sgn (ax ts) ts.length (ae ts.length a)){u:Nat}(hu:3<=u)(hk:3*(r+e)+6<=k):Cy (aR ts a) u k :=
 ⟨⟨r+e,B5 tw oz ha he hs,by
  rw[dJ];have h:=ig (r+e) (show ts.length+1<=2 by omega);have h2:eB (r+e) 2=3*(r+e)+6:=by simp only[eB];omega
  omega⟩,by omega,hu,by rw[dJ];omega⟩
structure Mt where
  ts:LL
  ps:List (List Rat×List Rat)
abbrev dq(p:List Rat×List Rat):AV:=aM p.1 p.2
abbrev Mt.av(m:Mt):AV:=Bu m.ts (m.ps.map dq)
abbrev P2(ts:LL):Type:=Et ts×Et ts
abbrev P2.l{ts:LL}(p:P2 ts):List Rat×List Rat:=(sX p.1,sX p.2)
abbrev aL{ts:LL}(X:Et ts)(x:Et ts):Et (aR ts (sX X)):=dE (aR ts (sX X)) (sX x)
section
variable{ts:LL}
def er(d:Et ts):Et ts:=qE ((2:Int):Rat)*d
def fx(p q:P2 ts):P2 ts:=(q.1-p.1,q.2-p.2)
def cP(p:P2 ts)(k:Et ts)(v:P2 ts):P2 ts:=(p.1+k*v.1,p.2+k*v.2)
def c9(p q:P2 ts)(z z2:Et ts):P2 ts:=cP p ((z+aB p q-z2)*iE (er (aB p q))) (fx p q)
def dW(X d:Et ts):Et (aR ts (sX X)):=dE _ (cw ts.length)*iE (aL X (er d))
def gy(X:Et ts)(f v:P2 ts)(c:Et (aR ts (sX X))):P2 (aR ts (sX X)):=cP (aL X f.1,aL X f.2) c (qE ((-1:Int):Rat)*aL X v.2,aL X v.1)
def kP(p:P2 ts)(z z2:Et ts):Mt:=if am (z-z2)≠0 then⟨ts,[]⟩else if 0<am z then⟨[],[]⟩else⟨ts,[(cP p 0 p).l]⟩
def dY(p q:P2 ts)(z z2:Et ts):Mt :=
  if am (aB p q)=0 then kP p z z2
  else if am (bn p z q z2)<0 then⟨ts,[]⟩
  else if am (bn p z q z2)=0 then⟨ts,[(c9 p q z z2).l]⟩
  else⟨aR ts (sX (bn p z q z2)),[(gy (bn p z q z2) (c9 p q z z2) (fx p q) (dW (bn p z q z2) (aB p q))).l,
    (gy (bn p z q z2) (c9 p q z z2) (fx p q) (qE ((-1:Int):Rat)*dW (bn p z q z2) (aB p q))).l]⟩
def k9(z z2:Et ts):Nat:=if am (z-z2)=0/\0<am z then 15 else 0
def fB(p q:P2 ts)(z z2:Et ts):Nat:=if am (aB p q)=0 then k9 z z2 else 0
theorem Dp:Sub (.agg [nS,nS]) (Bu [] []):=Sub.agg (.cons (.nil _ _ _) (.cons (.nil _ _ _) .nil)) rfl
end
theorem VO {ts : LL} {u k : Nat} [c : Cy ts u k] : Zl ts u k [] (0 : Et ts) 0 0 := ⟨by rw [iW]; exact E.zero_def.symm, by
 obtain⟨R,tw,_⟩:=c.ex;exact⟨tw.five,.inl rfl,Cb.nil.mono (XJ _)⟩⟩
section
variable{ts:LL}{a b c a2 b2 c2:List Rat}{x y z x2 y2 z2:Et ts}
theorem UX{r:Nat}(tw:Tw ts r)[c0:Cy ts 310000 65000][i1:Zl ts 310000 65000 a x 40 40][i2:Zl ts 310000 65000 b y 40 40][i3:Zl ts 310000 65000 c z 3 0][i6:Zl ts 310000 65000 c2 z2 3 0] :
  Con prog 264 [.ptr 1000 0,.agg [nA a,nA b,nA c],.agg [nA a2,nA b2,nA c2]] [(1000,some (bf ts))]
   (.tup [(kP (x,y) z z2).av,br (k9 z z2)]) [(1000,some (bf ts))]:=by
 haveI:=i1.zu;haveI:=i2.zu;haveI:=i3.zu;haveI:=i6.zu;have hm0:=Con.sA (.cons (.refl _) (.cons (Sub.nil 2 none 0) .nil)) (mO tw []);have m1:=kZ (ts:=ts) (u:=310000) (k:=65000) (a:=c) (b:=c2) (by decide);have m2:=qr (ts:=ts) (u:=310000) (k:=65000) (a:=sX (z-z2)) (by decide);have m3:=qr (ts:=ts) (u:=310000) (k:=65000) (a:=c) (by decide);haveI zn:Zl ts 310000 65000 [] (0:Et ts) 0 0:=VO;have n1:=jL (ts:=ts) (u:=310000) (k:=65000) (a:=[]) (b:=a) (by decide);have n2:=jL (ts:=ts) (u:=310000) (k:=65000) (a:=[]) (b:=b) (by decide);have n3:=ka (ts:=ts) (u:=310000) (k:=65000) (a:=a) (b:=sX (0*x)) (by decide);have n4:=ka (ts:=ts) (u:=310000) (k:=65000) (a:=b) (b:=sX (0*y)) (by decide);have hal:=Con.sA (.cons (.refl _) (.cons (.refl _) (.cons (Sub.nil 3 none 0) (.cons (.refl _) .nil)))) (ua n1 n2 n3 n4);refine gF func264 (fun k z h=>bD h) ?_;refine gt (aX m1 (aJ rfl rfl rfl) rfl rfl rfl) ?_;refine gt (aX m2 (bB rfl rfl) rfl rfl rfl) ?_;refine gC (fun t8=>?_) (fun t8=>?_)
 ·have h1:am (z-z2)≠0:=mR t8;refine gt (aX hm0 (.cons (.tmp rfl) (.cons (.const _) .nil)) rfl rfl rfl) ?_;refine gR ?_;exact(az.keep (bj rfl)).sub (Sub.of (by unfold kP k9;rw[Yl h1,Yk (fun h=>h1 h.1)];rfl))
 have h1:am (z-z2)=0:=ui t8;refine gt (aX m3 (bB rfl rfl) rfl rfl rfl) ?_;refine gC (fun t22=>?_) (fun t22=>?_)
 ·have h2:0<am z:=of_decide_eq_true t22;refine gR ?_;exact(az.keep (bj rfl)).sub (by unfold kP k9;rw[Yk oz,Yl h2,Yl ⟨h1,h2⟩];exact Sub.tup (.cons Dp (.cons (.refl _) .nil)))
 have h2:¬0<am z:=of_decide_eq_false t22;refine gt (aX hal (.cons (.tmp rfl) (.cons (.tmp rfl) (.cons (.const _) (cB rfl)))) rfl rfl rfl) ?_;refine gt (aX (mO tw [aM (sX (x+0*x)) (sX (y+0*y))]) (bB rfl rfl) rfl rfl rfl) ?_;refine gR ?_;exact(az.keep (bj rfl)).sub (Sub.of (by unfold kP k9;rw[Yk oz,Yk h2,Yk (fun h=>h2 h.2)];rfl))
end
section
variable{rs:List (List Rt)}{r:Nat}{a b c a2 b2 c2:List Rat}{x y z x2 y2 z2:Et (llq rs)}
structure CirP(ts:LL)(p q:P2 ts)(z z2:Et ts):Prop where
  zd:Zu 310000 65000 (aB p q) 320 327
  zX:Zu 310000 65000 (bn p z q z2) 976 989
  zt:Zu 310000 65000 (er (aB p q)) 321 328
  z1:Zu 310000 65000 (fx p q).1 80 81
  z2:Zu 310000 65000 (fx p q).2 80 81
theorem Fs{ts:LL}{x y z x2 y2 z2:Et ts}(c:Ct ts 310000 65000)(h1:Zu 310000 65000 x 40 40)(h2:Zu 310000 65000 y 40 40)(h3:Zu 310000 65000 z 3 0)(h4:Zu 310000 65000 x2 40 40)(h5:Zu 310000 65000 y2 40 40)(h6:Zu 310000 65000 z2 3 0) :
  CirP ts (x,y) (x2,y2) z z2:=by
 haveI:=c;haveI:=h1;haveI:=h2;haveI:=h3;haveI:=h4;haveI:=h5;haveI:=h6
 haveI zd:=EE c h1 h2 h4 h5;haveI q4:Qz 310000 ((4:Int):Rat) 1:=Qz.int (c:=Ct.cx (c:=c)) (by decide);haveI q2:Qz 310000 ((2:Int):Rat) 1:=Qz.int (c:=Ct.cx (c:=c)) (by decide)
 exact⟨zd,(inferInstance:Zu 310000 65000 (qE ((4:Int):Rat)*(z*aB (x,y) (x2,y2))-(z+aB (x,y) (x2,y2)-z2)*(z+aB (x,y) (x2,y2)-z2)) _ _),
  (inferInstance:Zu 310000 65000 (qE ((2:Int):Rat)*aB (x,y) (x2,y2)) _ _),(inferInstance:Zu 310000 65000 (x2-x) _ _),(inferInstance:Zu 310000 65000 (y2-y) _ _)⟩
theorem C2{ts:LL}{x y z x2 y2 z2:Et ts}[c0:Cy ts 310000 65000](hn:ts.length<=1)(h1:Zu 310000 65000 x 40 40)(h2:Zu 310000 65000 y 40 40)(h3:Zu 310000 65000 z 3 0)(h6:Zu 310000 65000 z2 3 0)(P:CirP ts (x,y) (x2,y2) z z2)
  (h0:am (er (aB (x,y) (x2,y2)))≠0) :
  FP 281 [aY ts,nA (sX (z+aB (x,y) (x2,y2)-z2)),nA (sX (er (aB (x,y) (x2,y2))))] (.tup [nA (sX ((z+aB (x,y) (x2,y2)-z2)*iE (er (aB (x,y) (x2,y2))))),.v .nilIface]) /\
  Zu 310000 65000 ((z+aB (x,y) (x2,y2)-z2)*iE (er (aB (x,y) (x2,y2)))) 1931 1972/\Zu 310000 65000 (c9 (x,y) (x2,y2) z z2).1 2051 2095/\Zu 310000 65000 (c9 (x,y) (x2,y2) z z2).2 2051 2095:=by
 haveI:=h1;haveI:=h2;haveI:=h3;haveI:=h6;haveI:=P.zd;haveI:=P.zt
 have hd:=q5 (ts:=ts) (u:=310000) (k:=65000) (a:=sX (z+aB (x,y) (x2,y2)-z2)) (b:=sX (er (aB (x,y) (x2,y2)))) (j:=ts.length) P.zt.nm.nl (XD _) hn h0 (by decide);haveI zk:=hd.2;haveI:=P.z1;haveI:=P.z2
 exact⟨hd.1,zk,(inferInstance:Zu 310000 65000 (x+((z+aB (x,y) (x2,y2)-z2)*iE (er (aB (x,y) (x2,y2))))*(fx (x,y) (x2,y2)).1) _ _),
  (inferInstance:Zu 310000 65000 (y+((z+aB (x,y) (x2,y2)-z2)*iE (er (aB (x,y) (x2,y2))))*(fx (x,y) (x2,y2)).2) _ _)⟩
structure ExtP{ts:LL}(X:Et ts):Prop where
  tw:Tw (aR ts (sX X)) 366909990
  cy:Cy (aR ts (sX X)) 773000000 1101400000
theorem sV{ts:LL}{X:Et ts}(tw:Tw ts 64990)(hn:ts.length<=1)(hx:Zu 310000 65000 X 976 989)(hs:0<=am X):ExtP X:=by
 have h9:0<=T.sgn (ax ts) ts.length (ae ts.length (sX X)):=by rw[show ae ts.length (sX X)=X from bg _ _];exact hs
 have hm:=hx.nm;exact⟨B5 tw oz hm (by decide) h9,Pm tw hn hm (by decide) h9 oz (by decide)⟩
theorem j5{ts:LL}{X x:Et ts}{w v:Nat}(hn:ts.length<=1)(h:Zu 310000 65000 x w v)(hs:w*310000+v*65000<=773000000):Zl (aR ts (sX X)) 773000000 1101400000 (sX x) (aL X x) 1 0:=Zl.at (mi h.nm oz) hs
theorem oy{ts:LL}{X x:Et ts}:am (aL X x)=am x:=by
 show am (dE (aR ts (sX X)) (sX x))=_;rw[Xc (l:=sX x) (eQ _ _)];show am (dE ts (sX x))=_;rw[show dE ts (sX x)=x from bg _ _]
theorem xb{ts:LL}{r:Nat}(tw:Tw ts r)(d:Et ts):am (er d)=am d:=by
 have h:=ep (ax ts) ts.length tw.pos
 have h2:sg (ax ts) ts.length (qE ((2:Int):Rat):Et ts)=1:=by
  show T.sgn (ax ts) ts.length (T.ofQ ts.length ((2:Int):Rat))=1;rw[T.sgn_ofQ];rfl
 have h3:=h.mul (qE ((2:Int):Rat)) d;rw[h2,Int.one_mul]at h3;exact h3
structure SideP{ts:LL}(X d:Et ts)(f v:P2 ts):Prop where
  hd:FP 281 [aY (aR ts (sX X)),nA (cw ts.length),nA (sX (er d))] (.tup [nA (sX (dW X d)),.v .nilIface])
  ht:Con prog 267 [.ptr 1000 0,i64 (-1),nA (sX v.2)] [(1000,some (bf (aR ts (sX X))))] (nA (sX (qE ((-1:Int):Rat)*aL X v.2))) [(1000,some (bf (aR ts (sX X))))]
  hu:Con prog 267 [.ptr 1000 0,i64 (-1),nA (sX (dW X d))] [(1000,some (bf (aR ts (sX X))))] (nA (sX (qE ((-1:Int):Rat)*dW X d))) [(1000,some (bf (aR ts (sX X))))]
  a1:Con prog 268 [.ptr 1000 0,aM (sX f.1) (sX f.2),nA (sX (dW X d)),aM (sX (qE ((-1:Int):Rat)*aL X v.2)) (sX v.1)] [(1000,some (bf (aR ts (sX X))))] (dq (gy X f v (dW X d)).l) [(1000,some (bf (aR ts (sX X))))]
  a2:Con prog 268 [.ptr 1000 0,aM (sX f.1) (sX f.2),nA (sX (qE ((-1:Int):Rat)*dW X d)),aM (sX (qE ((-1:Int):Rat)*aL X v.2)) (sX v.1)] [(1000,some (bf (aR ts (sX X))))] (dq (gy X f v (qE ((-1:Int):Rat)*dW X d)).l) [(1000,some (bf (aR ts (sX X))))]
  n1:Zu 773000000 1101400000 (gy X f v (dW X d)).1 9 6/\Zu 773000000 1101400000 (gy X f v (dW X d)).2 9 6
  n2:Zu 773000000 1101400000 (gy X f v (qE ((-1:Int):Rat)*dW X d)).1 10 7/\Zu 773000000 1101400000 (gy X f v (qE ((-1:Int):Rat)*dW X d)).2 10 7
theorem GZ{ts:LL}{X d:Et ts}{f v:P2 ts}(hn:ts.length<=1)(E:ExtP X)(hd:Zu 310000 65000 (er d) 321 328)(h0:am (er d)≠0)(f1:Zu 310000 65000 f.1 2051 2095)(f2:Zu 310000 65000 f.2 2051 2095)
  (v1:Zu 310000 65000 v.1 80 81) (v2:Zu 310000 65000 v.2 80 81):SideP X d f v:=by
 haveI cy:=E.cy;haveI zr:Zl (aR ts (sX X)) 773000000 1101400000 (cw ts.length) (dE _ (cw ts.length)) 1 0:=Zl.at (sr oz) (by decide);haveI zd:=j5 (X:=X) hn hd (by decide);haveI zf1:=j5 (X:=X) hn f1 (by decide);haveI zf2:=j5 (X:=X) hn f2 (by decide);haveI zv1:=j5 (X:=X) hn v1 (by decide);haveI zv2:=j5 (X:=X) hn v2 (by decide);haveI:=zf1.zu;haveI:=zf2.zu;haveI:=zv1.zu;haveI:=zv2.zu
 have hdiv:=q5 (ts:=aR ts (sX X)) (u:=773000000) (k:=1101400000) (a:=cw ts.length) (b:=sX (er d)) (j:=ts.length) hd.nm.nl (by rw[dJ];omega) hn (by rw[oy];exact h0) (by decide);haveI zs:Zu 773000000 1101400000 (dW X d) 6 3:=hdiv.2;haveI qm:Qz 773000000 ((-1:Int):Rat) 1:=Qz.int (c:=Cy.cx (c:=cy)) (by decide);haveI zm:Zu 773000000 1101400000 (qE ((-1:Int):Rat)*aL X v.2) 2 1:=inferInstance;haveI zu:Zu 773000000 1101400000 (qE ((-1:Int):Rat)*dW X d) 7 4:=inferInstance;have ht:=Bt (ts:=aR ts (sX X)) (u:=773000000) (k:=1101400000) (a:=sX v.2) (-1) oz (by decide);have hu:=Bt (ts:=aR ts (sX X)) (u:=773000000) (k:=1101400000) (a:=sX (dW X d)) (-1) oz (by decide)
 have al:∀{c:Et (aR ts (sX X))}{w k:Nat}(zc:Zu 773000000 1101400000 c w k),w<=7->k<=4 ->
   Con prog 268 [.ptr 1000 0,aM (sX f.1) (sX f.2),nA (sX c),aM (sX (qE ((-1:Int):Rat)*aL X v.2)) (sX v.1)] [(1000,some (bf (aR ts (sX X))))] (dq (gy X f v c).l) [(1000,some (bf (aR ts (sX X))))]:=by
  intro c w k zc hw hk;haveI:=zc;have m1:=jL (ts:=aR ts (sX X)) (u:=773000000) (k:=1101400000) (a:=sX c) (b:=sX (qE ((-1:Int):Rat)*aL X v.2)) oz;have m2:=jL (ts:=aR ts (sX X)) (u:=773000000) (k:=1101400000) (a:=sX c) (b:=sX v.1) oz;have m3:=ka (ts:=aR ts (sX X)) (u:=773000000) (k:=1101400000) (a:=sX f.1) (b:=sX (c*(qE ((-1:Int):Rat)*aL X v.2))) oz;have m4:=ka (ts:=aR ts (sX X)) (u:=773000000) (k:=1101400000) (a:=sX f.2) (b:=sX (c*aL X v.1)) oz;exact ua m1 m2 m3 m4
 exact⟨hdiv.1,ht,hu,al zs oz oz,al zu oz oz,
  ⟨(inferInstance:Zu 773000000 1101400000 (aL X f.1+dW X d*(qE ((-1:Int):Rat)*aL X v.2)) 9 6),⟨(inferInstance:Zu 773000000 1101400000 (aL X f.2+dW X d*aL X v.1) _ _).nm.mono (by decide)⟩⟩,
  ⟨(inferInstance:Zu 773000000 1101400000 (aL X f.1+qE ((-1:Int):Rat)*dW X d*(qE ((-1:Int):Rat)*aL X v.2)) 10 7),⟨(inferInstance:Zu 773000000 1101400000 (aL X f.2+qE ((-1:Int):Rat)*dW X d*aL X v.1) _ _).nm.mono (by decide)⟩⟩⟩
theorem K7(h:TR rs 64990)(hc:bC rs=0)(hn:(llq rs).length<=1)[c0:Ct (llq rs) 310000 65000][i1:Zl (llq rs) 310000 65000 a x 40 40][i2:Zl (llq rs) 310000 65000 b y 40 40][i3:Zl (llq rs) 310000 65000 c z 3 0][i4:Zl (llq rs) 310000 65000 a2 x2 40 40][i5:Zl (llq rs) 310000 65000 b2 y2 40 40][i6:Zl (llq rs) 310000 65000 c2 z2 3 0]
  (ha:a=sX x) (hb:b=sX y) (s1:0<=am z) (s2:0<=am z2):FP 157 [dI rs,.agg [nA a,nA b,nA c],.agg [nA a2,nA b2,nA c2]] (.tup [(dY (x,y) (x2,y2) z z2).av,br (fB (x,y) (x2,y2) z z2)]):=by
 have hz:∀q∈[(a,b,c),(a2,b2,c2)],CiZ rs q:=fun q hq=>by
  simp only[X6,XV,or_false]at hq;rcases hq with rfl |rfl
  ·exact⟨i1.nm.mono oz,i2.nm.mono oz,i3.nm.mono oz,by show 0<=am (dE (llq rs) c);rw[show dE (llq rs) c=z from i3.eq];exact s1⟩
  ·exact⟨i4.nm.mono oz,i5.nm.mono oz,i6.nm.mono oz,by show 0<=am (dE (llq rs) c2);rw[show dE (llq rs) c2=z2 from i6.eq];exact s2⟩
 have hck:=TW h hc [(a,b,c),(a2,b2,c2)] hz (by show 2<=100;omega);obtain⟨tw,etw⟩:=df h hc;haveI cy:Cy (llq rs) 310000 65000:=⟨c0.ex,by omega,by omega,by omega⟩
 have P:=Fs c0 i1.zu i2.zu i3.zu i4.zu i5.zu i6.zu;haveI:=P.zd;haveI:=P.zX;haveI:=i3.zu;haveI:=i6.zu;have m1:=qr (ts:=llq rs) (u:=310000) (k:=65000) (a:=sX (aB (x,y) (x2,y2))) (by decide);have m2:=qr (ts:=llq rs) (u:=310000) (k:=65000) (a:=sX (bn (x,y) z (x2,y2) z2)) (by decide);have m0:=Con.sA (.cons (.refl _) (.cons (Sub.nil 2 none 0) .nil)) (mO tw []);have w1:=kZ (ts:=llq rs) (u:=310000) (k:=65000) (a:=a2) (b:=a) (by decide);have w2:=kZ (ts:=llq rs) (u:=310000) (k:=65000) (a:=b2) (b:=b) (by decide);haveI q2:Qz 310000 ((2:Int):Rat) 1:=Qz.int (c:=Cy.cx (c:=cy)) (by decide);have t2:=Bt (ts:=llq rs) (u:=310000) (k:=65000) (a:=sX (aB (x,y) (x2,y2))) 2 oz (by decide);have k1:=ka (ts:=llq rs) (u:=310000) (k:=65000) (a:=c) (b:=sX (aB (x,y) (x2,y2))) (by decide);have k2:=kZ (ts:=llq rs) (u:=310000) (k:=65000) (a:=sX (z+aB (x,y) (x2,y2))) (b:=c2) (by decide);subst ha;subst hb;refine aj func157 ?_;refine gc hck ?_;refine gC (fun t24=>?_) (fun t24=>?_) (st1:=(3,0)) (st2:=(5,0));cases t24;refine gW (Wk.o (sl:=[(4,some (.ptr 4 0)),(5,some (.ptr 5 0)),(6,some (.ptr 6 0)),(9,some (.ptr 29 0))]) (hp:=[(4,some (.box [nA (sX x),nA (sX y),nA c])),(5,some (.box [nA a2,nA b2,nA c2])),(6,some (.box [nS,nS])),(29,some (dz rs))])) ?_;refine gt (aH (Con.rB 29 rfl rfl rfl rfl (Lx h hc)) (aJ rfl rfl rfl) aI rfl rfl) ?_ (6,0);refine gW (Wk.of (sl:=[(4,some (.ptr 4 0)),(5,some (.ptr 5 0)),(6,some (.ptr 6 0)),(9,some (.ptr 29 0)),(10,some (nA (sX (bn (x,y) z (x2,y2) z2)))),(11,some (nA (sX (aB (x,y) (x2,y2)))))]) (hp:=[(4,some (.box [nA (sX x),nA (sX y),nA c])),(5,some (.box [nA a2,nA b2,nA c2])),(6,some (.box [nS,nS])),(29,some (bf (llq rs)))]) aZ (.k (.k (.k (.cons rfl (BlkSub.bL (.cons (.of (mJ etw)) (.cons (.refl _) .nil)) rfl) .nil))))) ?_
 refine gt (aX (Con.rB 29 rfl rfl rfl rfl m1) (bB rfl rfl) rfl rfl rfl) ?_;refine gC (fun t40=>?_) (fun t40=>?_)
 ·have hd0:am (aB (x,y) (x2,y2))=0:=cH t40;refine gt (aX (Con.rB 29 rfl rfl rfl rfl (UX (a:=sX x) (b:=sX y) (c:=c) (a2:=a2) (b2:=b2) (c2:=c2) tw)) (aJ rfl rfl rfl) rfl rfl rfl) ?_;refine bp ?_;unfold dY fB;rw[Yl hd0,Yl hd0]
 have hd0:¬am (aB (x,y) (x2,y2))=0:=dm t40;refine gt (aX (Con.rB 29 rfl rfl rfl rfl m2) (bB rfl rfl) rfl rfl rfl) ?_;refine gC (fun t51=>?_) (fun t51=>?_)
 ·have hx0:am (bn (x,y) z (x2,y2) z2)<0:=of_decide_eq_true t51;refine gt (aX (Con.rB 29 rfl rfl rfl rfl m0) (.cons (.tmp rfl) (.cons (.const _) .nil)) rfl rfl rfl) ?_;refine bp ?_;unfold dY fB;rw[Yk hd0,Yk hd0,Yl hx0];rfl
 have hx0:¬am (bn (x,y) z (x2,y2) z2)<0:=of_decide_eq_false t51;have ht0:am (er (aB (x,y) (x2,y2)))≠0:=by rw[xb tw];exact hd0
 obtain⟨fd,fk,f1,f2⟩:=C2 hn i1.zu i2.zu i3.zu i6.zu P ht0;haveI:=fk;haveI:=P.z1;haveI:=P.z2;have g1:=jL (ts:=llq rs) (u:=310000) (k:=65000) (a:=sX ((z+aB (x,y) (x2,y2)-z2)*iE (er (aB (x,y) (x2,y2))))) (b:=sX (fx (x,y) (x2,y2)).1) (by decide);have g2:=jL (ts:=llq rs) (u:=310000) (k:=65000) (a:=sX ((z+aB (x,y) (x2,y2)-z2)*iE (er (aB (x,y) (x2,y2))))) (b:=sX (fx (x,y) (x2,y2)).2) (by decide);have g3:=ka (ts:=llq rs) (u:=310000) (k:=65000) (a:=sX x) (b:=sX ((z+aB (x,y) (x2,y2)-z2)*iE (er (aB (x,y) (x2,y2)))*(fx (x,y) (x2,y2)).1)) (by decide);have g4:=ka (ts:=llq rs) (u:=310000) (k:=65000) (a:=sX y) (b:=sX ((z+aB (x,y) (x2,y2)-z2)*iE (er (aB (x,y) (x2,y2)))*(fx (x,y) (x2,y2)).2)) (by decide);have gal:=ua g1 g2 g3 g4;refine gt (aX (Con.rB 29 rfl rfl rfl rfl w1) (aJ rfl rfl rfl) rfl rfl rfl) ?_;refine gt (aX (Con.rB 29 rfl rfl rfl rfl w2) (aJ rfl rfl rfl) rfl rfl rfl) ?_;refine gD ?_;refine gt (aX (Con.rB 29 rfl rfl rfl rfl t2) (.cons (.tmp rfl) (.cons (.const _) (cB rfl))) rfl rfl rfl) ?_;refine gt (aX (Con.rB 29 rfl rfl rfl rfl k1) (aJ rfl rfl rfl) rfl rfl rfl) ?_;refine gt (aX (Con.rB 29 rfl rfl rfl rfl k2) (aJ rfl rfl rfl) rfl rfl rfl) ?_;refine gt (aX (Con.rB 29 rfl rfl rfl rfl (sR fd)) (aJ rfl rfl rfl) rfl rfl rfl) ?_;refine gt (aX (Con.rB 29 rfl rfl rfl rfl gal) (.cons (.tmp rfl) (.cons (.tmp rfl) (.cons (.tmp rfl) (.cons (.tmp rfl) .nil)))) rfl rfl rfl) ?_;refine gD ?_;refine gC (fun t94=>?_) (fun t94=>?_)
 ·have hx1:am (bn (x,y) z (x2,y2) z2)=0:=cH t94;refine gt (aX (Con.rB 29 rfl rfl rfl rfl (mO tw [dq (c9 (x,y) (x2,y2) z z2).l])) (bB rfl rfl) rfl rfl rfl) ?_;refine bp ?_;unfold dY fB;rw[Yk hd0,Yk hd0,Yk hx0,Yl hx1];rfl
 have hx1:¬am (bn (x,y) z (x2,y2) z2)=0:=dm t94;have E:ExtP (bn (x,y) z (x2,y2) z2):=sV tw hn P.zX oz;have S:=GZ (X:=bn (x,y) z (x2,y2) z2) (d:=aB (x,y) (x2,y2)) (f:=c9 (x,y) (x2,y2) z z2) (v:=fx (x,y) (x2,y2)) hn E P.zt ht0 f1 f2 P.z1 P.z2;have hex:=FE (a:=sX (bn (x,y) z (x2,y2) z2)) tw P.zX.nm (by rw[cy.lm];decide) (by rw[show ae (llq rs).length (sX (bn (x,y) z (x2,y2) z2))=bn (x,y) z (x2,y2) z2 from bg _ _];show 0<=am (bn (x,y) z (x2,y2) z2);omega);refine gt (aH (Con.rB 29 rfl rfl rfl rfl hex) (bB rfl rfl) aI rfl rfl) ?_;refine gt (aX (Con.rB 29 rfl rfl rfl rfl (sR S.hd)) (aJ rfl rfl rfl) rfl rfl rfl) ?_;refine gt (aX (Con.rB 29 rfl rfl rfl rfl S.ht) (.cons (.tmp rfl) (.cons (.const _) (cB rfl))) rfl rfl rfl) ?_;refine gD ?_;refine gt (aX (Con.rB 29 rfl rfl rfl rfl S.a1) (.cons (.tmp rfl) (.cons (.tmp rfl) (.cons (.tmp rfl) (.cons (.tmp rfl) .nil)))) rfl rfl rfl) ?_;refine gt (aX (Con.rB 29 rfl rfl rfl rfl S.hu) (.cons (.tmp rfl) (.cons (.const _) (cB rfl))) rfl rfl rfl) ?_;refine gt (aX (Con.rB 29 rfl rfl rfl rfl S.a2) (.cons (.tmp rfl) (.cons (.tmp rfl) (.cons (.tmp rfl) (.cons (.tmp rfl) .nil)))) rfl rfl rfl) ?_;refine gt (aX (Con.rB 29 rfl rfl rfl rfl (mO E.tw [dq (gy (bn (x,y) z (x2,y2) z2) (c9 (x,y) (x2,y2) z z2) (fx (x,y) (x2,y2)) (dW (bn (x,y) z (x2,y2) z2) (aB (x,y) (x2,y2)))).l,dq (gy (bn (x,y) z (x2,y2) z2) (c9 (x,y) (x2,y2) z z2) (fx (x,y) (x2,y2)) (qE ((-1:Int):Rat)*dW (bn (x,y) z (x2,y2) z2) (aB (x,y) (x2,y2)))).l])) (bB rfl rfl) rfl rfl rfl) ?_;refine gD ?_;refine bp ?_;unfold dY fB;rw[Yk hd0,Yk hd0,Yk hx0,Yk hx1];rfl
end
section
variable{ts:LL}
abbrev bi(p q:P2 ts):Et ts:=dB (aQ q p) (aQ q p)
abbrev bE(p q c:P2 ts):Et ts:=dB (aQ q p) (aQ c p)
abbrev ib(p q c:P2 ts):Et ts:=gN (aQ q p) (aQ c p)
abbrev aU(p q c:P2 ts)(z:Et ts):Et ts:=bi p q*z-ib p q c*ib p q c
def fm(X:Et ts)(S:Et ts)(k:Et (aR ts (sX X))):Et (aR ts (sX X)):=k*iE (aL X S)
def jf(X:Et ts)(p v:P2 ts)(k:Et (aR ts (sX X))):P2 (aR ts (sX X)):=cP (aL X p.1,aL X p.2) k (aL X v.1,aL X v.2)
abbrev bt(X:Et ts):Et (aR ts (sX X)):=dE _ (cw ts.length)
def dZ(p q c:P2 ts)(z:Et ts):Mt :=
  if am (bi p q)=0 then⟨[],[]⟩else if am (aU p q c z)=-1 then⟨ts,[]⟩else if am (aU p q c z)=0 then⟨ts,[(cP p (bE p q c*iE (bi p q)) (aQ q p)).l]⟩
  else⟨aR ts (sX (aU p q c z)),[(jf (aU p q c z) p (aQ q p) (fm (aU p q c z) (bi p q) (aL (aU p q c z) (bE p q c)+bt (aU p q c z)))).l,
    (jf (aU p q c z) p (aQ q p) (fm (aU p q c z) (bi p q) (aL (aU p q c z) (bE p q c)-bt (aU p q c z)))).l]⟩
def fJ(p q:P2 ts):Nat:=if am (bi p q)=0 then 8 else 0
structure LinP(p q c:P2 ts)(z:Et ts):Prop where
  v1:Zu 310000 65000 (aQ q p).1 80 81
  v2:Zu 310000 65000 (aQ q p).2 80 81
  w1:Zu 310000 65000 (aQ c p).1 80 81
  w2:Zu 310000 65000 (aQ c p).2 80 81
  zs:Zu 310000 65000 (bi p q) 320 327
  ze:Zu 310000 65000 (bE p q c) 320 327
  zc:Zu 310000 65000 (ib p q c) 320 327
  zX:Zu 310000 65000 (aU p q c z) 963 984
theorem IM{p q c:P2 ts}{z:Et ts}(c0:Cy ts 310000 65000)(h1:Zu 310000 65000 p.1 40 40)(h2:Zu 310000 65000 p.2 40 40)(h3:Zu 310000 65000 q.1 40 40)(h4:Zu 310000 65000 q.2 40 40)(h5:Zu 310000 65000 c.1 40 40)(h6:Zu 310000 65000 c.2 40 40)(h7:Zu 310000 65000 z 3 0):LinP p q c z:=by
 haveI:=c0;haveI:=h1;haveI:=h2;haveI:=h3;haveI:=h4;haveI:=h5;haveI:=h6;haveI:=h7
 haveI v1:=(inferInstance:Zu 310000 65000 (q.1-p.1) 80 81)
 haveI v2:=(inferInstance:Zu 310000 65000 (q.2-p.2) 80 81)
 haveI w1:=(inferInstance:Zu 310000 65000 (c.1-p.1) 80 81)
 haveI w2:=(inferInstance:Zu 310000 65000 (c.2-p.2) 80 81)
 haveI zs:Zu 310000 65000 (bi p q) 320 327:=(inferInstance:Zu 310000 65000 ((q.1-p.1)*(q.1-p.1)+(q.2-p.2)*(q.2-p.2)) _ _)
 haveI ze:Zu 310000 65000 (bE p q c) 320 327:=(inferInstance:Zu 310000 65000 ((q.1-p.1)*(c.1-p.1)+(q.2-p.2)*(c.2-p.2)) _ _)
 haveI zc:Zu 310000 65000 (ib p q c) 320 327:=(inferInstance:Zu 310000 65000 ((q.1-p.1)*(c.2-p.2)-(q.2-p.2)*(c.1-p.1)) _ _)
 exact⟨v1,v2,w1,w2,zs,ze,zc,inferInstance⟩
structure LinQ(p q c:P2 ts):Prop where
  hd:FP 281 [aY ts,nA (sX (bE p q c)),nA (sX (bi p q))] (.tup [nA (sX (bE p q c*iE (bi p q))),.v .nilIface])
  al:Con prog 268 [.ptr 1000 0,aM (sX p.1) (sX p.2),nA (sX (bE p q c*iE (bi p q))),aM (sX (aQ q p).1) (sX (aQ q p).2)] [(1000,some (bf ts))] (dq (cP p (bE p q c*iE (bi p q)) (aQ q p)).l) [(1000,some (bf ts))]
  n1:Zu 310000 65000 (cP p (bE p q c*iE (bi p q)) (aQ q p)).1 2040 2088
  n2:Zu 310000 65000 (cP p (bE p q c*iE (bi p q)) (aQ q p)).2 2040 2088
theorem HW{p q c:P2 ts}{z:Et ts}(c0:Cy ts 310000 65000)(hn:ts.length<=1)(h1:Zu 310000 65000 p.1 40 40)(h2:Zu 310000 65000 p.2 40 40)(P:LinP p q c z)(h0:am (bi p q)≠0):LinQ p q c:=by
 haveI:=c0;haveI:=h1;haveI:=h2;haveI:=P.v1;haveI:=P.v2;haveI:=P.zs;haveI:=P.ze
 have hd:=q5 (ts:=ts) (u:=310000) (k:=65000) (a:=sX (bE p q c)) (b:=sX (bi p q)) (j:=ts.length) P.zs.nm.nl (XD _) hn h0 (by decide);haveI:=hd.2;have m1:=jL (ts:=ts) (u:=310000) (k:=65000) (a:=sX (bE p q c*iE (bi p q))) (b:=sX (aQ q p).1) (by decide);have m2:=jL (ts:=ts) (u:=310000) (k:=65000) (a:=sX (bE p q c*iE (bi p q))) (b:=sX (aQ q p).2) (by decide);have m3:=ka (ts:=ts) (u:=310000) (k:=65000) (a:=sX p.1) (b:=sX (bE p q c*iE (bi p q)*(aQ q p).1)) (by decide);have m4:=ka (ts:=ts) (u:=310000) (k:=65000) (a:=sX p.2) (b:=sX (bE p q c*iE (bi p q)*(aQ q p).2)) (by decide);exact⟨hd.1,ua m1 m2 m3 m4,(inferInstance:Zu 310000 65000 (p.1+bE p q c*iE (bi p q)*(aQ q p).1) _ _),(inferInstance:Zu 310000 65000 (p.2+bE p q c*iE (bi p q)*(aQ q p).2) _ _)⟩
structure LinS(X:Et ts)(S:Et ts)(p v:P2 ts)(k:Et (aR ts (sX X))):Prop where
  hd:FP 281 [aY (aR ts (sX X)),nA (sX k),nA (sX S)] (.tup [nA (sX (fm X S k)),.v .nilIface])
  al:Con prog 268 [.ptr 1000 0,aM (sX p.1) (sX p.2),nA (sX (fm X S k)),aM (sX v.1) (sX v.2)] [(1000,some (bf (aR ts (sX X))))] (dq (jf X p v (fm X S k)).l) [(1000,some (bf (aR ts (sX X))))]
  n1:Zu 773000000 1101400000 (jf X p v (fm X S k)).1 9 6
  n2:Zu 773000000 1101400000 (jf X p v (fm X S k)).2 9 6
theorem xJ{X S:Et ts}{p v:P2 ts}{k:Et (aR ts (sX X))}(hn:ts.length<=1)(E:ExtP X)(hs:Zu 310000 65000 S 320 327)(h0:am S≠0)(p1:Zu 310000 65000 p.1 40 40)(p2:Zu 310000 65000 p.2 40 40)(v1:Zu 310000 65000 v.1 80 81)(v2:Zu 310000 65000 v.2 80 81)
  (hk:Zu 773000000 1101400000 k 2 1):LinS X S p v k:=by
 haveI cy:=E.cy;haveI:=hk;haveI zs:=j5 (X:=X) hn hs (by decide);haveI zp1:=j5 (X:=X) hn p1 (by decide);haveI zp2:=j5 (X:=X) hn p2 (by decide);haveI zv1:=j5 (X:=X) hn v1 (by decide);haveI zv2:=j5 (X:=X) hn v2 (by decide);haveI:=zp1.zu;haveI:=zp2.zu;haveI:=zv1.zu;haveI:=zv2.zu
 have hdiv:=q5 (ts:=aR ts (sX X)) (u:=773000000) (k:=1101400000) (a:=sX k) (b:=sX S) (j:=ts.length) hs.nm.nl (by rw[dJ];omega) hn (by rw[oy];exact h0) (by decide);haveI zk:Zu 773000000 1101400000 (fm X S k) 7 4:=hdiv.2;have m1:=jL (ts:=aR ts (sX X)) (u:=773000000) (k:=1101400000) (a:=sX (fm X S k)) (b:=sX v.1) (by decide);have m2:=jL (ts:=aR ts (sX X)) (u:=773000000) (k:=1101400000) (a:=sX (fm X S k)) (b:=sX v.2) (by decide);have m3:=ka (ts:=aR ts (sX X)) (u:=773000000) (k:=1101400000) (a:=sX p.1) (b:=sX (fm X S k*aL X v.1)) (by decide);have m4:=ka (ts:=aR ts (sX X)) (u:=773000000) (k:=1101400000) (a:=sX p.2) (b:=sX (fm X S k*aL X v.2)) (by decide);exact⟨hdiv.1,ua m1 m2 m3 m4,(inferInstance:Zu 773000000 1101400000 (aL X p.1+fm X S k*aL X v.1) 9 6),(inferInstance:Zu 773000000 1101400000 (aL X p.2+fm X S k*aL X v.2) 9 6)⟩
theorem AI{X:Et ts}{w v w' v' u k:Nat}(h:Zu u k X w v)(hw:w<=w')(hv:v<=v'):Zu u k X w' v':=⟨h.nm.mono (Aa hw hv)⟩
theorem Oe{x:Int}(h:cond (cond (ef Value.nilIface) (aa .eql x 0) false) (ef Value.nilIface) false=true):x=0:=by
 cases h9:aa .eql x 0
 ·rw[h9]at h;cases h
 ·exact cH h9
theorem Sn{x:Int}(h:cond (cond (ef Value.nilIface) (aa .eql x 0) false) (ef Value.nilIface) false=false):x≠0:=by
 cases h9:aa .eql x 0
 ·exact dm h9
 ·rw[h9]at h;cases h
theorem Uf{x y:AV}{i:Nat}{Q:AV->Prop}(hi:i<2)(hx:Q x)(hy:Q y):∃z,[x,y][i]?=some z/\Q z:=by
 have h:i=0\/i=1:=by omega
 rcases h with rfl |rfl
 ·exact⟨x,rfl,hx⟩
 ·exact⟨y,rfl,hy⟩
theorem DX{r e:Nat}{a b c d:Et ts}(tw:Tw ts r)(hl:lm ts.length=200000000000)(h1:Nm ts.length e (sX a))(h2:Nm ts.length e (sX b))(h3:Nm ts.length e (sX c))(h4:Nm ts.length e (sX d))(he:e+e+kB r ts.length<=100000000000) :
  FP 80 [aY ts,aM (sX a) (sX b),aM (sX c) (sX d)] (.tup [nA (sX (a*c+b*d)),.v .nilIface]):=by
 have h:=um tw h1 h2 h3 h4 (by rw[hl];omega);rw[show ae ts.length (sX a)=a from bg _ _,show ae ts.length (sX b)=b from bg _ _,show ae ts.length (sX c)=c from bg _ _,show ae ts.length (sX d)=d from bg _ _]at h;exact h
theorem LT{r e:Nat}{a b c d:Et ts}(tw:Tw ts r)(hl:lm ts.length=200000000000)(h1:Nm ts.length e (sX a))(h2:Nm ts.length e (sX b))(h3:Nm ts.length e (sX c))(h4:Nm ts.length e (sX d))(he:e+e+kB r ts.length<=100000000000) :
  FP 77 [aY ts,aM (sX a) (sX b),aM (sX c) (sX d)] (.tup [nA (sX (a*d-b*c)),.v .nilIface]):=by
 have h:=BE tw h1 h2 h3 h4 (by rw[hl];omega);rw[show ae ts.length (sX a)=a from bg _ _,show ae ts.length (sX b)=b from bg _ _,show ae ts.length (sX c)=c from bg _ _,show ae ts.length (sX d)=d from bg _ _]at h;exact h
end
section
variable{rs:List (List Rt)}{c:List Rat}{o p q:P2 (llq rs)}{z:Et (llq rs)}
theorem ST(h:TR rs 64990)(hc:bC rs=0)(hn:(llq rs).length<=1)(c0:Ct (llq rs) 310000 65000)(ho1:Zu 310000 65000 o.1 40 40)(ho2:Zu 310000 65000 o.2 40 40)(p1:Zu 310000 65000 p.1 40 40)(p2:Zu 310000 65000 p.2 40 40)(q1:Zu 310000 65000 q.1 40 40)(q2:Zu 310000 65000 q.2 40 40)
  [i3:Zl (llq rs) 310000 65000 c z 3 0] (s1:0<=am z):FP 159 [dI rs,.agg [nA (sX o.1),nA (sX o.2),nA c],dq p.l,dq q.l] (.tup [(dZ p q o z).av,br (fJ p q)]):=by
 obtain⟨tw,etw⟩:=df h hc;haveI cy:Cy (llq rs) 310000 65000:=⟨c0.ex,by obtain⟨_,h9,_⟩:=c0;exact h9,by obtain⟨_,_,h9,_⟩:=c0;exact h9,by omega⟩
 have hlm:=cy.lm;have hck:=qN rs 64990 h;rw[hc]at hck;have P:=IM cy p1 p2 q1 q2 ho1 ho2 i3.zu;haveI:=ho1;haveI:=ho2;haveI:=p1;haveI:=p2;haveI:=q1;haveI:=q2;haveI:=P.v1;haveI:=P.v2;haveI:=P.w1;haveI:=P.w2;haveI:=P.zs;haveI:=P.ze;haveI:=P.zc;haveI:=P.zX
 have hci:=H5 (e:=40*310000+40*65000) h hc ho1.nm ho2.nm (i3.nm.mono (by decide)) (by rw[hlm];decide)
 have hra:=Fo h hc [(sX o.1,sX o.2,c)] (fun y hy=>by
  rw[List.mem_singleton.1 hy];exact⟨ho1.nm.mono (by decide),ho2.nm.mono (by decide),i3.nm.mono (by decide),by show 0<=am (dE (llq rs) c);rw[show dE (llq rs) c=z from i3.eq];exact s1⟩) (by show 1<=100;omega)
 have a1:=kZ (ts:=llq rs) (u:=310000) (k:=65000) (a:=sX q.1) (b:=sX p.1) (by decide);have a2:=kZ (ts:=llq rs) (u:=310000) (k:=65000) (a:=sX q.2) (b:=sX p.2) (by decide);have a3:=kZ (ts:=llq rs) (u:=310000) (k:=65000) (a:=sX o.1) (b:=sX p.1) (by decide);have a4:=kZ (ts:=llq rs) (u:=310000) (k:=65000) (a:=sX o.2) (b:=sX p.2) (by decide);have hkb:80*310000+81*65000+(80*310000+81*65000)+kB 64990 (llq rs).length<=100000000000:=by have:=AF hn;omega
 have b1:=DX tw hlm P.v1.nm P.v2.nm P.v1.nm P.v2.nm hkb;have b2:=DX tw hlm P.v1.nm P.v2.nm P.w1.nm P.w2.nm hkb;have b3:=LT tw hlm P.v1.nm P.v2.nm P.w1.nm P.w2.nm hkb;rw[<- etw]at b1 b2 b3;have m1:=qr (ts:=llq rs) (u:=310000) (k:=65000) (a:=sX (bi p q)) (by decide);have m2:=jL (ts:=llq rs) (u:=310000) (k:=65000) (a:=sX (bi p q)) (b:=c) (by decide);have m3:=jL (ts:=llq rs) (u:=310000) (k:=65000) (a:=sX (ib p q o)) (b:=sX (ib p q o)) (by decide);haveI zz:=i3.zu;have m4:=kZ (ts:=llq rs) (u:=310000) (k:=65000) (a:=sX (bi p q*z)) (b:=sX (ib p q o*ib p q o)) (by decide);have m5:=qr (ts:=llq rs) (u:=310000) (k:=65000) (a:=sX (aU p q o z)) (by decide);have m0:=Con.sA (.cons (.refl _) (.cons (Sub.nil 2 none 0) .nil)) (mO tw []);refine aj func159 ?_;refine gc hck ?_;refine gC (fun t27=>?_) (fun t27=>?_) (st1:=(3,0));cases t27;refine gc hci ?_;refine gC (fun t34=>?_) (fun t34=>?_) (st1:=(6,0));cases t34;refine ge rfl ?_;refine aW [4,5,6,7,8,39,40] [4,5,6,7,8] (fun(i:Nat)=>[(41,some (i64 i))]) (fun _=>[]) (fun i=>i<=2) (fun i=>2-i) 0 (XJ _) ?_;rintro i hi K1 J1;refine gC (fun t42=>?_) (fun t42=>?_)
 ·have hin:i<2:=a6 (b:=2) t42;obtain⟨zz2,hz2,u,v,hu,hv,rfl⟩:=Uf (x:=dq p.l) (y:=dq q.l) (Q:=fun w=>∃u v,Nm (llq rs).length (40*310000+40*65000) u/\Nm (llq rs).length (40*310000+40*65000) v/\w=aM u v) hin ⟨_,_,p1.nm,p2.nm,rfl⟩ ⟨_,_,q1.nm,q2.nm,rfl⟩;refine gi hz2 ?_;refine gc (Jk h hc hu hv (by rw[hlm];decide)) ?_;refine gC (fun t49=>?_) (fun t49=>?_) (st1:=(12,0));cases t49;refine ga aN ?_;exact aO J1 (i+1) hin
 refine gc hra ?_;refine gC (fun t58=>?_) (fun t58=>?_) (st1:=(16,0)) (st2:=(18,0));cases t58;refine gW (Wk.of (sl:=[(4,some (.ptr 4 0)),(5,some (.ptr 5 0)),(6,some (.ptr 6 0)),(7,some (.ptr 7 0)),(8,some (.ptr 8 0)),(16,some (.ptr 63 0))]) (hp:=[(4,some (.box [.lst 1 (rs.map nR)])),(5,some (.box [nA (sX o.1),nA (sX o.2),nA c])),(6,some (.box [nA (sX p.1),nA (sX p.2)])),(7,some (.box [nA (sX q.1),nA (sX q.2)])),(8,some (.box [nS,nS])),(63,some (bf (llq rs)))]) aZ (.k (.k (.k (.k (.k (.cons rfl (BlkSub.bL (.cons (.of (mJ etw)) (.cons (.refl _) .nil)) rfl) .nil))))))) ?_
 refine gt (aX (Con.rB 63 rfl rfl rfl rfl a1) (aJ rfl rfl rfl) rfl rfl rfl) ?_;refine gt (aX (Con.rB 63 rfl rfl rfl rfl a2) (aJ rfl rfl rfl) rfl rfl rfl) ?_;refine gD ?_;refine gt (aX (Con.rB 63 rfl rfl rfl rfl a3) (aJ rfl rfl rfl) rfl rfl rfl) ?_;refine gt (aX (Con.rB 63 rfl rfl rfl rfl a4) (aJ rfl rfl rfl) rfl rfl rfl) ?_;refine gD ?_;refine gc b1 ?_;refine gt (aX (Con.rB 63 rfl rfl rfl rfl (pa _ _)) (aJ rfl rfl rfl) rfl rfl rfl) ?_;refine gu (fq rfl rfl rfl (fun h=>aX (Con.rB 63 rfl rfl rfl rfl m1) (.cons (.opt rfl (o1 h)) (.cons (.opt rfl (o1 h)) .nil)) rfl rfl rfl)) ?_;refine gC (fun t117=>?_) (fun t117=>?_)
 ·have h0:am (bi p q)=0:=Oe t117;refine gR ?_;exact dF (by unfold dZ fJ;rw[Yl h0,Yl h0];exact Sub.tup (.cons Dp (.cons (.refl _) .nil)))
 have h0:am (bi p q)≠0:=Sn t117;have Q:=HW cy hn p1 p2 P h0;refine gc b2 ?_;refine gt (aX (Con.rB 63 rfl rfl rfl rfl (pa _ _)) (aJ rfl rfl rfl) rfl rfl rfl) ?_;refine gc b3 ?_;refine gt (aX (Con.rB 63 rfl rfl rfl rfl (pa _ _)) (aJ rfl rfl rfl) rfl rfl rfl) ?_;refine gt (aX (Con.rB 63 rfl rfl rfl rfl m2) (aJ rfl rfl rfl) rfl rfl rfl) ?_;refine gt (aX (Con.rB 63 rfl rfl rfl rfl m3) (aJ rfl rfl rfl) rfl rfl rfl) ?_;refine gt (aX (Con.rB 63 rfl rfl rfl rfl m4) (aJ rfl rfl rfl) rfl rfl rfl) ?_;refine gt (aX (Con.rB 63 rfl rfl rfl rfl m5) (bB rfl rfl) rfl rfl rfl) ?_;refine gC (fun t150=>?_) (fun t150=>?_)
 ·have h1:am (aU p q o z)=-1:=cH t150;refine gt (aX (Con.rB 63 rfl rfl rfl rfl m0) (.cons (.tmp rfl) (.cons (.const _) .nil)) rfl rfl rfl) ?_;refine bp ?_;unfold dZ fJ;rw[Yk h0,Yk h0,Yl h1];rfl
 have h1:¬am (aU p q o z)=-1:=dm t150;refine gC (fun t156=>?_) (fun t156=>?_)
 ·have h2:am (aU p q o z)=0:=cH t156;refine gt (aX (Con.rB 63 rfl rfl rfl rfl (sR Q.hd)) (aJ rfl rfl rfl) rfl rfl rfl) ?_;refine gt (aX (Con.rB 63 rfl rfl rfl rfl Q.al) (.cons (.tmp rfl) (.cons (.tmp rfl) (.cons (.tmp rfl) (.cons (.tmp rfl) .nil)))) rfl rfl rfl) ?_;refine gt (aX (Con.rB 63 rfl rfl rfl rfl (mO tw [dq (cP p (bE p q o*iE (bi p q)) (aQ q p)).l])) (bB rfl rfl) rfl rfl rfl) ?_;refine gD ?_;refine bp ?_;unfold dZ fJ;rw[Yk h0,Yk h0,Yk h1,Yl h2];rfl
 have h2:¬am (aU p q o z)=0:=dm t156
 have hpos:0<=am (aU p q o z):=by
  have:=T.sgn_cases (ax (llq rs)) (llq rs).length (aU p q o z);have e:am (aU p q o z)=T.sgn (ax (llq rs)) (llq rs).length (aU p q o z):=rfl;omega
 have E:ExtP (aU p q o z):=sV tw hn (AI P.zX oz oz) hpos;haveI ce:=E.cy;haveI zr:Zl (aR (llq rs) (sX (aU p q o z))) 773000000 1101400000 (cw (llq rs).length) (dE _ (cw (llq rs).length)) 1 0:=Zl.at (sr oz) (by decide);haveI ze':=j5 (X:=aU p q o z) hn P.ze (by decide);haveI:=zr.zu;haveI:=ze'.zu
 have e1:=ka (ts:=aR (llq rs) (sX (aU p q o z))) (u:=773000000) (k:=1101400000) (a:=sX (bE p q o)) (b:=cw (llq rs).length) (by decide);have e2:=kZ (ts:=aR (llq rs) (sX (aU p q o z))) (u:=773000000) (k:=1101400000) (a:=sX (bE p q o)) (b:=cw (llq rs).length) (by decide);have S1:=xJ (p:=p) (v:=aQ q p) hn E P.zs h0 p1 p2 P.v1 P.v2 (k:=aL (aU p q o z) (bE p q o)+bt (aU p q o z)) inferInstance;have S2:=xJ (p:=p) (v:=aQ q p) hn E P.zs h0 p1 p2 P.v1 P.v2 (k:=aL (aU p q o z) (bE p q o)-bt (aU p q o z)) inferInstance;have hex:=FE (a:=sX (aU p q o z)) tw P.zX.nm (by rw[hlm];decide) (by rw[show ae (llq rs).length (sX (aU p q o z))=aU p q o z from bg _ _];exact hpos);refine gt (aH (Con.rB 63 rfl rfl rfl rfl hex) (bB rfl rfl) aI rfl rfl) ?_;refine gt (aX (Con.rB 63 rfl rfl rfl rfl e1) (aJ rfl rfl rfl) rfl rfl rfl) ?_;refine gt (aX (Con.rB 63 rfl rfl rfl rfl (sR S1.hd)) (aJ rfl rfl rfl) rfl rfl rfl) ?_;refine gt (aX (Con.rB 63 rfl rfl rfl rfl S1.al) (.cons (.tmp rfl) (.cons (.tmp rfl) (.cons (.tmp rfl) (.cons (.tmp rfl) .nil)))) rfl rfl rfl) ?_;refine gt (aX (Con.rB 63 rfl rfl rfl rfl e2) (aJ rfl rfl rfl) rfl rfl rfl) ?_;refine gt (aX (Con.rB 63 rfl rfl rfl rfl (sR S2.hd)) (aJ rfl rfl rfl) rfl rfl rfl) ?_;refine gt (aX (Con.rB 63 rfl rfl rfl rfl S2.al) (.cons (.tmp rfl) (.cons (.tmp rfl) (.cons (.tmp rfl) (.cons (.tmp rfl) .nil)))) rfl rfl rfl) ?_;refine gt (aX (Con.rB 63 rfl rfl rfl rfl (mO E.tw [dq (jf (aU p q o z) p (aQ q p) (fm (aU p q o z) (bi p q) (aL (aU p q o z) (bE p q o)+bt (aU p q o z)))).l,dq (jf (aU p q o z) p (aQ q p) (fm (aU p q o z) (bi p q) (aL (aU p q o z) (bE p q o)-bt (aU p q o z)))).l])) (bB rfl rfl) rfl rfl rfl) ?_;refine gD ?_;refine bp ?_;unfold dZ fJ;rw[Yk h0,Yk h0,Yk h1,Yk h2];rfl
end
theorem T.inv_congr{r r':(k:Nat)->T k}:∀(k:Nat),(∀j,j<k->r j=r' j)->∀x,T.inv r k x=T.inv r' k x
 |0,_,x=>rfl
 |k+1,h,x=>by
  have ih:=T.inv_congr k (fun j hj=>h j oz);have hm:=T.mul_congr k (fun j hj=>h j oz);have hs:=T.sgn_congr k (fun j hj=>h j oz)
  have hn:T.norm r k x=T.norm r' k x:=by
   unfold T.norm;rw[h k oz];simp only[hm]
  conv=>lhs;unfold T.inv
  conv=>rhs;unfold T.inv
  simp only[ih,hm,hs,hn]
def iD{n N:Nat}(x:T n):T N:=ae N (sh n x)
section
variable{n N:Nat}{r r':(k:Nat)->T k}
theorem jS(x:T n):(iD x:T (n+1))=(x,T.zero n):=by
 unfold iD;rw[ip (eQ n x).le,bg]
theorem Ti(hN:N=n+1)(h:∀j,j<n->r j=r' j)(x y:T n):(iD (T.mul r n x y):T N)=T.mul r' N (iD x) (iD y):=by
 subst hN;rw[jS,jS,jS,mul_low,T.zero_mul,T.mul_congr n h]
theorem Ng(hN:N=n+1)(x y:T n):(iD (T.add n x y):T N)=T.add N (iD x) (iD y):=by
 subst hN;rw[jS,jS,jS];show(T.add n x y,T.zero n)=(T.add n x y,T.add n (T.zero n) (T.zero n));rw[T.zero_add]
theorem P7(hN:N=n+1)(x:T n):(iD (T.neg n x):T N)=T.neg N (iD x):=by
 subst hN;rw[jS,jS];show(T.neg n x,T.zero n)=(T.neg n x,T.neg n (T.zero n));rw[T.neg_zero]
theorem MF(hN:N=n+1)(q:Rat):(iD (T.ofQ n q):T N)=T.ofQ N q:=by
 subst hN;rw[jS];rfl
theorem S7(hN:N=n+1)(h:∀j,j<n->r j=r' j)(x:T n):(iD (T.inv r n x):T N)=T.inv r' N (iD x):=by
 subst hN;rw[jS,jS,T.inv_low,T.inv_congr n h]
end
section
variable{ts:LL}(X:Et ts)
theorem Hk{l:List Rat}(j:Nat)(hj:j<ts.length):ax ts j=ax (aR ts l) j:=(v6 hj).symm
theorem fi(x y:Et ts):aL X (x*y)=aL X x*aL X y:=Ti (dJ _ _) Hk x y
theorem qz(x y:Et ts):aL X (x+y)=aL X x+aL X y:=Ng (dJ _ _) x y
theorem Jf(x:Et ts):aL X (-x)=-aL X x:=P7 (dJ _ _) x
theorem ns(q:Rat):aL X (qE q)=qE q:=MF (dJ _ _) q
theorem ol(x:Et ts):aL X (iE x)=iE (aL X x):=S7 (dJ _ _) Hk x
end
theorem kV{ts:LL}:(qE ((1:Int):Rat):Et ts)=1:=rfl
theorem ET{ts:LL}:(qE ((-1:Int):Rat):Et ts)=-1:=by
 have h:=(T.ofQ_neg ts.length ((1:Nat):Rat))
 rw[show(((-1:Int):Rat))=-((1:Nat):Rat) by rfl];exact h
theorem zD{ts:LL}(d:Et ts):er d=d+d:=by
 have h:(qE ((2:Int):Rat):Et ts)=1+1:=by
  have h:=T.ofQ_add ts.length ((1:Nat):Rat) ((1:Nat):Rat);rw[show(((2:Int):Rat))=((1:Nat):Rat)+((1:Nat):Rat) by decide +kernel];exact h
 unfold er;rw[h];grind
theorem yu{ts:LL}:(qE 0:Et ts)=0:=rfl
section
variable{ts:LL}
theorem wI(p q:P2 ts)(z z2:Et ts):c9 p q z z2=cP p ((qE ((1:Int):Rat)*iE (aB p q+aB p q))*(z+aB p q-z2)) (aQ q p):=by
 unfold c9 fx cP;rw[zD,kV];refine Prod.ext ?_ ?_
 ·show p.1+(z+aB p q-z2)*iE (aB p q+aB p q)*(q.1-p.1)=p.1+1*iE (aB p q+aB p q)*(z+aB p q-z2)*(q.1-p.1);grind
 ·show p.2+(z+aB p q-z2)*iE (aB p q+aB p q)*(q.2-p.2)=p.2+1*iE (aB p q+aB p q)*(z+aB p q-z2)*(q.2-p.2);grind
def gj(p q:P2 ts):P2 ts:=(qE ((1:Int):Rat)*iE (aB p q+aB p q)*(0-(aQ q p).2),qE ((1:Int):Rat)*iE (aB p q+aB p q)*(aQ q p).1)
theorem tZ(X:Et ts)(f p q:P2 ts):gy X f (fx p q) (dW X (aB p q))=(aL X f.1+bt X*aL X (gj p q).1,aL X f.2+bt X*aL X (gj p q).2):=by
 unfold gy cP dW gj;rw[zD,ET];refine Prod.ext ?_ ?_
 ·show aL X f.1+bt X*iE (aL X (aB p q+aB p q))*(-1*aL X (q.2-p.2))=aL X f.1+bt X*aL X (qE ((1:Int):Rat)*iE (aB p q+aB p q)*(0-(q.2-p.2)));rw[fi,fi,ns,ol,show(0:Et ts)-(q.2-p.2)=-(q.2-p.2) by grind,Jf,kV];grind
 ·show aL X f.2+bt X*iE (aL X (aB p q+aB p q))*aL X (q.1-p.1)=aL X f.2+bt X*aL X (qE ((1:Int):Rat)*iE (aB p q+aB p q)*(q.1-p.1));rw[fi,fi,ns,ol,kV];grind
theorem we(X:Et ts)(f p q:P2 ts):gy X f (fx p q) (qE ((-1:Int):Rat)*dW X (aB p q))=(aL X f.1-bt X*aL X (gj p q).1,aL X f.2-bt X*aL X (gj p q).2):=by
 have h:=tZ X f p q;have h1:=congrArg Prod.fst h;have h2:=congrArg Prod.snd h;unfold gy cP at h1 h2 ⊢;rw[ET]at h1 h2 ⊢;dsimp only at h1 h2;refine Prod.ext ?_ ?_
 ·dsimp only;grind
 ·dsimp only;grind
def f0(p q:P2 ts):P2 ts:=(qE ((1:Int):Rat)*iE (bi p q)*(aQ q p).1,qE ((1:Int):Rat)*iE (bi p q)*(aQ q p).2)
theorem uE(X:Et ts)(p q c:P2 ts):jf X p (aQ q p) (fm X (bi p q) (aL X (bE p q c)+bt X)) =
  (aL X (cP p (bE p q c*iE (bi p q)) (aQ q p)).1+bt X*aL X (f0 p q).1,aL X (cP p (bE p q c*iE (bi p q)) (aQ q p)).2+bt X*aL X (f0 p q).2):=by
 unfold jf fm f0 cP;refine Prod.ext ?_ ?_
 ·dsimp only;rw[qz,fi,fi,fi,fi,ol,ns,kV];grind
 ·dsimp only;rw[qz,fi,fi,fi,fi,ol,ns,kV];grind
theorem xI(X:Et ts)(p q c:P2 ts):jf X p (aQ q p) (fm X (bi p q) (aL X (bE p q c)-bt X)) =
  (aL X (cP p (bE p q c*iE (bi p q)) (aQ q p)).1-bt X*aL X (f0 p q).1,aL X (cP p (bE p q c*iE (bi p q)) (aQ q p)).2-bt X*aL X (f0 p q).2):=by
 unfold jf fm f0 cP;refine Prod.ext ?_ ?_
 ·dsimp only;rw[qz,fi,fi,fi,fi,ol,ns,kV];grind
 ·dsimp only;rw[qz,fi,fi,fi,fi,ol,ns,kV];grind
theorem xl(r:(k:Nat)->T k):∀(n:Nat)(q:Rat),T.inv r n (T.ofQ n q)=T.ofQ n (1/q)
 |0,q=>rfl
 |n+1,q=>by
  show T.inv r (n+1) (T.ofQ n q,T.zero n)=(T.ofQ n (1/q),T.zero n);rw[T.inv_low,xl r n q]
theorem An:(iE (qE 1):Et ts)=1:=by
 show T.inv (ax ts) ts.length (T.ofQ ts.length 1)=_;rw[xl,show(1:Rat)/1=((1:Nat):Rat) by decide +kernel];rfl
end
open Lean.Grind (CommRing)
section
variable{r:(k:Nat)->T k}
def fF{n:Nat}(x:E r n):E r n:=T.inv r n x
theorem tF{n:Nat}(u:E r n)(h:Sg (E r n) (sg r n)):sg r (n+1) (bI u 0)=sg r n u:=by
 rw[kM,h.zero];unfold T.sgn3;split
 ·rfl
 ·rw[Yl (.inr rfl)]
theorem VE{n:Nat}{x y:E r n}(hz:T.isZ n y=true):fF (bI x y:E r (n+1))=bI (fF x) 0:=by
 have e:y=T.zero n:=(T.isZ_iff n y).1 hz;subst e;have h:=T.inv_low r n x;show T.inv r (n+1) (x,T.zero n)=_;rw[h,E.zero_def];rfl
theorem Ka{n:Nat}{x y:E r n}(hz:T.isZ n y=false)(h0:sg r n (a5 x y)=0):fF (bI x y:E r (n+1))=bI (fF (x+x)) 0:=by
 have h:=Hg r (i:=n) (x:=((x,y):T n×T n)) hz h0;show T.inv r (n+1) (x,y)=_;rw[h,E.zero_def];rfl
theorem UU{n:Nat}{x y:E r n}(hz:T.isZ n y=false)(h0:sg r n (a5 x y)≠0):fF (bI x y:E r (n+1))=bI (x*fF (a5 x y)) (-y*fF (a5 x y)):=by
 have h:=Jp r (i:=n) (x:=((x,y):T n×T n)) hz h0;exact h
theorem Qa{q:Rat}(hq:bK q≠0):bK ((1:Rat)/q*q+-(((1:Nat):Rat)))=0:=by
 have hq:q≠0:=by
  rintro rfl;exact hq (by decide +kernel)
 have e:(1:Rat)/q*q+-(((1:Nat):Rat))=0:=by
  rw[show(((1:Nat):Rat))=1 from rfl];grind
 rw[e];decide +kernel
theorem GO(r:(k:Nat)->T k):∀(n:Nat),fc r n->∀x:E r n,sg r n x≠0->sg r n (fF x*x-1)=0
 |0,hp,x,hx=>Qa (q:=x) hx
 |n+1,hp,z,hz=>by
  have hp':fc r n:=fun j hj=>hp j oz
  have h:=ep r n hp';have H:=ep r (n+1) hp;have ih:=GO r n hp';obtain⟨x,y,rfl⟩:=jZ z;cases hzy:T.isZ n y
  ·by_cases h0:sg r n (a5 x y)=0
   ·rw[Ka hzy h0];have h2:=ER h (hp n oz) hz h0;have e1:=ih _ h2
    have c:sg r (n+1) (bI x (-y))=0:=by
     have m:=H.mul (bI x y) (bI x (-y))
     have e:(bI x y:E r (n+1))*bI x (-y)=bI (a5 x y) 0:=by
      rw[ku];unfold a5;congr 1 <;> grind
     rw[e,tF _ h,h0]at m;rcases Int.mul_eq_zero.1 m.symm with g |g
     ·exact absurd g hz
     ·exact g
    have e2:bI (fF (x+x)) 0*bI x y-(1:E r (n+1))=-(bI (fF (x+x)) 0*bI x (-y))+bI (fF (x+x)*(x+x)-1) 0:=by
     rw[uJ,show ∀a b:E r (n+1),a-b=a+-b from fun a b=>by grind,ku,ku,sU,sU,oG,oG];congr 1 <;> grind
    rw[e2];have e3:sg r (n+1) (-(bI (fF (x+x)) 0*bI x (-y)))=0:=by rw[H.neg,H.mul,c];simp
    rw[H.zadd e3,tF _ h];exact e1
   ·rw[UU hzy h0];have e1:=ih _ h0
    have e2:bI (x*fF (a5 x y)) (-y*fF (a5 x y))*bI x y-(1:E r (n+1))=bI (fF (a5 x y)*a5 x y-1) 0:=by
     rw[uJ,show ∀a b:E r (n+1),a-b=a+-b from fun a b=>by grind,ku,sU,oG];generalize fF (a5 x y)=i;unfold a5;congr 1 <;> grind
    rw[e2,tF _ h];exact e1
  ·rw [VE hzy];have e:y = 0:=by rw [(T.isZ_iff n y).1 hzy,E.zero_def]
   subst e;rw[tF _ h]at hz;have e1:=ih _ hz
   have e2:bI (fF x) 0*bI x 0-(1:E r (n+1))=bI (fF x*x-1) 0:=by
    rw[uJ,show ∀a b:E r (n+1),a-b=a+-b from fun a b=>by grind,ku,sU,oG];congr 1 <;> grind
   rw[e2,tF _ h];exact e1
end
section
variable{r:(k:Nat)->T k}{n:Nat}
def zS(h:fc r n):Setoid (E r n) where
  r x y:=sg r n (x-y)=0
  iseqv:=by
    have H:=ep r n h;refine⟨fun x=>?_,fun {x y} e=>?_,fun {x y z} e f=>?_⟩
    · rw[show x-x=0 by grind];exact H.zero
    · rw[show y-x=-(x-y) by grind,H.neg,e];rfl
    · rw[show x-z=(x-y)+(y-z) by grind,H.zadd e];exact f
def Zq(h:fc r n):Type:=Quotient (zS h)
def ai(h:fc r n)(x:E r n):Zq h:=Quotient.mk (zS h) x
theorem kK(h:fc r n){x y:E r n}:ai h x=ai h y↔sg r n (x-y)=0 :=
 ⟨fun e=>Quotient.exact (s:=zS h) e,fun e=>Quotient.sound (s:=zS h) e⟩
instance (h:fc r n):Add (Zq h):=⟨Quotient.lift₂ (fun x y=>ai h (x+y)) (by
  intro a b c d e f;have H:=ep r n h;refine(kK h).2 ?_;rw[show a+b-(c+d)=(a-c)+(b-d) by grind,H.zadd (show sg r n (a-c)=0 from e)];exact f)⟩
instance (h:fc r n):Mul (Zq h):=⟨Quotient.lift₂ (fun x y=>ai h (x*y)) (by
  intro a b c d e f;have H:=ep r n h;refine(kK h).2 ?_;have e':sg r n (a-c)=0:=e;have f':sg r n (b-d)=0:=f;rw[show a*b-c*d=(a-c)*b+c*(b-d) by grind,H.zadd (by rw[H.mul,e'];simp),H.mul,f'];simp)⟩
instance (h:fc r n):Neg (Zq h):=⟨Quotient.lift (fun x=>ai h (-x)) (by
  intro a c e;have H:=ep r n h;refine(kK h).2 ?_;have e':sg r n (a-c)=0:=e;rw[show -a - -c=-(a-c) by grind,H.neg,e'];rfl)⟩
instance (h:fc r n):_root_.Sub (Zq h):=⟨fun x y=>x+-y⟩
instance (h:fc r n)(c:Nat):OfNat (Zq h) c:=⟨ai h (OfNat.ofNat c)⟩
instance (h:fc r n):NatCast (Zq h):=⟨fun c=>ai h (c:E r n)⟩
instance (h:fc r n):IntCast (Zq h):=⟨fun c=>ai h (c:E r n)⟩
instance (h:fc r n):SMul Nat (Zq h):=⟨fun c x=>ai h (c:E r n)*x⟩
instance (h:fc r n):SMul Int (Zq h):=⟨fun c x=>ai h (c:E r n)*x⟩
def Zq.pow{h:fc r n}(x:Zq h):Nat->Zq h
  |0=>ai h 1
  |c+1=>Zq.pow x c*x
instance (h:fc r n):HPow (Zq h) Nat (Zq h):=⟨Zq.pow⟩
variable(h:fc r n)
theorem fZ(x y:E r n):ai h (x+y)=ai h x+ai h y:=rfl
theorem bM(x y:E r n):ai h (x*y)=ai h x*ai h y:=rfl
theorem Cz(x:E r n):ai h (-x)=-ai h x:=rfl
theorem bR(x y:E r n):ai h (x-y)=ai h x-ai h y:=by
 rw[show x-y=x+-y by grind];rfl
theorem eP(a:Zq h):∃x,a=ai h x:=Quotient.ind (motive:=fun a=>∃x,a=ai h x) (fun x=>⟨x,rfl⟩) a
instance zRing:CommRing (Zq h) where
  add_zero a:=by
    obtain⟨x,rfl⟩:=eP h a;exact congrArg (ai h) (show x+0=x by grind)
  add_comm a b:=by
    obtain⟨x,rfl⟩:=eP h a;obtain⟨y,rfl⟩:=eP h b;exact congrArg (ai h) (show x+y=y+x by grind)
  add_assoc a b c:=by
    obtain⟨x,rfl⟩:=eP h a;obtain⟨y,rfl⟩:=eP h b;obtain⟨z,rfl⟩:=eP h c;exact congrArg (ai h) (show x+y+z=x+(y+z) by grind)
  mul_assoc a b c:=by
    obtain⟨x,rfl⟩:=eP h a;obtain⟨y,rfl⟩:=eP h b;obtain⟨z,rfl⟩:=eP h c;exact congrArg (ai h) (show x*y*z=x*(y*z) by grind)
  mul_one a:=by
    obtain⟨x,rfl⟩:=eP h a;exact congrArg (ai h) (show x*1=x by grind)
  one_mul a:=by
    obtain⟨x,rfl⟩:=eP h a;exact congrArg (ai h) (show 1*x=x by grind)
  left_distrib a b c:=by
    obtain⟨x,rfl⟩:=eP h a;obtain⟨y,rfl⟩:=eP h b;obtain⟨z,rfl⟩:=eP h c;exact congrArg (ai h) (show x*(y+z)=x*y+x*z by grind)
  right_distrib a b c:=by
    obtain⟨x,rfl⟩:=eP h a;obtain⟨y,rfl⟩:=eP h b;obtain⟨z,rfl⟩:=eP h c;exact congrArg (ai h) (show(x+y)*z=x*z+y*z by grind)
  zero_mul a:=by
    obtain⟨x,rfl⟩:=eP h a;exact congrArg (ai h) (show 0*x=0 by grind)
  mul_zero a:=by
    obtain⟨x,rfl⟩:=eP h a;exact congrArg (ai h) (show x*0=0 by grind)
  pow_zero a:=rfl
  pow_succ a c:=rfl
  ofNat_succ c:=congrArg (ai h) (Lean.Grind.Semiring.ofNat_succ (α:=E r n) c)
  ofNat_eq_natCast c:=congrArg (ai h) (Lean.Grind.Semiring.ofNat_eq_natCast (α:=E r n) c)
  nsmul_eq_natCast_mul c a:=rfl
  neg_add_cancel a:=by
    obtain⟨x,rfl⟩:=eP h a;exact congrArg (ai h) (show -x+x=0 by grind)
  sub_eq_add_neg a b:=rfl
  neg_zsmul i a:=by
    obtain⟨x,rfl⟩:=eP h a
    exact congrArg (ai h) (show((-i:Int):E r n)*x=-((i:E r n)*x) by
      rw[Lean.Grind.Ring.intCast_neg];grind)
  zsmul_natCast_eq_nsmul c a:=rfl
  intCast_ofNat c:=congrArg (ai h) (Lean.Grind.Ring.intCast_ofNat (α:=E r n) c)
  intCast_neg i:=congrArg (ai h) (Lean.Grind.Ring.intCast_neg (α:=E r n) i)
  mul_comm a b:=by
    obtain⟨x,rfl⟩:=eP h a;obtain⟨y,rfl⟩:=eP h b;exact congrArg (ai h) (show x*y=y*x by grind)
theorem fv{x:E r n}:ai h x=0↔sg r n x=0:=by
 have e:=kK h (x:=x) (y:=0);rw[show x-0=x by grind]at e;exact e
theorem xg{x:E r n}(hx:sg r n x≠0):ai h (fF x)*ai h x=1:=by
 have e:=(kK h (x:=fF x*x) (y:=1)).2 (GO r n h x hx);exact e
theorem Uo:ai h (1:E r n)=1:=rfl
end
example {r:(k:Nat)->T k} {n:Nat} (h:fc r n) (a b c:Zq h) (e:a*b=1) (f:c*a=2):c=2*b:=by grind
end Go.Lw
namespace Go.Lw
open Go.Proofs
theorem ME(o:Option Nat):aa .geq (jA o) 0=o.isSome:=by
 cases o with
 |none=>rfl
 |some i=>exact decide_eq_true (by show(i:Int)>=0;omega)
theorem Sk(bs:List (Rat×Rat))(hl:bs.length<=281474976710656)(f:FuncId)(pre caps:List AV)(ok:Nat->Bool)
  (hf:∀(i:Nat)(b:Rat×Rat),bs[i]?=some b->(∀j,j<i->ok j=true)->FP f (pre++[qP b]++caps) (bl (!ok i))) :
  FP 354 [.lst 6 (bs.map qP),.cl f pre caps] (i64 (jA (cC bs.length ok))):=by
 refine aj func354 ?_;refine gl ?_;refine aW [0,1,7] [] (fun(i:Nat)=>[(8,some (i64 i))]) (fun _=>[]) (fun i=>i<=bs.length/\∀j,j<i->ok j=true) (fun i=>bs.length-i) 0 ⟨XJ _,fun j h=>by omega⟩ ?_;rintro i ⟨hi,hj⟩ K1 J1;refine gC (fun t9=>?_) (fun t9=>?_)
 ·have hin:=a6 t9;obtain⟨b,hb⟩:=aw hin;refine gi (aE hb) ?_;refine gc (hf i b hb hj) ?_;refine gC (fun t16=>?_) (fun t16=>?_)
  ·have h2:=dg t16;refine af ?_;rw[gH hin hj h2];rfl
  have h2:=da t16;refine ga aN ?_;exact aO J1 (i+1) ⟨hin,fun j h9=>by rcases XH j i with g |g;exact hj j g;(have:j=i:=by omega);subst this;exact h2⟩
 have hin:=bc hi t9;subst hin;refine af ?_;rw[fM hj];rfl
theorem Uz(bs:List (Rat×Rat))(hl:bs.length<=281474976710656)(f:FuncId)(pre caps:List AV)(ok:Nat->Bool)
  (hf:∀(i:Nat)(b:Rat×Rat),bs[i]?=some b->(∀j,j<i->ok j=true)->FP f (pre++[qP b]++caps) (bl (!ok i))) :
  FP 259 [.lst 6 (bs.map qP),.cl f pre caps] (bl (cC bs.length ok).isSome):=by
 refine aj func259 ?_;refine gc (Sk bs hl f pre caps ok hf) ?_;refine af ?_;rw[<- ME];rfl
theorem JN{v:Rat×Rat}(hv:Sm 3000 v):FP 260 [qP v] (bl (decide (bY v v=0))):=by
 refine aj func260 ?_;refine gc (JB hv hv oz oz) ?_;refine gc (Nw ((hv.dot hv).qs oz)) ?_;refine af ?_;rw[<- Ku];rfl
def gx(vs:List (Rat×Rat)):Bool:=(cC vs.length fun i=>!decide (bY (vs.getD i (0,0)) (vs.getD i (0,0))=0)).isSome
theorem IE(vs:List (Rat×Rat))(hl:vs.length<=281474976710656)(hv:∀v∈vs,Sm 3000 v):FP 155 [.lst 6 (vs.map qP)] (bl (gx vs)):=by
 refine aj func155 ?_;refine gc (Con.sA (.cons (.refl _) (.cons ((Sub.fn0 _).trans (sW rfl)) .nil)) (Uz vs hl 260 [] [] (fun i=>!decide (bY (vs.getD i (0,0)) (vs.getD i (0,0))=0)) (fun i b hb _=>by rw[Bool.not_not,aq hb];exact JN (hv b (Xx hb))))) ?_;refine af ?_;rfl
theorem r4{v:Rat×Rat}(h:gx [v]=false):bY v v≠0:=by
 intro h0;have h1:cC 1 (fun i=>!decide (bY ([v].getD i (0,0)) ([v].getD i (0,0))=0))=some 0:=gH oz (fun j hj=>by omega) (by show(!decide (bY v v=0))=false;rw[h0];rfl);unfold gx at h;rw[show[v].length=1 from rfl,h1]at h;cases h
theorem rS{v w:Rat×Rat}(h:gx [v,w]=false):bY v v≠0/\bY w w≠0:=by
 unfold gx at h;rw[Option.isSome_eq_false_iff,Option.isNone_iff_eq_none]at h;have h2:=QW h;have h3:=h2 0 (by show 0<2;omega);have h4:=h2 1 (by show 1<2;omega);have h5:(!decide (bY v v=0))=true:=h3;have h6:(!decide (bY w w=0))=true:=h4;simp only[Bool.not_eq_true',decide_eq_false_iff_not]at h5 h6;exact⟨h5,h6⟩
theorem FL(i n:Nat)(hi:i<=100):FP 164 [i64 i,i64 n] (i64 (if n=1 then 0 else 1-2*(i:Int))):=by
 refine aj func164 ?_;refine gC (fun t6=>?_) (fun t6=>?_)
 ·have h1 : n = 1 := by have := cH t6; omega
  refine af ?_;rw[Yl h1];rfl
 have h1:¬n=1:=by have:=dm t6;omega
 refine ga (show _=2*(i:Int) by exact Bh oz) ?_;refine ga (show _=1-2*(i:Int) by exact eg oz) ?_;refine af ?_;rw[Yk h1];rfl
section
variable{ts:LL}
abbrev jY(u:Rat×Rat):Et ts:=qE (bY u u)
def dt(u:Rat×Rat)(w:P2 ts):Et ts:=(qE u.1*w.1+qE u.2*w.2)*iE (jY u)
def dc(u:Rat×Rat)(w:P2 ts):Et ts:=(qE u.1*w.2-qE u.2*w.1)*iE (jY u)
def qd(u:Rat×Rat)(w:P2 ts)(p:Rat×Rat)(o:P2 ts):Et ts:=o.1-(dt u w*qE p.1-dc u w*qE p.2)
def qi(u:Rat×Rat)(w:P2 ts)(p:Rat×Rat)(o:P2 ts):Et ts:=o.2-(dc u w*qE p.1+dt u w*qE p.2)
def gd(u:Rat×Rat)(w:P2 ts)(p:Rat×Rat)(o:P2 ts):Pq:=⟨sX (dt u w),sX (dc u w),sX (qd u w p o),sX (qi u w p o)⟩
theorem vP(ts:LL)(a b:List Rat):Con prog 75 [.ptr 1000 0,aM a b,.v .nilIface] [(1000,some (bf ts))] (aM a b) [(1000,some (bf ts))]:=by
 have h:=lV (ts.map (List.map rt)) a b;rw[zO]at h;exact h
theorem qg(q:Rat):ae ts.length (sh 0 (q:Rat))=(qE q:Et ts):=gM _ q
theorem oA{e:Nat}{q:Rat}(h5:ts.length<=5)(h:Qb e q):Nm ts.length e (sh 0 (q:Rat)):=Nm.ofQ h5 (Cb.one h)
structure BdP(ts:LL)(u:Rat×Rat)(w:P2 ts)(p:Rat×Rat)(o:P2 ts):Prop where
  dot:FP 80 [aY ts,aM (sh 0 (u.1:Rat)) (sh 0 (u.2:Rat)),aM (sX w.1) (sX w.2)] (.tup [nA (sX (qE u.1*w.1+qE u.2*w.2)),.v .nilIface])
  crs:FP 77 [aY ts,aM (sh 0 (u.1:Rat)) (sh 0 (u.2:Rat)),aM (sX w.1) (sX w.2)] (.tup [nA (sX (qE u.1*w.2-qE u.2*w.1)),.v .nilIface])
  d1:FP 281 [aY ts,nA (sX (qE u.1*w.1+qE u.2*w.2)),nA (sh 0 (bY u u:Rat))] (.tup [nA (sX (dt u w)),.v .nilIface])
  d2:FP 281 [aY ts,nA (sX (qE u.1*w.2-qE u.2*w.1)),nA (sh 0 (bY u u:Rat))] (.tup [nA (sX (dc u w)),.v .nilIface])
  tn:FP 191 [aY ts,nA (sX (dt u w)),nA (sX (dc u w)),aM (sh 0 (p.1:Rat)) (sh 0 (p.2:Rat))] (.tup [aM (sX (dt u w*qE p.1-dc u w*qE p.2)) (sX (dc u w*qE p.1+dt u w*qE p.2)),.v .nilIface])
  s1:FP 176 [aY ts,nA (sX o.1),nA (sX (dt u w*qE p.1-dc u w*qE p.2))] (.tup [nA (sX (qd u w p o)),.v .nilIface])
  s2:FP 176 [aY ts,nA (sX o.2),nA (sX (dc u w*qE p.1+dt u w*qE p.2))] (.tup [nA (sX (qi u w p o)),.v .nilIface])
  ok:Pq.ok ts.length 80000000000 (gd u w p o)
theorem Fm{r W A K F:Nat}{u p:Rat×Rat}{w o:P2 ts}(tw:Tw ts r)(h2:ts.length<=2)(hk:kB r ts.length<=K)(hu:Sm 3000 u)(hp:Sm 3000 p)(h0:bY u u≠0)
  (w1:Nm ts.length W (sX w.1)) (w2:Nm ts.length W (sX w.2)) (a1:Nm ts.length A (sX o.1)) (a2:Nm ts.length A (sX o.2)) (hW:3000<=W) (hF:4*W+10*K+A+100000<=F) (hF2:F<=80000000000):BdP ts u w p o:=by
 have hl:lm ts.length=200000000000:=by unfold lm;rw[Yl h2]
 have h5:=tw.five;have hu1:=oA (ts:=ts) h5 hu.x;have hu2:=oA (ts:=ts) h5 hu.y;have hp1:=oA (ts:=ts) h5 hp.x;have hp2:=oA (ts:=ts) h5 hp.y;have hnn:=oA (ts:=ts) h5 (hu.dot hu);have hkE:eB r ts.length<=K:=hk;have ew:∀x:Et ts,ae ts.length (sX x)=x:=fun x=>bg _ _
 have c1:=um tw (hu1.mono (f:=W) oz) (hu2.mono oz) w1 w2 (by rw[hl];omega);have c2:=BE tw (hu1.mono (f:=W) oz) (hu2.mono oz) w1 w2 (by rw[hl];omega);have n1:=xL tw hu1 hu2 w1 w2;have n2:=BS tw hu1 hu2 w1 w2;rw[qg,qg,ew,ew]at c1 c2 n1 n2
 have hs:T.sgn (ax ts) ts.length (ae ts.length (sh 0 (bY u u:Rat)))≠0:=by
  rw[gM,T.sgn_ofQ];intro h9;exact h0 (qL h9)
 have nb:Nl 0 (sh 0 (bY u u:Rat)):=eQ 0 _;have d1:=Ax tw n1 hnn (XJ _) nb hs (by rw[hl];omega) (by simp only[iB];omega);have d2:=Ax tw n2 hnn (XJ _) nb hs (by rw[hl];omega) (by simp only[iB];omega);have m1:=A7 tw n1 hnn (XJ _) nb hs (by rw[hl];omega) (by simp only[iB];omega);have m2:=A7 tw n2 hnn (XJ _) nb hs (by rw[hl];omega) (by simp only[iB];omega);have e1:∀x:Et ts,ae ts.length (sh ts.length x)=x:=fun x=>bg _ _
 have f1:ae ts.length (sh ts.length (nT ts (qE u.1:Et ts) (qE u.2:Et ts) w.1 w.2))=(qE u.1*w.1+qE u.2*w.2:Et ts):=bg _ _;have f2:ae ts.length (sh ts.length (nK ts (qE u.1:Et ts) (qE u.2:Et ts) w.1 w.2))=(qE u.1*w.2-qE u.2*w.1:Et ts):=bg _ _;rw[f1,qg]at d1 m1;rw[f2,qg]at d2 m2;have k1:Nm ts.length (2*W+3*K+30000) (sX (dt u w)):=Nm.mono m1 (by simp only[iB];omega);have k2:Nm ts.length (2*W+3*K+30000) (sX (dc u w)):=Nm.mono m2 (by simp only[iB];omega);have c3:=FH tw k1 k2 (hp1.mono (f:=(2*W+3*K+30000)) oz) (hp2.mono oz) (by rw[hl];omega);have n3:=xe tw k1 k2 hp1 hp2;have n4:=xC tw k1 k2 hp1 hp2;rw[qg,qg,ew,ew]at c3 n3 n4;have s1:=ou tw a1 n3 (by rw[hl];omega);have s2:=ou tw a2 n4 (by rw[hl];omega);have m3:=a1.sub n3;have m4:=a2.sub n4;have f3:ae ts.length (sh ts.length (rZ ts (dt u w) (dc u w) (qE p.1:Et ts) (qE p.2:Et ts)))=(dt u w*qE p.1-dc u w*qE p.2:Et ts):=bg _ _;have f4:ae ts.length (sh ts.length (tE ts (dt u w) (dc u w) (qE p.1:Et ts) (qE p.2:Et ts)))=(dc u w*qE p.1+dt u w*qE p.2:Et ts):=bg _ _;rw[ew,f3]at s1 m3;rw[ew,f4]at s2 m4;exact⟨c1,c2,d1,d2,c3,s1,s2,k1.mono oz,k2.mono oz,Nm.mono m3 oz,Nm.mono m4 oz⟩
theorem Jn{r:Nat}{u p:Rat×Rat}{w o:P2 ts}(tw:Tw ts r)(h2:ts.length<=2)(hk:kB r ts.length<=1101400000)(hu:Sm 3000 u)(hp:Sm 3000 p)(h0:bY u u≠0)
  (w1:Nm ts.length 17000000000 (sX w.1)) (w2:Nm ts.length 17000000000 (sX w.2)) (a1:Nm ts.length 773000000 (sX o.1)) (a2:Nm ts.length 773000000 (sX o.2)):BdP ts u w p o :=
 Fm (F:=80000000000) tw h2 hk hu hp h0 w1 w2 a1 a2 oz oz oz
theorem wJ{a b c:List Rat}(h:FP 176 [aY ts,nA a,nA b] (.tup [nA c,.v .nilIface])):Con prog 78 [.ptr 1000 0,nA a,nA b] [(1000,some (bf ts))] (nA c) [(1000,some (bf ts))]:=by
 refine gF func78 (fun k z h=>bD h) ?_;refine gc h ?_;refine gt (aH (pI _ _) (aJ rfl rfl rfl) aI rfl rfl) ?_;refine gR ?_;exact az.keep (bj rfl)
theorem xN{u p:Rat×Rat}{w o:P2 ts}(hu:Sm 3000 u)(hp:Sm 3000 p)(B:BdP ts u w p o) :
  Con prog 152 [.ptr 1000 0,qP u,dq w.l,qP p,dq o.l] [(1000,some (bf ts))] (gd u w p o).av [(1000,some (bf ts))]:=by
 refine gF func152 (fun k z h=>bD h) ?_;refine gc (xp (hu.x.qs oz) (hu.y.qs oz)) ?_;refine gc (BB hu oz) ?_;refine gD ?_;refine gc B.dot ?_;refine gt (aX (pI _ _) (aJ rfl rfl rfl) rfl rfl rfl) ?_;refine gt (aX (wY B.d1) (aJ rfl rfl rfl) rfl rfl rfl) ?_;refine gc B.crs ?_;refine gt (aX (pI _ _) (aJ rfl rfl rfl) rfl rfl rfl) ?_;refine gt (aX (wY B.d2) (aJ rfl rfl rfl) rfl rfl rfl) ?_;refine gD ?_;refine gc (xp (hp.x.qs oz) (hp.y.qs oz)) ?_;refine gc B.tn ?_;refine gt (aX (vP _ _ _) (aJ rfl rfl rfl) rfl rfl rfl) ?_;refine gD ?_;refine gt (aX (wJ B.s1) (aJ rfl rfl rfl) rfl rfl rfl) ?_;refine gt (aX (wJ B.s2) (aJ rfl rfl rfl) rfl rfl rfl) ?_;refine gD ?_;refine gR ?_;exact az.keep (bj rfl)
end
structure Sv where
  ts:LL
  ps:List Pq
  mode:Int
abbrev Sv.av(s:Sv):AV:=.agg [.lst 1 (s.ts.map nA),.lst 4 (s.ps.map Pq.av),i64 s.mode]
structure Hd where
  p:Rat×Rat
  a:List Rat×List Rat
  c:Rat×Rat
abbrev Hd.av(h:Hd):AV:=.agg [bl (rt h.p.1).neg,ws (rt h.p.1).num,ws (rt h.p.1).den,bl (rt h.p.2).neg,ws (rt h.p.2).num,ws (rt h.p.2).den,nA h.a.1,nA h.a.2,bl (rt h.c.1).neg,ws (rt h.c.1).num,ws (rt h.c.1).den,bl (rt h.c.2).neg,ws (rt h.c.2).num,ws (rt h.c.2).den]
def jy(ts:LL)(h:Hd)(x:List Rat×List Rat):P2 ts:=(dE ts x.1-dE ts h.a.1,dE ts x.2-dE ts h.a.2)
def ky(ts:LL)(h:Hd):P2 ts:=(dE ts h.a.1,dE ts h.a.2)
def kF(ts:LL)(x:List Rat×List Rat)(h:Hd):Pq:=gd (cq h.c h.p) (jy ts h x) h.p (ky ts h)
structure HdP(ts:LL)(x:List Rat×List Rat)(h:Hd):Prop where
  hp:Sm 1000 h.p
  hc:Sm 1000 h.c
  s1:FP 176 [aY ts,nA x.1,nA h.a.1] (.tup [nA (sX (jy ts h x).1),.v .nilIface])
  s2:FP 176 [aY ts,nA x.2,nA h.a.2] (.tup [nA (sX (jy ts h x).2),.v .nilIface])
  e1:sX (dE ts h.a.1)=h.a.1
  e2:sX (dE ts h.a.2)=h.a.2
  b:BdP ts (cq h.c h.p) (jy ts h x) h.p (ky ts h)
theorem HdP.body{ts:LL}{x:List Rat×List Rat}{h:Hd}(H:HdP ts x h) :
  Con prog 152 [.ptr 1000 0,qP (cq h.c h.p),dq (jy ts h x).l,qP h.p,aM h.a.1 h.a.2] [(1000,some (bf ts))] (kF ts x h).av [(1000,some (bf ts))]:=by
 have hb:=xN (Sm.mono (H.hc.sub H.hp) oz) (Sm.mono H.hp oz) H.b
 have e:dq (ky ts h).l=aM h.a.1 h.a.2:=by
  show aM (sX (dE ts h.a.1)) (sX (dE ts h.a.2))=_;rw[H.e1,H.e2]
 rw[e]at hb;exact hb
def jp(m:Mt)(hs:List Hd)(i:Nat):Sv:=⟨m.ts,hs.map (kF m.ts (m.ps.getD i ([],[]))),if m.ps.length=1 then 0 else 1-2*(i:Int)⟩
def iP(m:Mt)(hs:List Hd)(n:Nat):List AV:=(List.range n).map fun i=>(jp m hs i).av
theorem AH(m:Mt)(hs:List Hd)(n:Nat):(iP m hs n).length=n:=by simp[iP]
theorem QF(m:Mt)(hs:List Hd)(n:Nat):iP m hs (n+1)=iP m hs n++[(jp m hs n).av]:=by unfold iP;rw[range_succ];simp
theorem IW{m:Mt}{r:Nat}(tw:Tw m.ts r)(hs:List Hd)(hl:hs.length<=2)(ml:m.ps.length<=2)(H:∀x∈m.ps,∀h∈hs,HdP m.ts x h) :
  FP 158 [m.av,.lst 14 (hs.map Hd.av)] (.tup [.lst 3 (iP m hs m.ps.length),.v .nilIface]):=by
 refine aj func158 ?_;refine gl ?_;refine gW (Wk.virt 900 3 rfl) ?_;refine aW [1,2,15,16] [2] (fun(i:Nat)=>[(6,some (.ms 900 3 0 i)),(17,some (i64 i))]) (fun i=>[(900,some (.row 3 (iP m hs i)))]) (fun i=>i<=m.ps.length) (fun i=>m.ps.length-i) 0 (XJ _) ?_;rintro i hi K1 J1;refine gC (fun t18=>?_) (fun t18=>?_) (st2:=(17,0))
 ·have hin:=a6 t18;obtain⟨x,hx⟩:=aw hin;have hx9:m.ps.getD i ([],[])=x:=aq hx;have hxm:=Xx hx;refine gi (aE hx) ?_;refine gc (BQ tw) ?_;refine gl ?_;refine gc (FL i m.ps.length oz) ?_;refine gD ?_ (7,0);refine gW (Wk.o (sl:=[(1,some (.lst 14 (hs.map Hd.av))),(2,some (.ptr 2 0)),(6,some (.ms 900 3 0 i)),(8,some (.ptr 8 0)),(9,some (.ptr 25 0)),(10,some (.ptr 10 0)),(15,some (.lst 2 (m.ps.map dq))),(16,some (i64 m.ps.length)),(17,some (i64 i))]) (hp:=[(2,some (.box [.lst 1 (m.ts.map nA),.lst 2 (m.ps.map dq)])),(8,some (.box [nA x.1,nA x.2])),(10,some (.box [.lst 1 (m.ts.map nA),nS,i64 (if m.ps.length=1 then 0 else 1-2*(i:Int))])),(25,some (bf m.ts)),(900,some (.row 3 (iP m hs i)))])) ?_
  refine gl ?_;refine gW (Wk.virt 901 4 rfl) ?_;refine aW [1,2,8,9,10,15,16,17,35,36] [2,8,25,900] (fun(k:Nat)=>[(6,some (.ms 900 3 0 i)),(37,some (i64 k))]) (fun k=>[(10,some (.box [.lst 1 (m.ts.map nA),.ms 901 4 0 k,i64 (if m.ps.length=1 then 0 else 1-2*(i:Int))])),(901,some (.row 4 (((hs.take k).map (kF m.ts x)).map Pq.av)))]) (fun k=>k<=hs.length) (fun k=>hs.length-k) 0 (XJ _) ?_ (h2:=(.cons rfl (BlkSub.bL (.cons (.refl _) (.cons (.nM _ _ _) (.cons (.refl _) .nil))) rfl) (.k .nil)))
  rintro k hk K2 J2;refine gC (fun t38=>?_) (fun t38=>?_) (st2:=(13,0))
  ·have hkn:=a6 t38;obtain ⟨h,hh⟩:=aw hkn;have Hh:=H x hxm h (Xx hh);refine gi (aE hh) ?_;refine gt (aX (Con.rB 25 rfl rfl rfl rfl (wJ Hh.s1)) (aJ rfl rfl rfl) rfl rfl rfl) ?_;refine gt (aX (Con.rB 25 rfl rfl rfl rfl (wJ Hh.s2)) (aJ rfl rfl rfl) rfl rfl rfl) ?_;refine gD ?_;refine gc (om Hh.hc Hh.hp oz oz) ?_;refine gt (aX (Con.rB 25 rfl rfl rfl rfl Hh.body) (.cons (.tmp rfl) (.cons (.tmp rfl) (.cons (.tmp rfl) (.cons (.tmp rfl) (.cons (.tmp rfl) .nil))))) rfl rfl rfl) ?_;refine gs (bX (.tmp rfl) rfl (by rw [XA,XA,XO]; omega) (.tmp rfl) T38 rfl T69 rfl rfl (by dsimp only; simp only [XK,XM]; omega) rfl rfl) ?_;refine gD ?_ (12,0);refine gW (Wk.of (sl:=[(1,some (.lst 14 (hs.map Hd.av))),(2,some (.ptr 2 0)),(6,some (.ms 900 3 0 i)),(8,some (.ptr 8 0)),(9,some (.ptr 25 0)),(10,some (.ptr 10 0)),(15,some (.lst 2 (m.ps.map dq))),(16,some (i64 m.ps.length)),(17,some (i64 i)),(35,some (.lst 14 (hs.map Hd.av))),(36,some (i64 hs.length)),(37,some (i64 k))]) (hp:=[(2,some (.box [.lst 1 (m.ts.map nA),.lst 2 (m.ps.map dq)])),(8,some (.box [nA x.1,nA x.2])),(25,some (bf m.ts)),(10,some (.box [.lst 1 (m.ts.map nA),.ms 71 4 0 (k + 1),i64 (if m.ps.length = 1 then 0 else 1 - 2 * (i:Int))])),(900,some (.row 3 (iP m hs i))),(71,some (.row 4 (((hs.take (k + 1)).map (kF m.ts x)).map Pq.av)))]) aZ (.k (.k (.k (.k (.k (.cons rfl (BlkSub.of (by rw [dR hh,XQ,XQ]; rfl)) .nil))))))) ?_ (12,0)
   refine gW (Wk.rk (k:=71) (d:=901) rfl rfl) ?_;refine ga aN ?_;exact aO J2 (k+1) hkn
  have hkn:=bc hk t38;subst hkn;refine gW ((Wk.freeze (k:=901) rfl).trans<|Wk.of (sl:=[(1,some (.lst 14 (hs.map Hd.av))),(2,some (.ptr 2 0)),(6,some (.ms 900 3 0 i)),(9,some (.ptr 25 0)),(10,some (.ptr 10 0)),(15,some (.lst 2 (m.ps.map dq))),(16,some (i64 m.ps.length)),(17,some (i64 i))]) (hp:=[(2,some (.box [.lst 1 (m.ts.map nA),.lst 2 (m.ps.map dq)])),(25,some (bf m.ts)),(10,some (.box [.lst 1 (m.ts.map nA),.lst 4 ((hs.map (kF m.ts x)).map Pq.av),i64 (if m.ps.length=1 then 0 else 1-2*(i:Int))])),(900,some (.row 3 (iP m hs i)))]) aZ (.k (.k (.cons rfl (BlkSub.bL (.cons (.refl _) (.cons (Sub.of (by rw[bJ (by rw[XA,XA,XO];omega),XP])) (.cons (.refl _) .nil))) rfl) (.k .nil))))) ?_
  refine gC (fun t78=>?_) (fun t78=>?_) (st1:=(14,0));cases t78;refine gs (bX (.tmp rfl) rfl (AH _ _ _).symm (.tmp rfl) T54 rfl T62 rfl rfl (by dsimp only;simp only[XK,XM];omega) rfl rfl) ?_ (16,0);refine gW (Wk.of (sl:=[(1,some (.lst 14 (hs.map Hd.av))),(2,some (.ptr 2 0)),(6,some (.ms 86 3 0 (i+1))),(15,some (.lst 2 (m.ps.map dq))),(16,some (i64 m.ps.length)),(17,some (i64 i))]) (hp:=[(2,some (.box [.lst 1 (m.ts.map nA),.lst 2 (m.ps.map dq)])),(86,some (.row 3 (iP m hs (i+1))))]) aZ (.k (.cons rfl (BlkSub.of (by rw[QF];unfold jp;rw[hx9])) .nil))) ?_ (16,0);refine gW (Wk.rk (k:=86) (d:=900) rfl rfl) ?_;refine ga aN ?_;exact aO J1 (i+1) hin
 have hin:=bc hi t18;subst hin;refine gW ((Wk.freeze (k:=900) rfl).trans<|Wk.of (sl:=[(6,some (.lst 3 (iP m hs m.ps.length)))]) (hp:=[]) (.cons rfl (Sub.of (by rw[bJ (AH _ _ _).symm])) .nil) .nil) ?_;refine bp ?_;rfl
variable{P:Program}{N:Nat}{R:Array Oper}{s:AS}{pos:String}{after:Array Edge}
def vt(P:Program)(t:TypeId):Bool:=match P.underlying t with |some (.slice _)=>true |_=>false
theorem Df{t:TypeId}(h:vt P t=true):∃e,P.underlying t=some (.slice e):=by
 unfold vt at h;split at h
 ·exact⟨_,by assumption⟩
 ·cases h
theorem Ei(w:World)(t e:TypeId)(a:Option Addr)(l c:Nat)(h:P.underlying t=some (.slice e)):(binOp .eql t (.slice a l c) (.slice none 0 0)).run P w=.ok (.bool a.isNone) w:=by
 simp only[binOp];simp[run_equal_slice_nil w t e a l c h]
theorem xy{d:Nat}{x:Operand}{sz:Nat}{e:AV}{es:List AV}{S T t:TypeId}(hx:Ev s x (.lst sz (e::es)))(hS:vt P S=true)(hN:Nat.blt d N=true) :
  Step P N R s ⟨some d,.binOp .eql S x (.const (.slice none 0 0)) T,t,pos,after,none⟩ ⟨some (.v (.bool false)),[],au x,[]⟩ :=
 dA rfl rfl hN fun s' hag C m ac w hr=>⟨.bool false,by
  have h:=(hx.agree hag (fun _ h=>h)).rep hr;obtain⟨el,hel⟩:=Df hS;generalize hu:ac.eval x=y at h
  have hy:∃b l cap,y=.slice (some b) l cap:=by
   cases h with
   |lst u hb hc hl hs h1 hu hrr=>exact⟨_,_,_,rfl⟩
  obtain⟨b,l,cap,rfl⟩:=hy;have e1:ac.eval (.const (.slice none 0 0))=.slice none 0 0:=rfl;simp[execOp,hu,e1,eqGuard,Ei w S el (some b) l cap hel],.v _⟩
theorem vN{d:Nat}{x:Operand}{a:Option Addr}{l cap:Nat}{S T t:TypeId}(hx:Ev s x (.v (.slice a l cap)))(hS:vt P S=true)(hN:Nat.blt d N=true) :
  Step P N R s ⟨some d,.binOp .eql S x (.const (.slice none 0 0)) T,t,pos,after,none⟩ ⟨some (.v (.bool a.isNone)),[],au x,[]⟩ :=
 dA rfl rfl hN fun s' hag C m ac w hr=>⟨.bool a.isNone,by
  have h:=(hx.agree hag (fun _ h=>h)).rep hr;obtain⟨el,hel⟩:=Df hS;generalize hu:ac.eval x=y at h;cases h;have e1:ac.eval (.const (.slice none 0 0))=.slice none 0 0:=rfl;simp[execOp,hu,e1,eqGuard,Ei w S el a l cap hel],.v _⟩
theorem HF{f:FuncId}{sz:Nat}{r:AV}(h:∀(a:Option Addr)(cap:Nat),gO P f [.v (.slice a 0 cap)] r):gO P f [.lst sz []] r :=
 ⟨(h none 0).ok,fun ext m w vs he hr hn hv=>by
  have hn1:vs.size=1:=hn;have h0:=hv 0 vs[0] (.lst sz []) (by simp[hn1]) rfl
  have hy:∃a cap,vs[0]=.slice a 0 cap:=by
   generalize vs[0]=y at h0;cases h0 with
   |lst0 a cap=>exact⟨_,_,rfl⟩
   |lst u hb hc hl hs h1 hu hrr=>exact⟨_,_,rfl⟩
  obtain⟨a,cap,hy⟩:=hy;refine(h a cap).ret ext m w vs he hr hn (fun j v x hv2 hx=>?_)
  match j,hx with
  |0,hx =>
   cases hx;have:v=.slice a 0 cap:=by rw[<- hy];have:=Array.getElem?_eq_some_iff.1 hv2;exact this.2.symm
   subst this;exact .v _⟩
end Go.Lw
namespace Go.Lw
theorem Con.rekeyB1{P:Program}{f:FuncId}{k off:Nat}{x x':Blk}{y0:AV}{xs:List AV}{r:AV}(d:Nat)(hx:x.nm=[])(hx':x'.nm=[])(hy0:y0.nm=[])(hxs:(xs.all fun x=>x.nm.isEmpty)=true)(hr:r.nm=[])
  (h:Con P f (y0 :: .ptr k off::xs) [(k,some x)] r [(k,some x')]):Con P f (y0 :: .ptr d off::xs) [(d,some x)] r [(d,some x')]:=by
 refine⟨h.ok,?_⟩;intro ext m w vs hext hheap hvs hrep
 have h1 := h.ret ext (fun _ => m d) w vs hext (uM (k := d) hx rfl hheap) (by simpa using hvs) (by
  intro j v y hv hy;rw[jX (d:=k) (k:=d) (y:=x) (x:=x) (m2:=fun _=>m d) (m:=m) rfl]
  match j,hy with
  |0,hy =>
   cases hy;exact iN hy0 (hrep 0 v _ hv rfl)
  |1,hy =>
   cases hy;have h2:=hrep 1 v _ hv rfl;cases h2 with
   |ptr hm=>exact .ptr hm
  |j+2,hy =>
   have h2:=hrep (j+2) v y hv hy;refine iN ?_ h2;have:=List.all_eq_true.1 hxs y (Xx hy);simpa using this)
 refine Calls.mono h1 ?_;rintro e w' ⟨v,m',rfl,hf,hh,hn,hk,hrr⟩
 have ho:a9 [(k,some x)] (fun _=>m d)=a9 [(d,some x)] m:=by
  funext b;apply propext;rw[jQ,jQ]
 refine⟨v,fun _=>m' k,rfl,ho▸hf,uM (k:=k) hx' rfl hh,?_,?_,?_⟩
 ·intro k' x b hx hb;rw[<- ho];exact hn k _ b (by rw[aT,Yl rfl]) hb
 ·intro k' x y hx hy;obtain⟨rfl,_⟩:=fC hx;exact hk k _ _ (by rw[aT,Yl rfl]) (by rw[aT,Yl rfl])
 ·rw[jX (d:=d) (k:=k) (y:=x') (x:=x') (m2:=fun _=>m' k) (m:=m') rfl];exact iN hr hrr
open Go.Proofs
theorem pC{p q:Rat×Rat}(hp:Sm 1000 p)(hq:Sm 1000 q):Qz 310000 (bF p q) 3:=ta (V5 hp hq) oz
structure MtOk(ts:LL)(m:Mt):Prop where
  tw:∃r,Tw m.ts r/\kB r m.ts.length<=1101400000
  two:m.ts.length<=2
  ln:m.ps.length<=2
  ps:∀x∈m.ps,Nm m.ts.length 15500000000 x.1/\Nm m.ts.length 15500000000 x.2
  up:∀(e:Nat)(y:Et ts),Nm ts.length e (sX y)->Nm m.ts.length e (sX y)/\sX (dE m.ts (sX y))=sX y
theorem AQ{ts:LL}(e:Nat)(y:Et ts)(h:Nm ts.length e (sX y)):Nm ts.length e (sX y)/\sX (dE ts (sX y))=sX y:=⟨h,congrArg (sh ts.length) (bg _ _)⟩
theorem wD{ts:LL}{X:Et ts}(hn:ts.length<=1)(e:Nat)(y:Et ts)(h:Nm ts.length e (sX y)):Nm (aR ts (sX X)).length e (sX y)/\sX (dE (aR ts (sX X)) (sX y))=sX y:=by
 refine⟨mi h oz,?_⟩;show sh (aR ts (sX X)).length (ae (aR ts (sX X)).length (sX y))=sX y;rw[dJ,ip h.nl.le];show(if T.isZ ts.length (T.zero ts.length)=true then sh ts.length (ae ts.length (sX y))else _)=_;rw[Yl ((T.isZ_iff _ _).2 rfl)];exact congrArg (sh ts.length) (bg _ _)
theorem p9{ts:LL}{ps:List (List Rat×List Rat)}(tw:Tw ts 64990)(hn:ts.length<=1)(hl:ps.length<=2)(hp:∀x∈ps,Nm ts.length 15500000000 x.1/\Nm ts.length 15500000000 x.2):MtOk ts ⟨ts,ps⟩ :=
 ⟨⟨64990,tw,by have:=AF hn;show kB 64990 ts.length<=_;omega⟩,by show ts.length<=2;omega,hl,hp,AQ⟩
theorem IY{ts:LL}{X:Et ts}{ps:List (List Rat×List Rat)}(E:ExtP X)(hn:ts.length<=1)(hl:ps.length<=2)(hp:∀x∈ps,Nm (aR ts (sX X)).length 15500000000 x.1/\Nm (aR ts (sX X)).length 15500000000 x.2):MtOk ts ⟨aR ts (sX X),ps⟩ :=
 ⟨⟨366909990,E.tw,by
  have h:=ig 366909990 (show ts.length+1<=2 by omega);have h2:eB 366909990 2=1100729976:=by decide
  show eB 366909990 (aR ts (sX X)).length<=_;rw[dJ];omega⟩,by show(aR ts (sX X)).length<=2;rw[dJ];omega,hl,hp,wD hn⟩
theorem q6{ts:LL}{m:Mt}(ok:MtOk ts m){x:List Rat×List Rat}(hx:x∈m.ps){p c:Rat×Rat}{o:P2 ts}(a1:Nm ts.length 773000000 (sX o.1))(a2:Nm ts.length 773000000 (sX o.2))(hp:Sm 1000 p)(hc:Sm 1000 c)
  (h0:bY (cq c p) (cq c p)≠0):HdP m.ts x ⟨p,o.l,c⟩:=by
 obtain⟨r,tw,hk⟩:=ok.tw;obtain⟨n1,n2⟩:=ok.ps x hx;obtain⟨b1,e1⟩:=ok.up _ _ a1;obtain⟨b2,e2⟩:=ok.up _ _ a2;have hl:lm m.ts.length=200000000000:=by unfold lm;rw[Yl ok.two]
 refine⟨hp,hc,ou tw n1 b1 (by rw[hl];omega),ou tw n2 b2 (by rw[hl];omega),e1,e2,Jn tw ok.two hk ((hc.sub hp).mono oz) (hp.mono oz) h0 ((n1.sub b1).mono oz) ((n2.sub b2).mono oz) ?_ ?_⟩
 ·show Nm m.ts.length 773000000 (sX (dE m.ts (sX o.1)));rw[e1];exact b1
 ·show Nm m.ts.length 773000000 (sX (dE m.ts (sX o.2)));rw[e2];exact b2
theorem lg{α:Type}{P:α->Prop}{x y:α}(hx:P x)(hy:P y):∀z∈[x,y],P z:=by
 intro z hz;rcases List.mem_cons.1 hz with rfl |hz
 ·exact hx
 ·rw[List.mem_singleton.1 hz];exact hy
theorem il{α:Type}{P:α->Prop}{x:α}(hx:P x):∀z∈[x],P z:=by
 intro z hz;rw[List.mem_singleton.1 hz];exact hx
theorem Gf{ts:LL}{x y z x2 y2 z2:Et ts}(tw:Tw ts 64990)(hn:ts.length<=1)(c:Ct ts 310000 65000)(h1:Zu 310000 65000 x 40 40)(h2:Zu 310000 65000 y 40 40)(h3:Zu 310000 65000 z 3 0)(h4:Zu 310000 65000 x2 40 40)(h5:Zu 310000 65000 y2 40 40)(h6:Zu 310000 65000 z2 3 0)
  (h0:fB (x,y) (x2,y2) z z2=0):MtOk ts (dY (x,y) (x2,y2) z z2):=by
 have P:=Fs c h1 h2 h3 h4 h5 h6;have ce:=c.ex;have ck:=c.k1;have cu:=c.u3;haveI cy:Cy ts 310000 65000:=⟨ce,ck,cu,by omega⟩
 unfold fB at h0;unfold dY
 by_cases hd:am (aB (x,y) (x2,y2))=0
 ·rw[Yl hd]at h0 ⊢;unfold k9 at h0;unfold kP
  by_cases hz:am (z-z2)≠0
  ·rw[Yl hz];exact p9 tw hn (by simp) (by simp)
  ·rw[Yk hz]
   by_cases hp:0<am z
   ·rw[Yl ⟨Decidable.not_not.1 hz,hp⟩]at h0;cases h0
   ·rw[Yk hp];haveI:=h1;haveI:=h2
    refine p9 tw hn (by simp) (il ⟨?_,?_⟩)
    ·exact(inferInstance:Zu 310000 65000 (x+0*x) _ _).nm.mono (by decide)
    ·exact(inferInstance:Zu 310000 65000 (y+0*y) _ _).nm.mono (by decide)
 ·rw [Yk hd];have ht0:am (er (aB (x,y) (x2,y2))) ≠ 0:=by rw [xb tw]; exact hd
  by_cases hx0:am (bn (x,y) z (x2,y2) z2)<0
  ·rw[Yl hx0];exact p9 tw hn (by simp) (by simp)
  ·rw[Yk hx0];obtain⟨_,_,f1,f2⟩:=C2 hn h1 h2 h3 h6 P ht0
   by_cases hx1:am (bn (x,y) z (x2,y2) z2)=0
   ·rw[Yl hx1];exact p9 tw hn (by simp) (il ⟨f1.nm.mono (by decide),f2.nm.mono (by decide)⟩)
   ·rw[Yk hx1];have E:ExtP (bn (x,y) z (x2,y2) z2):=sV tw hn P.zX oz;have S:=GZ (X:=bn (x,y) z (x2,y2) z2) (d:=aB (x,y) (x2,y2)) (f:=c9 (x,y) (x2,y2) z z2) (v:=fx (x,y) (x2,y2)) hn E P.zt ht0 f1 f2 P.z1 P.z2;exact IY E hn (by simp) (lg ⟨S.n1.1.nm.mono (by decide),S.n1.2.nm.mono (by decide)⟩ ⟨S.n2.1.nm.mono (by decide),S.n2.2.nm.mono (by decide)⟩)
theorem Ga{ts:LL}{o p q:P2 ts}{z:Et ts}(tw:Tw ts 64990)(hn:ts.length<=1)(c:Ct ts 310000 65000)(o1:Zu 310000 65000 o.1 40 40)(o2:Zu 310000 65000 o.2 40 40)(p1:Zu 310000 65000 p.1 40 40)(p2:Zu 310000 65000 p.2 40 40)(q1:Zu 310000 65000 q.1 40 40)(q2:Zu 310000 65000 q.2 40 40)
  (i3:Zu 310000 65000 z 3 0) (h0:fJ p q=0):MtOk ts (dZ p q o z):=by
 have ce:=c.ex;have ck:=c.k1;have cu:=c.u3;haveI cy:Cy ts 310000 65000:=⟨ce,ck,cu,by omega⟩
 have P:=IM cy p1 p2 q1 q2 o1 o2 i3;unfold fJ at h0;unfold dZ
 by_cases hs:am (bi p q)=0
 ·rw[Yl hs]at h0;cases h0
 ·rw[Yk hs]
  by_cases h1:am (aU p q o z)=-1
  ·rw[Yl h1];exact p9 tw hn (by simp) (by simp)
  ·rw[Yk h1]
   by_cases h2:am (aU p q o z)=0
   ·rw[Yl h2];have Q:=HW cy hn p1 p2 P hs;exact p9 tw hn (by simp) (il ⟨Q.n1.nm.mono (by decide),Q.n2.nm.mono (by decide)⟩)
   ·rw[Yk h2]
    have hpos:0<=am (aU p q o z):=by
     have:=T.sgn_cases (ax ts) ts.length (aU p q o z);have e:am (aU p q o z)=T.sgn (ax ts) ts.length (aU p q o z):=rfl;omega
    have E:ExtP (aU p q o z):=sV tw hn (AI P.zX oz oz) hpos;haveI ce:=E.cy;haveI zr:Zl (aR ts (sX (aU p q o z))) 773000000 1101400000 (cw ts.length) (dE _ (cw ts.length)) 1 0:=Zl.at (sr oz) (by decide);haveI ze':=j5 (X:=aU p q o z) hn P.ze (by decide);haveI:=zr.zu;haveI:=ze'.zu
    have S1:=xJ (p:=p) (v:=aQ q p) hn E P.zs hs p1 p2 P.v1 P.v2 (k:=aL (aU p q o z) (bE p q o)+bt (aU p q o z)) inferInstance;have S2:=xJ (p:=p) (v:=aQ q p) hn E P.zs hs p1 p2 P.v1 P.v2 (k:=aL (aU p q o z) (bE p q o)-bt (aU p q o z)) inferInstance;exact IY E hn (by simp) (lg ⟨S1.n1.nm.mono (by decide),S1.n2.nm.mono (by decide)⟩ ⟨S2.n1.nm.mono (by decide),S2.n2.nm.mono (by decide)⟩)
abbrev qX(r:List AV×Nat):AV:=.tup [.lst 3 r.1,br r.2]
def mP(l:Li)(a:As)(i k:Int)(j0 j1 j2:Jt):List AV×Nat :=
  if gx [cq (ak l j2 i) (ak l j0 i),cq (ak l j2 k) (ak l j1 k)]=true then([],15)
  else if fB (aG l a j0 i) (aG l a j1 k) (qE (bF (ak l j2 i) (ak l j0 i))) (qE (bF (ak l j2 k) (ak l j1 k)))≠0 then([],fB (aG l a j0 i) (aG l a j1 k) (qE (bF (ak l j2 i) (ak l j0 i))) (qE (bF (ak l j2 k) (ak l j1 k))))
  else(iP (dY (aG l a j0 i) (aG l a j1 k) (qE (bF (ak l j2 i) (ak l j0 i))) (qE (bF (ak l j2 k) (ak l j1 k)))) [⟨ak l j0 i,P2.l (aG l a j0 i),ak l j2 i⟩,⟨ak l j1 k,P2.l (aG l a j1 k),ak l j2 k⟩]
    (dY (aG l a j0 i) (aG l a j1 k) (qE (bF (ak l j2 i) (ak l j0 i))) (qE (bF (ak l j2 k) (ak l j1 k)))).ps.length,0)
theorem W0{l:Li}{a:As}(D:DyR l a)(hn:(llq a.rs).length<=1){i k z0 z1 z2:Int}{j0 j1 j2:Jt}(hg:GrOk l ⟨1,[i,k],[z0,z1,z2],0⟩)(P:RrrP 3900000 l a ⟨1,[i,k],[z0,z1,z2],0⟩ i k z0 z1 z2 j0 j1 j2) :
  Con prog 65 [.ptr 1000 0] [(1000,some (cf l ⟨1,[i,k],[z0,z1,z2],0⟩ a))] (qX (mP l a i k j0 j1 j2)) [(1000,some (cf l ⟨1,[i,k],[z0,z1,z2],0⟩ a))]:=by
 haveI c:=D.s.ct D.hc;obtain⟨tw,etw⟩:=df D.s.tr D.hc;have hq0:=gG D.hl D.li P.h0 P.p0.or;have hq1:=gG D.hl D.li P.h1 P.p1.or;have hq2:=gG D.hl D.li P.h2 P.t1;have hq3:=gG D.hl D.li P.h2 P.t2;obtain⟨y1,y2⟩:=l8 D.hl D.li D.al D.s D.hc P.h0 P.p0;obtain⟨y3,y4⟩:=l8 D.hl D.li D.al D.s D.hc P.h1 P.p1;haveI:=y1;haveI:=y2;haveI:=y3;haveI:=y4
 haveI q1:=pC hq2 hq0;haveI q2:=pC hq3 hq1;haveI z1:Zu 310000 65000 (qE (bF (ak l j2 i) (ak l j0 i)):Et (llq a.rs)) 3 0:=inferInstance;haveI z2:Zu 310000 65000 (qE (bF (ak l j2 k) (ak l j1 k)):Et (llq a.rs)) 3 0:=inferInstance;have hr:=K7 (a:=sX (aG l a j0 i).1) (b:=sX (aG l a j0 i).2) (c:=sh 0 (bF (ak l j2 i) (ak l j0 i):Rat)) (a2:=sX (aG l a j1 k).1) (b2:=sX (aG l a j1 k).2) (c2:=sh 0 (bF (ak l j2 k) (ak l j1 k):Rat)) D.s.tr D.hc hn rfl rfl (Bq _ _) (Bq _ _);have hzz:=IE [cq (ak l j2 i) (ak l j0 i),cq (ak l j2 k) (ak l j1 k)] (by show 2<=_;omega) (lg ((hq2.sub hq0).mono oz) ((hq3.sub hq1).mono oz));refine gF func65 (fun k z h=>bD h) ?_;refine gt (aX (Hy D.hl D.li D.al D.hc D.two hg P.h0 P.h1 P.h2 P.p0 P.p1 P.t1 P.t2) (cB rfl) rfl rfl rfl) ?_;refine gC (fun t13=>?_) (fun t13=>?_) (st1:=(3,0));cases t13;refine gc (om hq2 hq0 oz oz) ?_;refine gc (om hq3 hq1 oz oz) ?_;refine gc hzz ?_;refine gD ?_;refine gC (fun t23=>?_) (fun t23=>?_)
 ·have h1:gx [cq (ak l j2 i) (ak l j0 i),cq (ak l j2 k) (ak l j1 k)]=true:=t23;refine gR ?_;exact(az.keep (bj rfl)).sub (by unfold mP;rw[Yl h1];exact Sub.tup (.cons (.nil _ _ _) (.cons (.refl _) .nil)))
 have h1:gx [cq (ak l j2 i) (ak l j0 i),cq (ak l j2 k) (ak l j1 k)]=false:=t23;obtain⟨w1,w2⟩:=rS h1;refine gc (Bl hq0 hq2 _) ?_;refine gc (Bl hq1 hq3 _) ?_;refine gc hr ?_;refine gD ?_;refine gC (fun t51=>?_) (fun t51=>?_)
 ·have h2:=cU t51;refine gR ?_;exact(az.keep (bj rfl)).sub (by unfold mP;rw[Yk (by rw[h1];decide),Yl h2];exact Sub.tup (.cons (.nil _ _ _) (.cons (.refl _) .nil)))
 have h2:=cS t51;have ok:=Gf (x:=(aG l a j0 i).1) (y:=(aG l a j0 i).2) (x2:=(aG l a j1 k).1) (y2:=(aG l a j1 k).2) tw hn c y1 y2 z1 y3 y4 z2 h2;obtain⟨r9,tw9,_⟩:=ok.tw
 have hpl:=IW tw9 [⟨ak l j0 i,P2.l (aG l a j0 i),ak l j2 i⟩,⟨ak l j1 k,P2.l (aG l a j1 k),ak l j2 k⟩] (XD 2) ok.ln
  (fun x hx=>lg (q6 ok hx (y1.nm.mono (by decide)) (y2.nm.mono (by decide)) hq0 hq2 w1) (q6 ok hx (y3.nm.mono (by decide)) (y4.nm.mono (by decide)) hq1 hq3 w2))
 refine gc hpl ?_;refine gR ?_;exact(az.keep (bj rfl)).sub (Sub.of (by unfold mP;rw[Yk (by rw[h1];decide),Yk (fun h=>h h2)];rfl))
def m8(l:Li)(a:As)(i:Int)(j0 j:Jt):List AV×Nat :=
  if gx [cq (aS l i j.point) (ak l j0 i)]=true then([],15)
  else if fJ (bh l a j.b j.on) (bh l a j.b j.to)≠0 then([],fJ (bh l a j.b j.on) (bh l a j.b j.to))
  else(iP (dZ (bh l a j.b j.on) (bh l a j.b j.to) (aG l a j0 i) (qE (bF (aS l i j.point) (ak l j0 i)))) [⟨ak l j0 i,P2.l (aG l a j0 i),aS l i j.point⟩]
    (dZ (bh l a j.b j.on) (bh l a j.b j.to) (aG l a j0 i) (qE (bF (aS l i j.point) (ak l j0 i)))).ps.length,0)
theorem N1{l:Li}{a:As}(D:DyR l a)(hn:(llq a.rs).length<=1){i z0 z1:Int}{j0 j:Jt}(hg:GrOk l ⟨2,[i],[z0,z1],0⟩)(P:SlP 3900000 l a ⟨2,[i],[z0,z1],0⟩ 2 i z0 z1 j0 j)(ha:j.a=i)(hb:Pd 3900000 a j.b) :
  Con prog 66 [.ptr 1000 0] [(1000,some (cf l ⟨2,[i],[z0,z1],0⟩ a))] (qX (m8 l a i j0 j)) [(1000,some (cf l ⟨2,[i],[z0,z1],0⟩ a))]:=by
 haveI c:=D.s.ct D.hc;obtain⟨tw,etw⟩:=df D.s.tr D.hc;obtain⟨i1,i2,i3,i4,i5⟩:=cO D.li P.h1;have hq2:Sm 1000 (aS l i j.point):=by rw[<- ha];exact jW D.hl D.li i1 i3
 have hq0:=gG D.hl D.li P.h0 P.p0.or;obtain⟨y1,y2⟩:=l8 D.hl D.li D.al D.s D.hc P.h0 P.p0;obtain⟨y3,y4⟩:=mQ D.hl D.li D.al D.s D.hc i2 i4 hb;obtain⟨y5,y6⟩:=mQ D.hl D.li D.al D.s D.hc i2 (i5 P.hk) hb;haveI q1:=pC hq2 hq0;haveI z1:Zu 310000 65000 (qE (bF (aS l i j.point) (ak l j0 i)):Et (llq a.rs)) 3 0:=inferInstance;have hr:=ST (o:=aG l a j0 i) (p:=bh l a j.b j.on) (q:=bh l a j.b j.to) (c:=sh 0 (bF (aS l i j.point) (ak l j0 i):Rat)) D.s.tr D.hc hn c y1 y2 y3 y4 y5 y6 (Bq _ _);have hzz:=IE [cq (aS l i j.point) (ak l j0 i)] (by show 1<=_;omega) (il ((hq2.sub hq0).mono oz));refine gF func66 (fun k z h=>bD h) ?_;refine gt (aX (Jh D.hl D.li D.al D.hc D.two hg P.h0 P.h1 P.p0 ha P.hk hb) (cB rfl) rfl rfl rfl) ?_;refine gC (fun t15=>?_) (fun t15=>?_) (st1:=(3,0));cases t15;refine gc (om hq2 hq0 oz oz) ?_;refine gc hzz ?_;refine gC (fun t25=>?_) (fun t25=>?_)
 ·have h1:gx [cq (aS l i j.point) (ak l j0 i)]=true:=t25;refine gR ?_;exact(az.keep (bj rfl)).sub (by unfold m8;rw[Yl h1];exact Sub.tup (.cons (.nil _ _ _) (.cons (.refl _) .nil)))
 have h1:gx [cq (aS l i j.point) (ak l j0 i)]=false:=t25;have w1:=r4 h1;refine gc (Bl hq0 hq2 _) ?_;refine gc hr ?_;refine gD ?_;refine gC (fun t48=>?_) (fun t48=>?_)
 ·have h2:=cU t48;refine gR ?_;exact(az.keep (bj rfl)).sub (by unfold m8;rw[Yk (by rw[h1];decide),Yl h2];exact Sub.tup (.cons (.nil _ _ _) (.cons (.refl _) .nil)))
 have h2:=cS t48;have ok:=Ga (o:=aG l a j0 i) (p:=bh l a j.b j.on) (q:=bh l a j.b j.to) (z:=qE (bF (aS l i j.point) (ak l j0 i))) tw hn c y1 y2 y3 y4 y5 y6 z1 h2;obtain⟨r9,tw9,_⟩:=ok.tw;have hpl:=IW tw9 [⟨ak l j0 i,P2.l (aG l a j0 i),aS l i j.point⟩] (show 1<=2 by omega) ok.ln (fun x hx=>il (q6 ok hx (y1.nm.mono (by decide)) (y2.nm.mono (by decide)) hq0 hq2 w1));refine gc hpl ?_;refine gR ?_;exact(az.keep (bj rfl)).sub (Sub.of (by unfold m8;rw[Yk (by rw[h1];decide),Yk (fun h=>h h2)];rfl))
theorem GN{ts:LL}{r e:Nat}(tw:Tw ts r){a b c:List Rat}(ha:Nm ts.length e a)(hb:Nm ts.length e b)(hc:Nm ts.length e c)(he:2*(e+e+kB r ts.length)<=lm ts.length) :
  FP 162 [aY ts,nA a,aM b c] (.tup [aM (sh ts.length (T.mul (ax ts) ts.length (ae ts.length a) (ae ts.length b))) (sh ts.length (T.mul (ax ts) ts.length (ae ts.length a) (ae ts.length c))),.v .nilIface]):=by
 refine aj func162 ?_;refine gc (uZ (e:=e) tw [a,b,c] (by simp only[X6,XV,or_false];rintro x (rfl |rfl |rfl) <;> assumption) oz (by simp)) ?_;refine gC (fun t19=>?_) (fun t19=>?_) (st1:=(3,0));cases t19;refine gt (aH (Con.rB 24 rfl rfl rfl rfl (lK tw ha hb oz)) (aJ rfl rfl rfl) aI rfl rfl) ?_;refine gt (aH (Con.rB 24 rfl rfl rfl rfl (lK tw ha hc oz)) (aJ rfl rfl rfl) aI rfl rfl) ?_;refine gt (aH (Con.rB 24 rfl rfl rfl rfl (wC _ _ _)) (bB rfl rfl) aI rfl rfl) ?_;refine gD ?_;refine bp ?_;rfl
section
variable{ts:LL}
def se(q w1 w2 h:Et ts):Et ts:=q*w1-h*-w2
def rT(q w1 w2 h:Et ts):Et ts:=q*w2-h*w1
def mM(ts:LL)(q h d:List Rat)(w:List Rat×List Rat):P2 ts:=(se (dE ts q) (dE ts w.1) (dE ts w.2) (dE ts h)*iE (dE ts d),rT (dE ts q) (dE ts w.1) (dE ts w.2) (dE ts h)*iE (dE ts d))
structure Rp where
  v:Rat×Rat
  p:Rat×Rat
  a:List Rat×List Rat
  h:List Rat
  d:List Rat
  w:List Rat×List Rat
def no(ts:LL)(R:Rp)(q:List Rat):Pq:=gd R.v (mM ts q R.h R.d R.w) R.p (dE ts R.a.1,dE ts R.a.2)
structure RqP(ts:LL)(R:Rp)(q:List Rat):Prop where
  sm:Sm 3000 R.v
  sp:Sm 3000 R.p
  c1:FP 162 [aY ts,nA q,aM R.w.1 R.w.2] (.tup [aM (sX (dE ts q*dE ts R.w.1)) (sX (dE ts q*dE ts R.w.2)),.v .nilIface])
  ng:FP 147 [aY ts,nA R.w.2] (.tup [nA (sX (-dE ts R.w.2)),.v .nilIface])
  c2:FP 162 [aY ts,nA R.h,aM (sX (-dE ts R.w.2)) R.w.1] (.tup [aM (sX (dE ts R.h*-dE ts R.w.2)) (sX (dE ts R.h*dE ts R.w.1)),.v .nilIface])
  sb:FP 76 [aY ts,aM (sX (dE ts q*dE ts R.w.1)) (sX (dE ts q*dE ts R.w.2)),aM (sX (dE ts R.h*-dE ts R.w.2)) (sX (dE ts R.h*dE ts R.w.1))] (.tup [aM (sX (se (dE ts q) (dE ts R.w.1) (dE ts R.w.2) (dE ts R.h))) (sX (rT (dE ts q) (dE ts R.w.1) (dE ts R.w.2) (dE ts R.h))),.v .nilIface])
  d1:FP 281 [aY ts,nA (sX (se (dE ts q) (dE ts R.w.1) (dE ts R.w.2) (dE ts R.h))),nA R.d] (.tup [nA (sX (mM ts q R.h R.d R.w).1),.v .nilIface])
  d2:FP 281 [aY ts,nA (sX (rT (dE ts q) (dE ts R.w.1) (dE ts R.w.2) (dE ts R.h))),nA R.d] (.tup [nA (sX (mM ts q R.h R.d R.w).2),.v .nilIface])
  e1:sX (dE ts R.a.1)=R.a.1
  e2:sX (dE ts R.a.2)=R.a.2
  b:BdP ts R.v (mM ts q R.h R.d R.w) R.p (dE ts R.a.1,dE ts R.a.2)
theorem RqP.body{R:Rp}{q:List Rat}(H:RqP ts R q) :
  Con prog 152 [.ptr 1000 0,qP R.v,dq (mM ts q R.h R.d R.w).l,qP R.p,aM R.a.1 R.a.2] [(1000,some (bf ts))] (no ts R q).av [(1000,some (bf ts))]:=by
 have hb:=xN H.sm H.sp H.b
 have e:dq (P2.l ((dE ts R.a.1,dE ts R.a.2):P2 ts))=aM R.a.1 R.a.2:=by
  show aM (sX (dE ts R.a.1)) (sX (dE ts R.a.2))=_;rw[H.e1,H.e2]
 rw[e]at hb;exact hb
theorem Ho{R:Rp}{q:List Rat}{j:Nat}(cy:Cy ts 773000000 1101400000)(sm:Sm 3000 R.v)(sp:Sm 3000 R.p)(h0:bY R.v R.v≠0)(nq:Nm ts.length 773000000 q)(nh:Nm ts.length 773000000 R.h)(nd:Nm ts.length 773000000 R.d)
  (n1:Nm ts.length 773000000 R.w.1) (n2:Nm ts.length 773000000 R.w.2) (a1:Nm ts.length 773000000 R.a.1) (a2:Nm ts.length 773000000 R.a.2) (e1:sX (dE ts R.a.1)=R.a.1) (e2:sX (dE ts R.a.2)=R.a.2)
  (nj:Nl j R.d) (hj:j<=ts.length) (hj1:j<=1) (hd:am (dE ts R.d)≠0):RqP ts R q:=by
 obtain⟨r,tw,hk⟩:=cy.ex;have hl:=cy.lm;haveI:=cy;haveI zq:Zl ts 773000000 1101400000 q (dE ts q) 1 0:=Zl.at nq (XD _);haveI zh:Zl ts 773000000 1101400000 R.h (dE ts R.h) 1 0:=Zl.at nh (XD _);haveI zd:Zl ts 773000000 1101400000 R.d (dE ts R.d) 1 0:=Zl.at nd (XD _);haveI z1:Zl ts 773000000 1101400000 R.w.1 (dE ts R.w.1) 1 0:=Zl.at n1 (XD _);haveI z2:Zl ts 773000000 1101400000 R.w.2 (dE ts R.w.2) 1 0:=Zl.at n2 (XD _);haveI:=zq.zu;haveI:=zh.zu;haveI:=z1.zu;haveI:=z2.zu
 haveI zn:Zu 773000000 1101400000 (-dE ts R.w.2) 1 0:=inferInstance;haveI y1:Zu 773000000 1101400000 (dE ts q*dE ts R.w.1) 2 1:=inferInstance;haveI y2:Zu 773000000 1101400000 (dE ts q*dE ts R.w.2) 2 1:=inferInstance;haveI y3:Zu 773000000 1101400000 (dE ts R.h*-dE ts R.w.2) 2 1:=inferInstance;haveI y4:Zu 773000000 1101400000 (dE ts R.h*dE ts R.w.1) 2 1:=inferInstance;haveI x1:Zu 773000000 1101400000 (se (dE ts q) (dE ts R.w.1) (dE ts R.w.2) (dE ts R.h)) 4 3:=(inferInstance:Zu 773000000 1101400000 (dE ts q*dE ts R.w.1-dE ts R.h*-dE ts R.w.2) 4 3)
 haveI x2:Zu 773000000 1101400000 (rT (dE ts q) (dE ts R.w.1) (dE ts R.w.2) (dE ts R.h)) 4 3:=(inferInstance:Zu 773000000 1101400000 (dE ts q*dE ts R.w.2-dE ts R.h*dE ts R.w.1) 4 3)
 have ew:∀x:Et ts,ae ts.length (sX x)=x:=fun x=>bg _ _
 have hkB:kB r ts.length<=1101400000:=hk;have c1:=GN tw nq n1 n2 (by rw[hl];omega);have ng:=DW (ts:=ts) (u:=773000000) (k:=1101400000) (a:=R.w.2) (by decide);have nn:Nm ts.length 773000000 (sX (-dE ts R.w.2)):=zn.nm.mono (by decide);have c2:=GN tw nh nn n1 (by rw[hl];omega);rw[ew]at c2;have sb:=zC (a:=sX (dE ts q*dE ts R.w.1)) (b:=sX (dE ts q*dE ts R.w.2)) (c:=sX (dE ts R.h*-dE ts R.w.2)) (d:=sX (dE ts R.h*dE ts R.w.1)) tw y1.nm y2.nm y3.nm y4.nm (by rw[hl];decide);rw[ew,ew,ew,ew]at sb;have d1:=q5 (ts:=ts) (u:=773000000) (k:=1101400000) (a:=sX (se (dE ts q) (dE ts R.w.1) (dE ts R.w.2) (dE ts R.h))) (b:=R.d) nj hj hj1 hd (by decide);have d2:=q5 (ts:=ts) (u:=773000000) (k:=1101400000) (a:=sX (rT (dE ts q) (dE ts R.w.1) (dE ts R.w.2) (dE ts R.h))) (b:=R.d) nj hj hj1 hd (by decide);exact⟨sm,sp,c1,ng,c2,sb,d1.1,d2.1,e1,e2,Jn tw cy.two hkB sm sp h0 (d1.2.nm.mono (by decide)) (d2.2.nm.mono (by decide)) (by show Nm ts.length 773000000 (sX (dE ts R.a.1));rw[e1];exact a1) (by show Nm ts.length 773000000 (sX (dE ts R.a.2));rw[e2];exact a2)⟩
end
def iH(ts:LL)(R:Rp)(qs:LL)(i:Nat):Sv:=⟨ts,[no ts R (qs.getD i [])],if qs.length=1 then 0 else 1-2*(i:Int)⟩
def kI(ts:LL)(R:Rp)(qs:LL)(n:Nat):List AV:=(List.range n).map fun i=>(iH ts R qs i).av
theorem yd(ts:LL)(R:Rp)(qs:LL)(n:Nat):(kI ts R qs n).length=n:=by simp[kI]
theorem QT(ts:LL)(R:Rp)(qs:LL)(n:Nat):kI ts R qs (n+1)=kI ts R qs n++[(iH ts R qs n).av]:=by unfold kI;rw[range_succ];simp
def di(l:Li)(a:As)(i:Int)(j0 j:Jt):Rp:=⟨cr l i j,ak l j0 i,P2.l (aG l a j0 i),sh 0 (cm l i j0 j:Rat),sX (cc l a i j0 j),P2.l (bU l a i j0 j)⟩
def bq(l:Li)(a:As)(i:Int)(j0 j:Jt):Et (llq a.rs):=qE (iR l i j)*cc l a i j0 j-qE (cm l i j0 j)*qE (cm l i j0 j)
def lM(l:Li)(a:As)(i:Int)(j0 j:Jt):List AV×Nat :=
  if am (cc l a i j0 j)=0/\am (qE (cm l i j0 j):Et (llq a.rs))=0 then([],15)
  else if am (bq l a i j0 j)<0 then([],0)
  else if 0<am (bq l a i j0 j)then(kI (aR (llq a.rs) (sX (bq l a i j0 j))) (di l a i j0 j) [cw (llq a.rs).length,sX (-bt (bq l a i j0 j))] 2,0)
  else(kI (llq a.rs) (di l a i j0 j) [[]] 1,0)
theorem sC{ts:LL}{r:Nat}(tw:Tw ts r){n d h:Et ts}(hs:¬am (n*d-h*h)<0)(h1:¬(am d=0/\am h=0)):am d≠0:=by
 intro h0;have S:=ep (ax ts) ts.length tw.pos
 have e1:sg (ax ts) ts.length (n*d)=0:=by
  rw[S.mul];have:sg (ax ts) ts.length d=0:=h0;rw[this];exact Int.mul_zero _
 have e2:=S.zadd (y:=-(h*h)) e1;rw[show n*d+-(h*h)=n*d-h*h by grind,S.neg,S.mul]at e2;have e3:am (n*d-h*h)=sg (ax ts) ts.length (n*d-h*h):=rfl;have e4:am h=sg (ax ts) ts.length h:=rfl;have h2:sg (ax ts) ts.length h≠0:=fun h9=>h1 ⟨h0,by rw[e4];exact h9⟩
 rw[e3,e2]at hs;rcases S.cs h with g |g |g
 ·rw[g]at hs;exact hs (by decide)
 ·exact h2 g
 ·rw[g]at hs;exact hs (by decide)
theorem Xf{p q:Rat}(h:p*p+q*q=0):p=0/\q=0:=by
 have h1:=oB p;have h2:=oB q;have h3:p*p=0:=by grind
 have h4:q*q=0:=by grind
 exact⟨by rcases Rat.mul_eq_zero.1 h3 with g |g <;> exact g,by rcases Rat.mul_eq_zero.1 h4 with g |g <;> exact g⟩
theorem wT{l:Li}(hli:aA l=0){n:Nat}{j:Jt}(hj:l.jo[n]?=some j)(hk:j.kind≠0){i:Int}(hi:j.b=i):bY (cr l i j) (cr l i j)≠0:=by
 intro h0;obtain⟨h1,h2⟩:=Xf h0;have h3:=Hr hli hj;subst hi;have e1:(aS l j.b j.to).1-(aS l j.b j.on).1=0:=h1;have e2:(aS l j.b j.to).2-(aS l j.b j.on).2=0:=h2;have e3:((cA l j.b).getD j.on.toNat default).x.q=((cA l j.b).getD j.to.toNat default).x.q:=by unfold aS at e1;dsimp only at e1;grind
 have e4:((cA l j.b).getD j.on.toNat default).y.q=((cA l j.b).getD j.to.toNat default).y.q:=by unfold aS at e2;dsimp only at e2;grind
 unfold dN at h3;split at h3
 ·cases h3
 ·split at h3
  ·cases h3
  ·split at h3
   ·cases h3
   ·split at h3
    ·cases h3
    ·split at h3
     ·cases h3
     ·first |(rw[Yl ⟨e3,e4⟩]at h3;cases h3) |(split at h3 <;> first |(cases h3;done) |(rename_i g;exact absurd ⟨e3,e4⟩ g))
theorem OV:Sub (.lst 1 [nS]) (.lst 1 [nA []]):=by
 refine Sub.lst rfl (fun i x y hx hy=>?_)
 match i,hx,hy with
 |0,hx,hy =>
  cases hx;cases hy
  refine⟨rfl,fun j x y hx hy=>?_⟩
  match j,hx,hy with
  |0,hx,hy=>cases hx;cases hy;exact⟨rfl,.nil _ _ _⟩
theorem M3{x y:Int}(h:cond (aa .eql x 0) (aa .eql y 0) false=true):x=0/\y=0:=by
 cases h1:aa .eql x 0
 ·rw[h1]at h;cases h
 ·rw[h1]at h;exact⟨cH h1,cH h⟩
theorem U9{x y:Int}(h:cond (aa .eql x 0) (aa .eql y 0) false=false):¬(x=0/\y=0):=by
 rintro⟨rfl,rfl⟩;cases h
structure RpF(l:Li)(a:As)(i:Int)(j0 j:Jt):Prop where
  hv:Sm 3000 (cr l i j)
  hp:Sm 3000 (ak l j0 i)
  vv:bY (cr l i j) (cr l i j)≠0
  zl:Zl (llq a.rs) 310000 65000 (sh 0 (cm l i j0 j:Rat)) (qE (cm l i j0 j)) 3 0
  z3:Zu 310000 65000 (cc l a i j0 j) 320 327
  zX:Zu 310000 65000 (bq l a i j0 j) 976 989
  w1:Zu 310000 65000 (bU l a i j0 j).1 80 81
  w2:Zu 310000 65000 (bU l a i j0 j).2 80 81
  y1:Zu 310000 65000 (aG l a j0 i).1 40 40
  y2:Zu 310000 65000 (aG l a j0 i).2 40 40
theorem Hw{l:Li}{a:As}(D:DyR l a)(hn:(llq a.rs).length<=1){g:Gr}{i z0 z1:Int}{j0 j:Jt}(P:SlP 3900000 l a g 3 i z0 z1 j0 j)(hj:j.b=i)(hb:Pd 3900000 a j.a):RpF l a i j0 j:=by
 haveI c:=D.s.ct D.hc;have ck:=c.k1;haveI cy:Cy (llq a.rs) 310000 65000:=⟨c.ex,c.k1,c.u3,by omega⟩
 have hs0:Sm 1000 (ak l j0 i):=gG D.hl D.li P.h0 P.p0.or;obtain⟨i1,i2,i3,i4,i5⟩:=cO D.li P.h1;have hs1:Sm 1000 (aS l i j.on):=by rw[<- hj];exact jW D.hl D.li i2 i4
 have hs2:Sm 1000 (aS l i j.to):=by rw[<- hj];exact jW D.hl D.li i2 (i5 P.hk)
 have hv:Sm _ (cr l i j):=hs2.sub hs1;haveI qn:Qz 310000 (iR l i j) 3:=ta (hv.dot hv) oz;haveI qh:Qz 310000 (cm l i j0 j) 3:=ta (hv.cross (hs1.sub hs0)) oz;obtain⟨w1,w2⟩:=CK D P.h0 P.p0 P.h1 hb;obtain⟨y1,y2⟩:=l8 D.hl D.li D.al D.s D.hc P.h0 P.p0;haveI:=w1;haveI:=w2
 haveI z3:Zu 310000 65000 (cc l a i j0 j) 320 327:=(inferInstance:Zu 310000 65000 (dotE (bU l a i j0 j).1 (bU l a i j0 j).2 (bU l a i j0 j).1 (bU l a i j0 j).2) _ _)
 exact⟨hv.mono oz,hs0.mono oz,wT D.li P.h1 P.hk hj,Cy.zq,z3,AI (inferInstance:Zu 310000 65000 (qE (iR l i j)*cc l a i j0 j-qE (cm l i j0 j)*qE (cm l i j0 j)) _ _) (by decide) (by decide),w1,w2,y1,y2⟩
theorem H8{l:Li}{a:As}{i:Int}{j0 j:Jt}(F:RpF l a i j0 j)(tw:Tw (llq a.rs) 64990)(hn:(llq a.rs).length<=1)(hd0:am (cc l a i j0 j)≠0)(hp:0<=am (bq l a i j0 j)) :
  ExtP (bq l a i j0 j)/\RqP (aR (llq a.rs) (sX (bq l a i j0 j))) (di l a i j0 j) (cw (llq a.rs).length)/\RqP (aR (llq a.rs) (sX (bq l a i j0 j))) (di l a i j0 j) (sX (-bt (bq l a i j0 j))) /\
  FP 147 [aY (aR (llq a.rs) (sX (bq l a i j0 j))),nA (cw (llq a.rs).length)] (.tup [nA (sX (-bt (bq l a i j0 j))),.v .nilIface]):=by
 have E:ExtP (bq l a i j0 j):=sV tw hn F.zX hp;have ce:=E.cy;have zr:Nm (aR (llq a.rs) (sX (bq l a i j0 j))).length 773000000 (cw (llq a.rs).length):=(sr oz).mono (by decide);haveI zrl:Zl (aR (llq a.rs) (sX (bq l a i j0 j))) 773000000 1101400000 (cw (llq a.rs).length) (bt (bq l a i j0 j)) 1 0:=Zl.at zr (by decide);haveI:=zrl.zu;have hng:=DW (ts:=aR (llq a.rs) (sX (bq l a i j0 j))) (u:=773000000) (k:=1101400000) (a:=cw (llq a.rs).length) (by decide);have zn:Nm (aR (llq a.rs) (sX (bq l a i j0 j))).length 773000000 (sX (-bt (bq l a i j0 j))):=(inferInstance:Zu 773000000 1101400000 (-bt (bq l a i j0 j)) 1 0).nm.mono (by decide)
 have hR:∀q,Nm (aR (llq a.rs) (sX (bq l a i j0 j))).length 773000000 q->RqP (aR (llq a.rs) (sX (bq l a i j0 j))) (di l a i j0 j) q:=fun q nq =>
  Ho (R := di l a i j0 j) (j := (llq a.rs).length) ce F.hv F.hp F.vv nq (mi (F.zl.nm.mono (by decide)) oz) (mi (F.z3.nm.mono (by decide)) oz) (mi (F.w1.nm.mono (by decide)) oz) (mi (F.w2.nm.mono (by decide)) oz)
   (mi (F.y1.nm.mono (by decide)) oz) (mi (F.y2.nm.mono (by decide)) oz) (wD hn _ _ F.y1.nm).2 (wD hn _ _ F.y2.nm).2 F.z3.nm.nl (by rw[dJ];omega) hn (by rw[show am (dE (aR (llq a.rs) (sX (bq l a i j0 j))) (di l a i j0 j).d)=am (cc l a i j0 j)from oy];exact hd0)
 exact⟨E,hR _ zr,hR _ zn,hng⟩
theorem HM{l:Li}{a:As}{i:Int}{j0 j:Jt}(F:RpF l a i j0 j)(tw:Tw (llq a.rs) 64990)(hn:(llq a.rs).length<=1)(hd0:am (cc l a i j0 j)≠0):Cy (llq a.rs) 773000000 1101400000/\RqP (llq a.rs) (di l a i j0 j) []:=by
 have cs:Cy (llq a.rs) 773000000 1101400000:=⟨⟨64990,tw,by show kB 64990 (llq a.rs).length<=_;have:=AF hn;omega⟩,by omega,by omega,by omega⟩
 have nil0:Nm (llq a.rs).length 773000000 []:=⟨tw.five,.inl rfl,Cb.nil.mono oz⟩
 exact ⟨cs, Ho (R := di l a i j0 j) (j := (llq a.rs).length) cs F.hv F.hp F.vv nil0 (F.zl.nm.mono (by decide)) (F.z3.nm.mono (by decide)) (F.w1.nm.mono (by decide)) (F.w2.nm.mono (by decide))
   (F.y1.nm.mono (by decide)) (F.y2.nm.mono (by decide)) (AQ _ _ F.y1.nm).2 (AQ _ _ F.y2.nm).2 F.z3.nm.nl (XD _) hn (by rw[show am (dE (llq a.rs) (di l a i j0 j).d)=am (cc l a i j0 j)from congrArg am (bg _ _)];exact hd0)⟩
theorem NO{l:Li}{a:As}(D:DyR l a)(hn:(llq a.rs).length<=1){i z0 z1:Int}{j0 j:Jt}(hg:GrOk l ⟨3,[i],[z0,z1],0⟩)(P:SlP 3900000 l a ⟨3,[i],[z0,z1],0⟩ 3 i z0 z1 j0 j)(hj:j.b=i)(hb:Pd 3900000 a j.a) :
  Con prog 67 [.ptr 1000 0] [(1000,some (cf l ⟨3,[i],[z0,z1],0⟩ a))] (qX (lM l a i j0 j)) [(1000,some (cf l ⟨3,[i],[z0,z1],0⟩ a))]:=by
 haveI c:=D.s.ct D.hc;obtain⟨tw,etw⟩:=df D.s.tr D.hc;haveI cy:Cy (llq a.rs) 310000 65000:=⟨c.ex,c.k1,c.u3,by omega⟩
 have hlm:=cy.lm;have F:=Hw D hn P hj hb;obtain⟨i1,i2,i3,i4,i5⟩:=cO D.li P.h1;have hs0:Sm 1000 (ak l j0 i):=gG D.hl D.li P.h0 P.p0.or;have hs1:Sm 1000 (aS l i j.on):=by rw[<- hj];exact jW D.hl D.li i2 i4
 have hs2:Sm 1000 (aS l i j.to):=by rw[<- hj];exact jW D.hl D.li i2 (i5 P.hk)
 have hv:Sm _ (cr l i j):=hs2.sub hs1;haveI qn:Qz 310000 (iR l i j) 3:=ta (hv.dot hv) oz;haveI qh:Qz 310000 (cm l i j0 j) 3:=ta (hv.cross (hs1.sub hs0)) oz;haveI z3:=F.z3;haveI zX:=F.zX;haveI zl:=F.zl;have hrr:=Kl D (i:=i) (j0:=j0) (j:=j) (by decide);have m1:=BM (ts:=llq a.rs) (u:=310000) (k:=65000) (a:=sX (bq l a i j0 j)) (by decide);have m2:=BM (ts:=llq a.rs) (u:=310000) (k:=65000) (a:=sX (cc l a i j0 j)) (by decide);have m3:=BM (ts:=llq a.rs) (u:=310000) (k:=65000) (a:=sh 0 (cm l i j0 j:Rat)) (by decide);refine gF func67 (fun k z h=>bD h) ?_ (2,0);refine gW (Wk.o (sl:=[(0,some (.ptr 1000 0)),(4,some (.ptr 24 0))]) (hp:=[(1000,some (cf l ⟨3,[i],[z0,z1],0⟩ a)),(24,some (dz a.rs))])) ?_;refine gt (aH (Con.rekeyBB 1000 24 (by decide) (by decide) rfl rfl rfl rfl rfl rfl (UT D hg P.h0 P.h1 P.p0 hj P.hk hb)) (bB rfl rfl) aI rfl rfl) ?_;refine gt (aH (Con.rekeyB1 24 rfl rfl rfl rfl rfl hrr) (bB rfl rfl) aI rfl rfl) ?_ (4,0);refine gW (Wk.of (sl:=[(4,some (.ptr 24 0)),(5,some (.ptr 5 0)),(6,some (nA (sX (bq l a i j0 j))))]) (hp:=[(1000,some (cf l ⟨3,[i],[z0,z1],0⟩ a)),(5,some (.box (rC l a i j0 j))),(24,some (bf (llq a.rs)))]) aZ (.k (.k (.cons rfl (BlkSub.bL (.cons (.of (mJ etw)) (.cons (.refl _) .nil)) rfl) .nil)))) ?_;refine gt (aX (Con.rB 24 rfl rfl rfl rfl m1) (bB rfl rfl) rfl rfl rfl) ?_;refine gC (fun t34=>?_) (fun t34=>?_) (st1:=(6,0));cases t34;refine gt (aX (Con.rB 24 rfl rfl rfl rfl m2) (bB rfl rfl) rfl rfl rfl) ?_;refine gu (fq rfl rfl rfl (fun h=>aX (Con.rB 24 rfl rfl rfl rfl m3) (.cons (.opt rfl (o1 h)) (.cons (.opt rfl (o1 h)) .nil)) rfl rfl rfl)) ?_;refine gC (fun t44=>?_) (fun t44=>?_)
 ·have h1:=M3 t44;refine gR ?_;exact(az.keep (bj rfl)).sub (by unfold lM;rw[Yl h1];exact Sub.tup (.cons (.nil _ _ _) (.cons (.refl _) .nil)))
 have h1:=U9 t44;refine gC (fun t58=>?_) (fun t58=>?_)
 ·have h2:am (bq l a i j0 j)<0:=of_decide_eq_true t58;refine gR ?_;exact(az.keep (bj rfl)).sub (by unfold lM;rw[Yk h1,Yl h2];exact Sub.tup (.cons (.nil _ _ _) (.cons (.refl _) .nil)))
 have h2:¬am (bq l a i j0 j)<0:=of_decide_eq_false t58;have hd0:am (cc l a i j0 j)≠0:=sC tw h2 h1;refine yc [4,5] [1000,5] (fun(T:LL)(qs:LL)=>[(8,some (.lst 1 (qs.map nA)))]) (fun T _=>[(24,some (bf T))]) (fun T qs=>Cy T 773000000 1101400000/\qs.length<=2/\(∀q∈qs,RqP T (di l a i j0 j) q)/\lM l a i j0 j=(kI T (di l a i j0 j) qs qs.length,0)) ?_ ?_
 ·intro K1 J1;refine gC (fun t63=>?_) (fun t63=>?_)
  ·have h3:0<am (bq l a i j0 j):=of_decide_eq_true t63;obtain⟨E,R1,R2,hng⟩:=H8 F tw hn hd0 oz;have ce:=E.cy;have hex:=CD (a:=sX (bq l a i j0 j)) tw zX.nm (by rw[hlm];decide) (by rw[show ae (llq a.rs).length (sX (bq l a i j0 j))=bq l a i j0 j from bg _ _];show 0<=am (bq l a i j0 j);omega);refine gc hex ?_;refine gC (fun t75=>?_) (fun t75=>?_) (st1:=(15,0));cases t75;refine gc hng ?_;refine gt (aX (Con.rB 24 rfl rfl rfl rfl (pI _ _)) (aJ rfl rfl rfl) rfl rfl rfl) ?_;exact pW J1 (aR (llq a.rs) (sX (bq l a i j0 j))) ([cw (llq a.rs).length,sX (-bt (bq l a i j0 j))]) ⟨ce,XD 2,lg R1 R2,by unfold lM;rw[Yk h1,Yk h2,Yl h3];rfl⟩
  have h3:¬0<am (bq l a i j0 j):=of_decide_eq_false t63;obtain⟨cs,R0⟩:=HM F tw hn hd0;exact pW J1 (llq a.rs) ([[]]) ⟨cs,by decide,il R0,by unfold lM;rw[Yk h1,Yk h2,Yk h3];rfl⟩ (hw:=Wk.of (.cons rfl OV (.k (.k .nil))) (.k (.k (.k .nil))))
 rintro T qs ⟨ct,hql,hq,hR⟩;obtain⟨rr,twT,hkT⟩:=ct.ex;refine gl ?_;refine gW (Wk.virt 900 3 rfl) ?_;refine aW [4,5,8,90,91] [1000,5,24] (fun(q:Nat)=>[(12,some (.ms 900 3 0 q)),(92,some (i64 q))]) (fun q=>[(900,some (.row 3 (kI T (di l a i j0 j) qs q)))]) (fun q=>q<=qs.length) (fun q=>qs.length-q) 0 (XJ _) ?_;rintro q hqi K2 J2;refine gC (fun t93=>?_) (fun t93=>?_) (st2:=(28,0))
 ·have hin:=a6 t93;obtain ⟨x,hx⟩:=aw hin;have hx9:qs.getD q [] = x:=aq hx;have R:=hq x (Xx hx);refine gi (aE hx) ?_;refine gc R.c1 ?_;refine gt (aX (Con.rB 24 rfl rfl rfl rfl (vP _ _ _)) (aJ rfl rfl rfl) rfl rfl rfl) ?_;refine gD ?_;refine gc R.ng ?_;refine gt (aX (Con.rB 24 rfl rfl rfl rfl (pI _ _)) (aJ rfl rfl rfl) rfl rfl rfl) ?_;refine gc R.c2 ?_;refine gt (aX (Con.rB 24 rfl rfl rfl rfl (vP _ _ _)) (aJ rfl rfl rfl) rfl rfl rfl) ?_;refine gD ?_;refine gc R.sb ?_;refine gt (aX (Con.rB 24 rfl rfl rfl rfl (vP _ _ _)) (aJ rfl rfl rfl) rfl rfl rfl) ?_;refine gD ?_;refine gt (aX (Con.rB 24 rfl rfl rfl rfl (wY R.d1)) (aJ rfl rfl rfl) rfl rfl rfl) ?_;refine gt (aX (Con.rB 24 rfl rfl rfl rfl (wY R.d2)) (aJ rfl rfl rfl) rfl rfl rfl) ?_;refine gD ?_;refine gc (BQ twT) ?_;refine gt (aX (Con.rB 24 rfl rfl rfl rfl R.body) (.cons (.tmp rfl) (.cons (.tmp rfl) (.cons (.tmp rfl) (.cons (.tmp rfl) (.cons (.tmp rfl) .nil))))) rfl rfl rfl) ?_;refine gl ?_;refine gc (FL q qs.length oz) ?_;refine gs (bX (.tmp rfl) rfl (yd _ _ _ _).symm (.tmp rfl) T54 rfl T62 rfl rfl (by dsimp only; simp only [XK,XM]; omega) rfl rfl) ?_;refine gD ?_ (27,0);refine gW (Wk.of (sl:=[(4,some (.ptr 24 0)),(5,some (.ptr 5 0)),(8,some (.lst 1 (qs.map nA))),(12,some (.ms 182 3 0 (q + 1))),(90,some (.lst 1 (qs.map nA))),(91,some (i64 qs.length)),(92,some (i64 q))]) (hp:=[(1000,some (cf l ⟨3,[i],[z0,z1],0⟩ a)),(5,some (.box (rC l a i j0 j))),(24,some (bf T)),(182,some (.row 3 (kI T (di l a i j0 j) qs (q + 1))))]) aZ (.k (.k (.k (.cons rfl (BlkSub.of (by rw [QT]; unfold iH; rw [hx9]; rfl)) .nil))))) ?_ (27,0)
  refine gW (Wk.rk (k:=182) (d:=900) rfl rfl) ?_;refine ga aN ?_;exact aO J2 (q+1) hin
 have hin:=bc hqi t93;subst hin;refine gW ((Wk.freeze (k:=900) rfl).trans<|Wk.of (sl:=[(4,some (.ptr 24 0)),(12,some (.lst 3 (kI T (di l a i j0 j) qs qs.length)))]) (hp:=[(1000,some (cf l ⟨3,[i],[z0,z1],0⟩ a)),(24,some (bf T))]) (.k (.cons rfl (Sub.of (by rw[bJ (yd _ _ _ _).symm])) .nil)) (.k (.k .nil))) ?_;refine gC (fun t188=>?_) (fun t188=>?_) (st1:=(29,0));cases t188;refine gR ?_;exact(az.keep (bj rfl)).sub (Sub.of (by rw[hR];rfl))
theorem MU:Sub (.agg [bl (rt ((1:Int):Rat)).neg,ws (rt ((1:Int):Rat)).num,ws (rt ((1:Int):Rat)).den,.v (.bool false),nS,nS]) (qP (((1:Int):Rat),0)) :=
 Sub.agg (.cons (.refl _) (.cons (.refl _) (.cons (.refl _) (.cons (.refl _) (.cons (Sub.nil _ _ _) (.cons (Sub.nil _ _ _) .nil)))))) rfl
theorem tQ{ts:LL}(q:Rat):sX (qE q:Et ts)=sh 0 (q:Rat):=zg _ _
def lF(l:Li)(a:As)(i:Int)(j0:Jt)(x:Tn):Pq:=gd (((1:Int):Rat),0) ((qE (de x.half x.t.q),qE (db x.half x.t.q)):P2 (llq a.rs)) (ak l j0 i) (aG l a j0 i)
def o6(l:Li)(a:As)(i:Int)(j0:Jt)(x:Tn):List AV×Nat:=if x.err≠0 then([],x.err)else([(⟨llq a.rs,[lF l a i j0 x],1⟩:Sv).av],0)
theorem M7{l:Li}{g:Gr}{a:As}{x:Tn}(hx:x.t.ok)(hq:Qb 1000 x.t.q)(he:x.err≠0) :
  Con prog 64 [.ptr 1000 0,x.av] [(1000,some (cf l g a))] (.tup [.lst 3 [],br x.err]) [(1000,some (cf l g a))]:=by
 refine gF func64 (fun k z h=>bD h) ?_;refine gc (AA x hx hq oz) ?_;refine gC (fun t20=>?_) (fun t20=>?_) (st2:=(77777,0))
 ·refine gR ?_;exact(az.keep (bj rfl)).sub (Sub.tup (.cons (.nil _ _ _) (.cons (.refl _) .nil)))
 exact absurd (cS t20) he
theorem Cw:Sm 3000 (((1:Int):Rat),(0:Rat)):=⟨Qb.one.mono oz,Qb.mono (e:=1) (q:=0) ⟨by decide,by decide⟩ oz⟩
theorem Ec{E:Nat}(hE:E<=20000000000){l:Li}{a:As}(D:DyW l a)(h3:(llq a.rs).length<=2){body pt:Int}(h1:bu body l.bo.length=true)(h2:bu pt (cA l body).length=true)(hb:Pd E a body) :
  Nm (llq a.rs).length 62500000000 (sX (bh l a body pt).1)/\Nm (llq a.rs).length 62500000000 (sX (bh l a body pt).2):=by
 obtain⟨n,k,bd,m,b,hp⟩:=tU D.hl D.li D.al D.hc h1 h2 hb;obtain⟨tw,_⟩:=df D.al.tr D.hc;have kb:=oe h3;have qx:Qb 1000 m.x.q:=by rw[hp.mp.ex,bV];exact hp.mp.sm.x
 have qy:Qb 1000 m.y.q:=by rw[hp.mp.ey,bV];exact hp.mp.sm.y
 have h:=uA tw hp.ok qx qy;unfold bh;rw[hp.eq];exact⟨h.1.mono oz,h.2.mono oz⟩
theorem M4{E:Nat}(hE:E<=20000000000){l:Li}{a:As}(D:DyW l a)(h3:(llq a.rs).length<=2){i:Nat}{j:Jt}(hj:l.jo[i]?=some j){b:Int}(h:PinP E l a j b) :
  Nm (llq a.rs).length 62500000000 (sX (aG l a j b).1)/\Nm (llq a.rs).length 62500000000 (sX (aG l a j b).2):=by
 obtain⟨i1,i2,i3,i4,_⟩:=cO D.li hj;unfold aG;rcases h.tie with⟨e,hb⟩ |⟨e,e2,hb⟩
 ·rw[Yl e];exact Ec hE D h3 i2 i4 hb
 ·rw[Yk e];exact Ec hE D h3 i1 i3 hb
theorem Jy{E:Nat}(hE:E<=20000000000){l:Li}{a:As}(D:DyW l a)(h3:(llq a.rs).length<=2){n:Nat}{i:Int}{j0:Jt}(h0:l.jo[n]?=some j0)(p0:PinP E l a j0 i){x:Tn}(hq:Qb 1000 x.t.q) :
  BdP (llq a.rs) (((1:Int):Rat),(0:Rat)) ((qE (de x.half x.t.q),qE (db x.half x.t.q)):P2 (llq a.rs)) (ak l j0 i) (aG l a j0 i):=by
 obtain⟨tw,etw⟩:=df D.al.tr D.hc;have qc:=sD (half:=x.half) hq;have qs:=tG (half:=x.half) hq;have hs0:Sm 1000 (ak l j0 i):=gG D.hl D.li h0 p0.or;obtain⟨y1,y2⟩:=M4 hE D h3 h0 p0
 exact Fm (F := 80000000000) (W := 10000) (u := (((1 : Int) : Rat), (0 : Rat))) (p := ak l j0 i) (w := ((qE (de x.half x.t.q), qE (db x.half x.t.q)) : P2 (llq a.rs))) (o := aG l a j0 i) tw h3 (oe h3) Cw (hs0.mono oz) (by decide +kernel)
  (by show Nm _ _ (sX (qE (de x.half x.t.q):Et (llq a.rs)));rw[tQ];exact(oA tw.five qc).mono oz) (by show Nm _ _ (sX (qE (db x.half x.t.q):Et (llq a.rs)));rw[tQ];exact(oA tw.five qs).mono oz) y1 y2 oz oz oz
theorem M1{E:Nat}(hE:E<=20000000000){l:Li}{a:As}(D:DyW l a)(h3:(llq a.rs).length<=2){i z0 d:Int}{j0:Jt}(hg:GrOk l ⟨0,[i],[z0],d⟩)(h0:l.jo[z0.toNat]?=some j0)(p0:PinP E l a j0 i){x:Tn}(hx:x.t.ok)(hq:Qb 1000 x.t.q)(he:x.err=0) :
  Con prog 64 [.ptr 1000 0,x.av] [(1000,some (cf l ⟨0,[i],[z0],d⟩ a))] (.tup [.lst 3 [(⟨llq a.rs,[lF l a i j0 x],1⟩:Sv).av],.v .nilIface]) [(1000,some (cf l ⟨0,[i],[z0],d⟩ a))]:=by
 obtain⟨tw,etw⟩:=df D.al.tr D.hc;have hc:=AA x hx hq oz;rw[Yl he,he]at hc;have hs:=GJ x hx hq oz;rw[Yl he,he]at hs;have qc:=sD (half:=x.half) hq;have qs:=tG (half:=x.half) hq;have hs0:Sm 1000 (ak l j0 i):=gG D.hl D.li h0 p0.or;have hb:=xN Cw (hs0.mono oz) (Jy hE D h3 h0 p0 hq)
 have ew:dq (P2.l ((qE (de x.half x.t.q),qE (db x.half x.t.q)):P2 (llq a.rs)))=aM (sh 0 (de x.half x.t.q:Rat)) (sh 0 (db x.half x.t.q:Rat)):=by
  show aM (sX (qE (de x.half x.t.q):Et (llq a.rs))) (sX (qE (db x.half x.t.q):Et (llq a.rs)))=_;rw[tQ,tQ]
 rw[ew]at hb;have hcl:=BQ tw;have hcl2:FP 154 [dI a.rs] (aY (llq a.rs)):=by rw[etw];exact hcl
 refine gF func64 (fun k z h=>bD h) ?_;refine gc hc ?_;refine gC (fun t20=>?_) (fun t20=>?_) (st1:=(3,0));cases t20;refine gc hs ?_;refine gC (fun t28=>?_) (fun t28=>?_) (st1:=(6,0));cases t28;refine gi rfl ?_;refine gt (aX (tI hE D.hl D.li _ hg D.al D.hc (k:=0) rfl h0 h3 p0) (.cons (.tmp rfl) (.cons (.const _) (cB rfl))) rfl rfl rfl) ?_;refine gD ?_ (9,0);refine gW (Wk.of (sl:=[(0,some (.ptr 1000 0)),(6,some (.ptr 6 0)),(8,some (.ptr 8 0)),(9,some (.ptr 9 0)),(10,some (.ptr 10 0)),(11,some (.ptr 52 0))]) (hp:=[(1000,some (cf l ⟨0,[i],[z0],d⟩ a)),(6,some (.box [bl (rt (de x.half x.t.q)).neg,ws (rt (de x.half x.t.q)).num,ws (rt (de x.half x.t.q)).den])),(8,some (.box [bl (rt (db x.half x.t.q)).neg,ws (rt (db x.half x.t.q)).num,ws (rt (db x.half x.t.q)).den])),(9,some (.box (qC (ak l j0 i)))),(10,some (.box [nA (sX (aG l a j0 i).1),nA (sX (aG l a j0 i).2)])),(52,some (bf (llq a.rs)))]) aZ (.k (.k (.k (.k (.k (.cons rfl (BlkSub.bL (.cons (.of (mJ etw)) (.cons (.refl _) .nil)) rfl) .nil))))))) ?_
 refine gc (kA 1 oz) ?_;refine gc (xp (qc.qs oz) (qs.qs oz)) ?_;refine gt (aX (Con.rB 52 rfl rfl rfl rfl (Con.sA (.cons (.refl _) (.cons MU (.cons (.refl _) (.cons (.refl _) (.cons (.refl _) .nil))))) hb)) (.cons (.tmp rfl) (.cons (.tmp rfl) (.cons (.tmp rfl) (.cons (.tmp rfl) (.cons (.tmp rfl) .nil))))) rfl rfl rfl) ?_;refine gD ?_;refine gC (fun t67=>?_) (fun t67=>?_) (st1:=(12,0));cases t67;refine gc hcl2 ?_;refine gD ?_;refine gR ?_;exact az.keep (bj rfl)
theorem PG{E:Nat}(hE:E<=20000000000){l:Li}{a:As}(D:DyW l a)(h3:(llq a.rs).length<=2){i z0 d:Int}{j0:Jt}(hg:GrOk l ⟨0,[i],[z0],d⟩)(h0:l.jo[z0.toNat]?=some j0)(p0:PinP E l a j0 i){x:Tn}(hx:x.t.ok)(hq:Qb 1000 x.t.q) :
  Con prog 64 [.ptr 1000 0,x.av] [(1000,some (cf l ⟨0,[i],[z0],d⟩ a))] (qX (o6 l a i j0 x)) [(1000,some (cf l ⟨0,[i],[z0],d⟩ a))]:=by
 by_cases he:x.err=0
 ·have h:=M1 hE D h3 hg h0 p0 hx hq he;unfold o6;rw[Yk oz];exact h
 ·have h:=M7 (l:=l) (g:=⟨0,[i],[z0],d⟩) (a:=a) hx hq he;unfold o6;rw[Yl he];exact h
def jz(l:Li)(a:As)(g:Gr)(x:Tn):List AV×Nat :=
  if g.kind=0 then o6 l a (aP g 0) (ao l g 0) x
  else if g.kind=1 then mP l a (aP g 0) (aP g 1) (ao l g 0) (ao l g 1) (ao l g 2)
  else if g.kind=2 then m8 l a (aP g 0) (ao l g 0) (ao l g 1)
  else lM l a (aP g 0) (ao l g 0) (ao l g 1)
theorem BP{E:Nat}{l:Li}{k:Int}{a:As}{own:Bool}{n:Nat}{g:Gr}(h:DyOk E l k a own n g)(hk:g.kind=0):∃i z0 d j0,g=⟨0,[i],[z0],d⟩/\l.jo[z0.toNat]?=some j0/\PinP E l a j0 i:=by
 have hd:=h.dy;cases hd with
 |rrr _ _ _ _ _ _ _=>exact absurd hk (by simp)
 |pr _ _ _=>exact absurd hk (by simp)
 |rp _ _ _=>exact absurd hk (by simp)
 | @drv b z d j x t d0 hd hb=>exact⟨b,z,d,j,rfl,t.hj,h.pin rfl t (by simp) (by simp)⟩
theorem Wn{l:Li}{k:Int}{x:Tn}{a:As}{E:Nat}(hop:FP 63 [l.av,i64 k,a.av,bl false] (.tup [.v (.pointer none),br E]))(h0:E≠0) :
  FP 18 [l.av,i64 k,x.av,a.av] (.tup [.lst 3 [],br E]):=by
 refine aj func18 ?_;refine gc hop ?_;refine gC (fun t20=>?_) (fun t20=>?_) (st2:=(77777,0))
 ·refine gR ?_;exact dF (Sub.tup (.cons (.nil _ _ _) (.cons (.refl _) .nil)))
 exact absurd (cS t20) h0
theorem Mr{E:Nat}(hE:E<=20000000000){l:Li}{k:Int}{a:As}{n:Nat}{g:Gr}{x:Tn}(hx:x.t.ok)(hq:Qb 1000 x.t.q)(h3:(llq a.rs).length<=2)(hR:g.kind≠0->E=3900000/\DyS a)(hop:Con prog 63 [l.av,i64 k,a.av,bl false] [] (.tup [.ptr 900 0,.v .nilIface]) [(900,some (cf l g a))])(D:DyW l a)(ok:DyOk E l k a false n g) :
  FP 18 [l.av,i64 k,x.av,a.av] (qX (jz l a g x)):=by
 have hgo:=ok.ok;refine aj func18 ?_;refine gt (aH hop (.cons (.tmp rfl) (.cons (.tmp rfl) (.cons (.tmp rfl) (.cons (.const _) .nil)))) aI rfl rfl) ?_ (2,0);refine gW (Wk.o (sl:=[(6,some (.ptr 6 0)),(10,some (.ptr 900 0)),(11,some (.v .nilIface))]) (hp:=[(6,some (.box x.av.cells)),(900,some (cf l g a))])) ?_;refine gC (fun t20=>?_) (fun t20=>?_) (st1:=(3,0));cases t20;refine gC (fun t27=>?_) (fun t27=>?_)
 ·have hk:g.kind = 0:=cH t27;obtain ⟨i,z0,d,j0,e,hj0,p0⟩:=BP ok hk;have eR:jz l a g x = o6 l a i j0 x:=by unfold jz; rw [Yl hk,e]; show o6 l a i (l.jo.getD z0.toNat default) x = _; rw [aq hj0]
  subst e;refine gt (aX (Con.rB 900 rfl rfl rfl rfl (PG hE D h3 hgo hj0 p0 hx hq)) (bB rfl rfl) rfl rfl rfl) ?_;refine gR ?_;exact dF (Sub.of (by rw[eR];rfl))
 have hk0:g.kind≠0:=dm t27;obtain⟨hE9,S⟩:=hR hk0;subst hE9;have D:DyR l a:=⟨D,S⟩
 have hn:=S.one D.hc;refine gC (fun t34=>?_) (fun t34=>?_)
 ·have hk:g.kind = 1:=cH t34;obtain ⟨i,k2,z0,z1,z2,j0,j1,j2,P⟩:=ok.rrr hk;obtain ⟨e0,e1,e2,b0,b1,_⟩:=P.at;have eR:jz l a g x = mP l a i k2 j0 j1 j2:=by unfold jz; rw [Yk hk0,Yl hk,e0,e1,e2,b0,b1]
  have e:=P.eq;subst e;refine gt (aX (Con.rB 900 rfl rfl rfl rfl (W0 D hn hgo P)) (cB rfl) rfl rfl rfl) ?_;refine gR ?_;exact dF (Sub.of (by rw[eR];rfl))
 have hk1:g.kind≠1:=dm t34;refine gC (fun t40=>?_) (fun t40=>?_)
 ·have hk:g.kind = 2:=cH t40;obtain ⟨i,z0,z1,j0,j,P,ha,hb⟩:=ok.pr hk;obtain ⟨e0,e1,b0,_⟩:=P.at;have eR:jz l a g x = m8 l a i j0 j:=by unfold jz; rw [Yk hk0,Yk hk1,Yl hk,e0,e1,b0]
  have e:=P.eq;subst e;refine gt (aX (Con.rB 900 rfl rfl rfl rfl (N1 D hn hgo P ha hb)) (cB rfl) rfl rfl rfl) ?_;refine gR ?_;exact dF (Sub.of (by rw[eR];rfl))
 have hk2:g.kind≠2:=dm t40;obtain⟨i,z0,z1,j0,j,P,_,hj,hb⟩:=ok.rp hk0 hk1 hk2;obtain⟨e0,e1,b0,_⟩:=P.at;have eR:jz l a g x=lM l a i j0 j:=by unfold jz;rw[Yk hk0,Yk hk1,Yk hk2,e0,e1,b0]
 have e:=P.eq;subst e;refine gt (aX (Con.rB 900 rfl rfl rfl rfl (NO D hn hgo P hj hb)) (cB rfl) rfl rfl rfl) ?_;refine gR ?_;exact dF (Sub.of (by rw[eR];rfl))
def vJ(l:Li)(k:Int)(x:Tn)(a:As):List AV×Nat:=if fI l k a false=0 then jz l a (iz l k) x else([],fI l k a false)
theorem KF(l:Li)(hl:l.ok)(k:Int){x:Tn}(hx:x.t.ok)(hq:Qb 1000 x.t.q)(a:As)(al:AB a)(h3:bC a.rs=0->(llq a.rs).length<=2){E:Nat}(hE:E<=20000000000)(hs:vS E l k a false)(hR:fI l k a false=0->(iz l k).kind≠0->E=3900000/\DyS a) :
  FP 18 [l.av,i64 k,x.av,a.av] (qX (vJ l k x a)):=by
 have hop:=Ha l hl k a al false;unfold vJ
 by_cases h0:fI l k a false=0
 ·obtain ⟨n, g, ok⟩:=yo hs h0;have hgA:iz l k = g:=by unfold iz; rw [ok.hk,X3]; exact aq ok.hg
  have hR:=hR h0;rw[hgA]at hR;rw[h0,hgA]at hop;rw[Yl h0,hgA];exact Mr hE hx hq (h3 ok.chk) hR hop ⟨hl,ok.li,al,ok.chk⟩ ok
 ·rw[lL h0,pX h0]at hop;rw[Yk h0];exact Wn hop h0
structure SvOk(s:Sv):Prop where
  tw:∃r,Tw s.ts r
  two:s.ts.length<=2
  ps:∀p∈s.ps,Pq.ok s.ts.length 80000000000 p
  ln:s.ps.length<=2
theorem w6(ts:LL)(x:T ts.length):gP ts x x=true:=by
 unfold gP subT;rw[T.add_neg,T.sgn_zero];rfl
structure SolP(S:List Sv)(kd:Int)(n b:Nat):Prop where
  two:S.length<=2
  ok:∀s∈S,SvOk s
  md:∀(i:Nat)(s:Sv),S[i]?=some s->s.mode=(if kd=0 then 1 else if S.length=2 then 1-2*(i:Int)else 0)/\s.ts.length=n+(if S.length=2 then 1 else 0)/\s.ps.length=b
theorem oo(kd:Int)(n b:Nat):SolP [] kd n b:=⟨by simp,by simp,by simp⟩
theorem vT(f:Nat->Sv)(n:Nat):((List.range n).map fun i=>(f i).av)=((List.range n).map f).map Sv.av:=by rw[map_map];rfl
theorem KN{ts:LL}(p q:P2 ts)(z z2:Et ts)(h0:fB p q z z2=0):(dY p q z z2).ts.length=ts.length+(if(dY p q z z2).ps.length=2 then 1 else 0):=by
 unfold fB k9 at h0;unfold dY kP;split
 ·rename_i hd;rw[Yl hd]at h0;split
  ·simp
  ·rename_i hz;split
   ·rename_i hp;rw[Yl ⟨Decidable.not_not.1 hz,hp⟩]at h0;cases h0
   ·simp
 ·split
  ·simp
  ·split
   ·simp
   ·simp[dJ]
theorem Qi{ts:LL}(p q o:P2 ts)(z:Et ts)(h0:fJ p q=0):(dZ p q o z).ts.length=ts.length+(if(dZ p q o z).ps.length=2 then 1 else 0):=by
 unfold fJ at h0;unfold dZ;split
 ·rename_i hd;rw[Yl hd]at h0;cases h0
 ·split
  ·simp
  ·split
   ·simp
   ·simp[dJ]
def jq(m:Mt)(hs:List Hd):List Sv:=(List.range m.ps.length).map (jp m hs)
def jb(l:Li)(a:As)(i k:Int)(j0 j1 j2:Jt):List Sv :=
  if gx [cq (ak l j2 i) (ak l j0 i),cq (ak l j2 k) (ak l j1 k)]=true then[]
  else if fB (aG l a j0 i) (aG l a j1 k) (qE (bF (ak l j2 i) (ak l j0 i))) (qE (bF (ak l j2 k) (ak l j1 k)))≠0 then[]
  else jq (dY (aG l a j0 i) (aG l a j1 k) (qE (bF (ak l j2 i) (ak l j0 i))) (qE (bF (ak l j2 k) (ak l j1 k)))) [⟨ak l j0 i,P2.l (aG l a j0 i),ak l j2 i⟩,⟨ak l j1 k,P2.l (aG l a j1 k),ak l j2 k⟩]
def jk(l:Li)(a:As)(i:Int)(j0 j:Jt):List Sv :=
  if gx [cq (aS l i j.point) (ak l j0 i)]=true then[]
  else if fJ (bh l a j.b j.on) (bh l a j.b j.to)≠0 then[]
  else jq (dZ (bh l a j.b j.on) (bh l a j.b j.to) (aG l a j0 i) (qE (bF (aS l i j.point) (ak l j0 i)))) [⟨ak l j0 i,P2.l (aG l a j0 i),aS l i j.point⟩]
def jw(ts:LL)(R:Rp)(qs:LL):List Sv:=(List.range qs.length).map (iH ts R qs)
def jN(l:Li)(a:As)(i:Int)(j0 j:Jt):List Sv :=
  if am (cc l a i j0 j)=0/\am (qE (cm l i j0 j):Et (llq a.rs))=0 then[]
  else if am (bq l a i j0 j)<0 then[]
  else if 0<am (bq l a i j0 j)then jw (aR (llq a.rs) (sX (bq l a i j0 j))) (di l a i j0 j) [cw (llq a.rs).length,sX (-bt (bq l a i j0 j))]
  else jw (llq a.rs) (di l a i j0 j) [[]]
def j9(l:Li)(a:As)(i:Int)(j0:Jt)(x:Tn):List Sv:=if x.err≠0 then[]else[⟨llq a.rs,[lF l a i j0 x],1⟩]
def eV(l:Li)(a:As)(g:Gr)(x:Tn):List Sv :=
  if g.kind=0 then j9 l a (aP g 0) (ao l g 0) x
  else if g.kind=1 then jb l a (aP g 0) (aP g 1) (ao l g 0) (ao l g 1) (ao l g 2)
  else if g.kind=2 then jk l a (aP g 0) (ao l g 0) (ao l g 1)
  else jN l a (aP g 0) (ao l g 0) (ao l g 1)
theorem SW(l:Li)(a:As)(i k:Int)(j0 j1 j2:Jt):(mP l a i k j0 j1 j2).1=(jb l a i k j0 j1 j2).map Sv.av:=by
 unfold mP jb;split
 ·rfl
 ·split
  ·rfl
  ·exact vT _ _
theorem Mo(l:Li)(a:As)(i:Int)(j0 j:Jt):(m8 l a i j0 j).1=(jk l a i j0 j).map Sv.av:=by
 unfold m8 jk;split
 ·rfl
 ·split
  ·rfl
  ·exact vT _ _
theorem Mb(l:Li)(a:As)(i:Int)(j0 j:Jt):(lM l a i j0 j).1=(jN l a i j0 j).map Sv.av:=by
 unfold lM jN;split
 ·rfl
 ·split
  ·rfl
  ·split
   ·exact vT _ _
   ·exact vT _ _
theorem Tt(l:Li)(a:As)(g:Gr)(x:Tn):(jz l a g x).1=(eV l a g x).map Sv.av:=by
 unfold jz eV;split
 ·unfold o6 j9;split <;> rfl
 ·split
  ·exact SW ..
  ·split
   ·exact Mo ..
   ·exact Mb ..
theorem Dn{ts:LL}{m:Mt}(ok:MtOk ts m){hs:List Hd}(hl:hs.length<=2)(H:∀x∈m.ps,∀h∈hs,HdP m.ts x h){kd:Int}(hk:kd≠0)(lv:m.ts.length=ts.length+(if m.ps.length=2 then 1 else 0)) :
  SolP (jq m hs) kd ts.length hs.length:=by
 have hln:=ok.ln;refine⟨by simpa[jq]using hln,?_,?_⟩
 ·intro s hs2;obtain⟨i,hi,rfl⟩:=List.mem_map.1 hs2;obtain⟨x,hx⟩:=aw (List.mem_range.1 hi);obtain⟨r,tw,_⟩:=ok.tw;refine⟨⟨r,tw⟩,ok.two,?_,by simpa[jp]using hl⟩;intro p hp;unfold jp at hp;rw[aq hx]at hp;obtain⟨h,hh,rfl⟩:=List.mem_map.1 hp;exact(H x (Xx hx) h hh).b.ok
 ·intro i s hi;unfold jq at hi;have hin:i < m.ps.length:=by have:=(List.getElem?_eq_some_iff.1 hi).1; simpa using this
  have e:s=jp m hs i:=by simp[hin]at hi;exact hi.symm
  subst e;have hlen:(jq m hs).length=m.ps.length:=by simp[jq]
  rw[hlen,Yk hk];refine⟨?_,lv,by simp[jp]⟩;show(if m.ps.length=1 then 0 else 1-2*(i:Int))=_
  by_cases h2:m.ps.length=2
  ·rw[Yk oz,Yl h2]
  ·rw[Yl oz,Yk h2]
theorem RH{l:Li}{a:As}(D:DyR l a)(hn:(llq a.rs).length<=1){g:Gr}{i k z0 z1 z2:Int}{j0 j1 j2:Jt}(P:RrrP 3900000 l a g i k z0 z1 z2 j0 j1 j2):SolP (jb l a i k j0 j1 j2) 1 (llq a.rs).length 2:=by
 have c:=D.s.ct D.hc;obtain⟨tw,etw⟩:=df D.s.tr D.hc;have hq0:=gG D.hl D.li P.h0 P.p0.or;have hq1:=gG D.hl D.li P.h1 P.p1.or;have hq2:=gG D.hl D.li P.h2 P.t1;have hq3:=gG D.hl D.li P.h2 P.t2;obtain⟨y1,y2⟩:=l8 D.hl D.li D.al D.s D.hc P.h0 P.p0;obtain⟨y3,y4⟩:=l8 D.hl D.li D.al D.s D.hc P.h1 P.p1;haveI:=c;haveI q1:=pC hq2 hq0;haveI q2:=pC hq3 hq1;have z1:Zu 310000 65000 (qE (bF (ak l j2 i) (ak l j0 i)):Et (llq a.rs)) 3 0:=inferInstance;have z2:Zu 310000 65000 (qE (bF (ak l j2 k) (ak l j1 k)):Et (llq a.rs)) 3 0:=inferInstance;unfold jb
 by_cases h1:gx [cq (ak l j2 i) (ak l j0 i),cq (ak l j2 k) (ak l j1 k)]=true
 ·rw[Yl h1];exact oo _ _ _
 ·rw[Yk h1];obtain⟨w1,w2⟩:=rS (Bool.eq_false_iff.2 h1)
  by_cases h2:fB (aG l a j0 i) (aG l a j1 k) (qE (bF (ak l j2 i) (ak l j0 i))) (qE (bF (ak l j2 k) (ak l j1 k)))≠0
  ·rw[Yl h2];exact oo _ _ _
  ·rw[Yk h2];have h3:=Decidable.not_not.1 h2;have ok:=Gf (x:=(aG l a j0 i).1) (y:=(aG l a j0 i).2) (x2:=(aG l a j1 k).1) (y2:=(aG l a j1 k).2) tw hn c y1 y2 z1 y3 y4 z2 h3;exact Dn ok (by simp) (fun x hx=>lg (q6 ok hx (y1.nm.mono (by decide)) (y2.nm.mono (by decide)) hq0 hq2 w1) (q6 ok hx (y3.nm.mono (by decide)) (y4.nm.mono (by decide)) hq1 hq3 w2)) (by decide) (KN _ _ _ _ h3)
theorem Xs{l:Li}{a:As}(D:DyR l a)(hn:(llq a.rs).length<=1){g:Gr}{i z0 z1:Int}{j0 j:Jt}(P:SlP 3900000 l a g 2 i z0 z1 j0 j)(ha:j.a=i)(hb:Pd 3900000 a j.b):SolP (jk l a i j0 j) 2 (llq a.rs).length 1:=by
 have c:=D.s.ct D.hc;obtain⟨tw,etw⟩:=df D.s.tr D.hc;obtain⟨i1,i2,i3,i4,i5⟩:=cO D.li P.h1;have hq2:Sm 1000 (aS l i j.point):=by rw[<- ha];exact jW D.hl D.li i1 i3
 have hq0:=gG D.hl D.li P.h0 P.p0.or;obtain⟨y1,y2⟩:=l8 D.hl D.li D.al D.s D.hc P.h0 P.p0;obtain⟨y3,y4⟩:=mQ D.hl D.li D.al D.s D.hc i2 i4 hb;obtain⟨y5,y6⟩:=mQ D.hl D.li D.al D.s D.hc i2 (i5 P.hk) hb;haveI:=c;haveI q1:=pC hq2 hq0;have z1:Zu 310000 65000 (qE (bF (aS l i j.point) (ak l j0 i)):Et (llq a.rs)) 3 0:=inferInstance;unfold jk
 by_cases h1:gx [cq (aS l i j.point) (ak l j0 i)]=true
 ·rw[Yl h1];exact oo _ _ _
 ·rw[Yk h1];have w1:=r4 (Bool.eq_false_iff.2 h1)
  by_cases h2:fJ (bh l a j.b j.on) (bh l a j.b j.to)≠0
  ·rw[Yl h2];exact oo _ _ _
  ·rw[Yk h2];have h3:=Decidable.not_not.1 h2;have ok:=Ga (o:=aG l a j0 i) (p:=bh l a j.b j.on) (q:=bh l a j.b j.to) (z:=qE (bF (aS l i j.point) (ak l j0 i))) tw hn c y1 y2 y3 y4 y5 y6 z1 h3;exact Dn ok (by simp) (fun x hx=>il (q6 ok hx (y1.nm.mono (by decide)) (y2.nm.mono (by decide)) hq0 hq2 w1)) (by decide) (Qi _ _ _ _ h3)
theorem Ez{ts T:LL}{R:Rp}{qs:LL}(ct:Cy T 773000000 1101400000)(hl:qs.length<=2)(h1:1<=qs.length)(H:∀q∈qs,RqP T R q)(lv:T.length=ts.length+(if qs.length=2 then 1 else 0)):SolP (jw T R qs) 3 ts.length 1:=by
 refine⟨by simpa[jw]using hl,?_,?_⟩
 ·intro s hs2;obtain⟨i,hi,rfl⟩:=List.mem_map.1 hs2;obtain⟨x,hx⟩:=aw (List.mem_range.1 hi);obtain⟨r,tw,_⟩:=ct.ex;refine⟨⟨r,tw⟩,ct.two,?_,by simp[iH]⟩;intro p hp;unfold iH at hp;rw[aq hx]at hp;rw[List.mem_singleton.1 hp];exact(H x (Xx hx)).b.ok
 ·intro i s hi;unfold jw at hi;have hin:i < qs.length:=by have:=(List.getElem?_eq_some_iff.1 hi).1; simpa using this
  have e:s=iH T R qs i:=by simp[hin]at hi;exact hi.symm
  subst e;have hlen:(jw T R qs).length=qs.length:=by simp[jw]
  rw[hlen,Yk (by decide)];refine⟨?_,lv,by simp[iH]⟩;show(if qs.length=1 then 0 else 1-2*(i:Int))=_
  by_cases h2:qs.length=2
  ·rw[Yk oz,Yl h2]
  ·rw[Yl oz,Yk h2]
theorem RD{l:Li}{a:As}(D:DyR l a)(hn:(llq a.rs).length<=1){g:Gr}{i z0 z1:Int}{j0 j:Jt}(P:SlP 3900000 l a g 3 i z0 z1 j0 j)(hj:j.b=i)(hb:Pd 3900000 a j.a):SolP (jN l a i j0 j) 3 (llq a.rs).length 1:=by
 obtain⟨tw,etw⟩:=df D.s.tr D.hc;have F:=Hw D hn P hj hb;unfold jN
 by_cases h1:am (cc l a i j0 j)=0/\am (qE (cm l i j0 j):Et (llq a.rs))=0
 ·rw[Yl h1];exact oo _ _ _
 ·rw[Yk h1]
  by_cases h2:am (bq l a i j0 j)<0
  ·rw[Yl h2];exact oo _ _ _
  ·rw[Yk h2];have hd0:am (cc l a i j0 j)≠0:=sC tw h2 h1
   by_cases h3:0<am (bq l a i j0 j)
   ·rw[Yl h3];obtain⟨E,R1,R2,_⟩:=H8 F tw hn hd0 oz;exact Ez (ts:=llq a.rs) (qs:=[cw (llq a.rs).length,sX (-bt (bq l a i j0 j))]) E.cy (XD 2) (by show 1<=2;omega) (lg R1 R2) (dJ (llq a.rs) (sX (bq l a i j0 j)))
   ·rw[Yk h3];obtain⟨cs,R0⟩:=HM F tw hn hd0;exact Ez (ts:=llq a.rs) (qs:=[[]]) cs (by show 1<=2;omega) (XD 1) (il R0) rfl
theorem Rc{E:Nat}(hE:E<=20000000000){l:Li}{a:As}(D:DyW l a)(h3:(llq a.rs).length<=2){i z0:Int}{j0:Jt}(h0:l.jo[z0.toNat]?=some j0)(p0:PinP E l a j0 i){x:Tn}(hq:Qb 1000 x.t.q):SolP (j9 l a i j0 x) 0 (llq a.rs).length 1:=by
 obtain⟨tw,etw⟩:=df D.al.tr D.hc;unfold j9
 by_cases he:x.err≠0
 ·rw[Yl he];exact oo _ _ _
 ·rw [Yk he];refine ⟨by simp,il ⟨⟨_,tw⟩,h3,il (Jy hE D h3 h0 p0 hq).ok,by show 1 <= 2; omega⟩,?_⟩;intro n s hs
  match n,hs with
  |0,hs=>cases hs;exact⟨rfl,rfl,rfl⟩
theorem E9{E:Nat}(hE:E<=20000000000){l:Li}{k:Int}{a:As}{n:Nat}{g:Gr}{x:Tn}(D:DyW l a)(h3:(llq a.rs).length<=2)(ok:DyOk E l k a false n g)(hR:g.kind≠0->E=3900000/\DyS a)(hq:Qb 1000 x.t.q):SolP (eV l a g x) g.kind (llq a.rs).length g.bo.length:=by
 unfold eV
 by_cases hk0:g.kind=0
 ·obtain⟨i,z0,d,j0,e,hj0,p0⟩:=BP ok hk0;rw[Yl hk0,e];show SolP (j9 l a i (l.jo.getD z0.toNat default) x) _ _ _;rw[aq hj0];exact Rc hE D h3 hj0 p0 hq
 ·rw[Yk hk0];obtain⟨hE9,S⟩:=hR hk0;subst hE9;have D:DyR l a:=⟨D,S⟩
  have hn:=S.one D.hc
  by_cases hk1:g.kind=1
  ·obtain⟨i,k2,z0,z1,z2,j0,j1,j2,P⟩:=ok.rrr hk1;obtain⟨e0,e1,e2,b0,b1,_⟩:=P.at;rw[Yl hk1,e0,e1,e2,b0,b1,hk1,P.eq];exact RH D hn P
  ·rw[Yk hk1]
   by_cases hk2:g.kind=2
   ·obtain⟨i,z0,z1,j0,j,P,ha,hb⟩:=ok.pr hk2;obtain⟨e0,e1,b0,_⟩:=P.at;rw[Yl hk2,e0,e1,b0,hk2,P.eq];exact Xs D hn P ha hb
   ·obtain⟨i,z0,z1,j0,j,P,_,hj,hb⟩:=ok.rp hk0 hk1 hk2;obtain⟨e0,e1,b0,hk3⟩:=P.at;rw[Yk hk2,e0,e1,b0,hk3,P.eq];exact RD D hn P hj hb
open Lean.Grind (CommRing)
structure Hm{ts:LL}{R:Type}[CommRing R](f:Et ts->R):Prop where
  add:∀x y,f (x+y)=f x+f y
  mul:∀x y,f (x*y)=f x*f y
  neg:∀x,f (-x)=-f x
  one:f 1=1
  inv:∀x,am x≠0->f (iE x)*f x=1
  zero:∀x,f x=0↔am x=0
section
variable{ts:LL}{R:Type}[CommRing R]{f:Et ts->R}(h:Hm f)
include h
theorem Hm.sub(x y:Et ts):f (x-y)=f x-f y:=by
 rw[show x-y=x+-y by grind,h.add,h.neg];grind
theorem Hm.nul:f 0=0:=by
 have e:=h.add 0 0;rw[show(0:Et ts)+0=0 by grind]at e;grind
theorem Hm.q1:f (qE ((1:Int):Rat))=1:=by rw[kV];exact h.one
theorem Hm.q4:f (qE 4)=4:=by
 have e:(qE 4:Et ts)=1+1+1+1:=by
  have e1:=ph (r:=ax ts) (n:=ts.length) 1 1;have e2:=ph (r:=ax ts) (n:=ts.length) 2 2;rw[show(1:Rat)+1=2 by decide +kernel]at e1;rw[show(2:Rat)+2=4 by decide +kernel,e1]at e2;rw[e2];have e3:(qE 1:Et ts)=1:=rfl;rw[e3];grind
 rw[e,h.add,h.add,h.add,h.one];grind
end
abbrev eJ(ts:LL):Prop:=fc (ax ts) ts.length
theorem OJ{ts:LL}(hp:eJ ts):Hm (ai hp:Et ts->Zq hp) :=
 ⟨fun _ _=>rfl,fun _ _=>rfl,fun _=>rfl,rfl,fun x hx=>xg hp hx,fun x=>fv hp⟩
theorem Mw{ts:LL}(X:Et ts)(hp:eJ (aR ts (sX X))):Hm (fun x:Et ts=>ai hp (aL X x)) :=
  ⟨fun x y => by rw [qz]; rfl, fun x y => by rw [fi]; rfl, fun x => by rw [Jf]; rfl,
   by have e := ns X ((1 : Nat) : Rat)
      have e1:(qE ((1:Nat):Rat):Et ts)=1:=rfl;rw[e1]at e;rw[e];rfl,
   fun x hx=>by rw[ol];exact xg hp (by show am (aL X x)≠0;rw[oy];exact hx),
   fun x=>by rw[fv hp];show am (aL X x)=0↔_;rw[oy]⟩
theorem G3(k:Nat):ae (k+1) (cw k)=(T.zero k,T.ofQ k 1):=by
 have h1:(cw k).take (2^k)=List.replicate (2^k) 0:=by
  unfold cw;rw[List.take_set_of_le (XD _),List.take_replicate];congr 1;have:=Nat.pow_lt_pow_right (a:=2) oz (Nat.lt_succ_self k);omega
 have h2:(cw k).drop (2^k)=(1:Rat)::List.replicate (2^k-1) 0:=by
  unfold cw;rw[List.drop_set,Yk oz,Nat.sub_self,List.drop_replicate]
  have e:2^(k+1)-2^k=(2^k-1)+1:=by
   have h3:0<2^k:=Nat.pow_pos oz;have h4:2^(k+1)=2^k+2^k:=by rw[Nat.pow_succ];omega
   omega
  rw[e,List.replicate_succ,List.set_cons_zero]
 show(ae k _,ae k _)=_;rw[h1,h2]
 have e1:ae k (List.replicate (2^k) (0:Rat))=T.zero k:=by
  rw[<- iW]
  exact ov k (fun i _=>by
   rw[Xy,Xy,X1];split <;> rfl)
 have e2:ae k ((1:Rat)::List.replicate (2^k-1) 0)=T.ofQ k 1:=by
  rw[<- kN]
  exact ov k (fun i _=>by
   cases i with
   |zero=>rfl
   |succ i =>
    rw[Xy,Xy,List.getElem?_cons_succ,X1];split <;> rfl)
 rw[e1,e2]
theorem J0{n N:Nat}(hN:N=n+1){r:(k:Nat)->T k}(x:T n)(hx:r n=x):T.mul r N (ae N (cw n)) (ae N (cw n))=iD x:=by
 subst hN;rw[G3,jS];show(T.add n (T.mul r n (T.zero n) (T.zero n)) (T.mul r n (T.mul r n (T.ofQ n 1) (T.ofQ n 1)) (r n)),T.add n (T.mul r n (T.zero n) (T.ofQ n 1)) (T.mul r n (T.ofQ n 1) (T.zero n)))=_;have L:=mK r n;rw[L.one,L.one,T.zero_mul,T.zero_mul,T.zero_add,L.one,T.zero_add,hx]
theorem Ap{ts:LL}(X:Et ts):bt X*bt X=aL X X:=by
 refine J0 (dJ _ _) X ?_;show ae ts.length ((aR ts (sX X)).getD ts.length [])=X;rw[sk,qM];exact bg _ _
section
variable{R:Type}[CommRing R]
theorem NL{p1 p2 q1 q2 z z2 i t:R}(hi:i*(((p1-q1)*(p1-q1)+(p2-q2)*(p2-q2))+((p1-q1)*(p1-q1)+(p2-q2)*(p2-q2)))=1)
  (ht:t*t=4*(z*((p1-q1)*(p1-q1)+(p2-q2)*(p2-q2)))-((z+((p1-q1)*(p1-q1)+(p2-q2)*(p2-q2)))-z2)*((z+((p1-q1)*(p1-q1)+(p2-q2)*(p2-q2)))-z2))
  {x y:R} (hx:x=p1+((z+((p1-q1)*(p1-q1)+(p2-q2)*(p2-q2)))-z2)*i*(q1-p1)+t*(i*-(q2-p2))) (hy:y=p2+((z+((p1-q1)*(p1-q1)+(p2-q2)*(p2-q2)))-z2)*i*(q2-p2)+t*(i*(q1-p1))) :
  (x-p1)*(x-p1)+(y-p2)*(y-p2)=z/\(x-q1)*(x-q1)+(y-q2)*(y-q2)=z2:=by
 obtain⟨d,hd⟩:∃d,d=(p1-q1)*(p1-q1)+(p2-q2)*(p2-q2):=⟨_,rfl⟩
 rw[<- hd]at hi ht hx hy;obtain⟨a,ha⟩:∃a,a=z+d-z2:=⟨_,rfl⟩
 rw[<- ha]at ht hx hy;have e1:(x-p1)*(x-p1)+(y-p2)*(y-p2)=(a*a+t*t)*(i*i)*d:=by rw[hx,hy,hd];grind
 have e2:(a*a+t*t)*(i*i)*d=z:=by
  rw[ht];have:(a*a+(4*(z*d)-a*a))*(i*i)*d=z*(i*(d+d))*(i*(d+d)):=by grind
  rw[this,hi];grind
 have e3:(x-q1)*(x-q1)+(y-q2)*(y-q2)=((x-p1)*(x-p1)+(y-p2)*(y-p2))-a*(i*(d+d))+d:=by rw[hx,hy,hd];grind
 refine⟨e1.trans e2,?_⟩;rw[e3,e1,e2,hi,ha];grind
theorem RX(e t i S:R):(e+t)*i*S=(e+t)*(i*S):=by grind
theorem Xb(z i S W:R):i*S*z-i*(S*W)+W=z*(i*S)-(i*S)*W+W:=by grind
theorem O4(z W:R):z*1-1*W+W=z:=by grind
theorem Vg(x:R):x*1=x:=by grind
theorem Kz(k e t S:R):k*k*S-(k*e+k*e)=k*(k*S)-(k*e+k*e):=by grind
theorem Q7(e t i:R):(e+t)*i*(e+t)-((e+t)*i*e+(e+t)*i*e)=i*(t*t-e*e):=by grind
theorem VR{p1 p2 q1 q2 c1 c2 z i t k:R}(hi:i*((q1-p1)*(q1-p1)+(q2-p2)*(q2-p2))=1)
  (ht:t*t=((q1-p1)*(q1-p1)+(q2-p2)*(q2-p2))*z-((q1-p1)*(c2-p2)-(q2-p2)*(c1-p1))*((q1-p1)*(c2-p2)-(q2-p2)*(c1-p1)))
  (hk:k=((q1-p1)*(c1-p1)+(q2-p2)*(c2-p2)+t)*i)
  {x y:R} (hx:x=p1+k*(q1-p1)) (hy:y=p2+k*(q2-p2)) :
  (x-c1)*(x-c1)+(y-c2)*(y-c2)=z/\(q1-p1)*(y-p2)-(q2-p2)*(x-p1)=0:=by
 refine⟨?_,by rw[hx,hy];grind⟩;obtain⟨S,hS⟩:∃S,S=(q1-p1)*(q1-p1)+(q2-p2)*(q2-p2):=⟨_,rfl⟩
 obtain⟨e,he⟩:∃e,e=(q1-p1)*(c1-p1)+(q2-p2)*(c2-p2):=⟨_,rfl⟩
 obtain⟨C,hC⟩:∃C,C=(q1-p1)*(c2-p2)-(q2-p2)*(c1-p1):=⟨_,rfl⟩
 obtain⟨W,hW⟩:∃W,W=(c1-p1)*(c1-p1)+(c2-p2)*(c2-p2):=⟨_,rfl⟩
 rw[<- hS]at hi ht;rw[<- he]at hk;rw[<- hC]at ht;have e0:e*e+C*C=S*W:=by rw[he,hC,hS,hW];grind
 have e1:(x-c1)*(x-c1)+(y-c2)*(y-c2)=k*k*S-(k*e+k*e)+W:=by rw[hx,hy,hS,he,hW];grind
 have e2:k*S=e+t:=by rw[hk,RX,hi,Vg]
 have e3:k*k*S-(k*e+k*e)+W=i*(t*t-e*e)+W:=by
  rw[Kz k e t S,e2,hk,Q7]
 rw[e1,e3,ht];have:i*(S*z-C*C-e*e)+W=i*S*z-i*(e*e+C*C)+W:=by grind
 rw[this,e0,Xb,hi,O4]
theorem J7{W1 W2 N hh i t D w1 w2:R}(hD:D=W1*W1+W2*W2)(hi:i*D=1)(ht:t*t=N*D-hh*hh)
  (h1:w1=(t*W1-hh*-W2)*i) (h2:w2=(t*W2-hh*W1)*i):w1*w1+w2*w2=N/\w1*W2-w2*W1=hh:=by
 have e1:w1*w1+w2*w2=(t*t+hh*hh)*(i*D)*i:=by rw[h1,h2,hD];grind
 have e2:w1*W2-w2*W1=hh*(i*D):=by rw[h1,h2,hD];grind
 refine⟨?_,by rw[e2,hi];grind⟩;rw[e1,ht,hi];have:(N*D-hh*hh+hh*hh)*1*i=N*(i*D):=by grind
 rw[this,hi];grind
theorem EY{u1 u2 w1 w2 n i c s:R}(hn:n=u1*u1+u2*u2)(hi:i*n=1)(hc:c=(u1*w1+u2*w2)*i)(hs:s=(u1*w2-u2*w1)*i) :
  (c*u1-s*u2=w1/\s*u1+c*u2=w2)/\(w1*w1+w2*w2=n->c*c+s*s=1):=by
 have e1:c*u1-s*u2=w1*(i*n):=by rw[hc,hs,hn];grind
 have e2:s*u1+c*u2=w2*(i*n):=by rw[hc,hs,hn];grind
 refine⟨⟨by rw[e1,hi];grind,by rw[e2,hi];grind⟩,fun hw=>?_⟩;have e3:c*c+s*s=(w1*w1+w2*w2)*(i*n)*i:=by rw[hc,hs,hn];grind
 rw[e3,hw,hi];rw[show n*1*i=i*n by grind,hi]
end
end Go.Lw
namespace Go.Lw
open Lean.Grind (CommRing)
def ay{ts:LL}(T:LL)(y:Et ts):Et T:=dE T (sX y)
structure Lf(ts T:LL):Prop where
  pos:eJ T
  hm:Hm (fun y:Et ts=>ai pos (ay T y))
  low:∀l:List Rat,l.length<=2^ts.length->ay T (dE ts l)=dE T l
  q:∀q:Rat,ay T (qE q:Et ts)=qE q
  len:ts.length<=T.length
  sg:∀y:Et ts,am (ay T y)=am y
  ad:∀x y:Et ts,ay T (x+y)=ay T x+ay T y
  mu:∀x y:Et ts,ay T (x*y)=ay T x*ay T y
theorem dh{ts:LL}(y:Et ts):ay ts y=y:=bg _ _
theorem nO{ts:LL}(hp:eJ ts):Lf ts ts:=by
 refine⟨hp,?_,fun l _=>dh _,fun q=>dh _,XD _,fun y=>by rw[dh],fun x y=>by rw[dh,dh,dh],fun x y=>by rw[dh,dh,dh]⟩;have e:(fun y:Et ts=>ai hp (ay ts y))=ai hp:=funext fun y=>by rw[dh]
 rw[e];exact OJ hp
theorem Ks{n N:Nat}(hN:N=n+1){l:List Rat}(h:l.length<=2^n):ae N (sh n (ae n l))=ae N l:=by
 subst hN;rw[ip (eQ n _).le,bg,ip h]
theorem rf{ts:LL}(X:Et ts)(hp:eJ (aR ts (sX X))):Lf ts (aR ts (sX X)) :=
 ⟨hp,Mw X hp,fun l h=>Ks (dJ _ _) h,fun q=>ns X q,by rw[dJ];omega,fun y=>oy,fun x y=>qz X x y,fun x y=>fi X x y⟩
structure CirG(ts T:LL)(x:List Rat×List Rat)(p q:P2 ts)(z z2:Et ts):Prop where
  lf:Lf ts T
  c1:am ((dE T x.1-ay T p.1)*(dE T x.1-ay T p.1)+(dE T x.2-ay T p.2)*(dE T x.2-ay T p.2)-ay T z)=0
  c2:am ((dE T x.1-ay T q.1)*(dE T x.1-ay T q.1)+(dE T x.2-ay T q.2)*(dE T x.2-ay T q.2)-ay T z2)=0
section
variable{ts:LL}
theorem FA{R:Type}[CommRing R]{f:Et ts->R}(h:Hm f)(p q:P2 ts):f (aB p q)=(f p.1-f q.1)*(f p.1-f q.1)+(f p.2-f q.2)*(f p.2-f q.2):=by
 show f ((p.1-q.1)*(p.1-q.1)+(p.2-q.2)*(p.2-q.2))=_;rw[h.add,h.mul,h.mul,h.sub,h.sub]
theorem WK{R:Type}[CommRing R]{f:Et ts->R}(h:Hm f)(p q:P2 ts)(z z2:Et ts){D:R}(hD:f (aB p q)=D):f (bn p z q z2)=4*(f z*D)-((f z+D)-f z2)*((f z+D)-f z2):=by
 subst hD;unfold bn;rw[h.sub,h.mul,h.mul,h.mul,h.sub,h.add,h.q4]
theorem Wg{R:Type}[CommRing R]{f:Et ts->R}(h:Hm f){p q:P2 ts}{z z2:Et ts}(hd2:am (aB p q+aB p q)≠0){t:R}(ht:t*t=f (bn p z q z2)){x y:R}
  (hx:x=f (c9 p q z z2).1+t*f (gj p q).1) (hy:y=f (c9 p q z z2).2+t*f (gj p q).2) :
  (x-f p.1)*(x-f p.1)+(y-f p.2)*(y-f p.2)=f z/\(x-f q.1)*(x-f q.1)+(y-f q.2)*(y-f q.2)=f z2:=by
 have d:=FA h p q;have hi:=h.inv _ hd2;rw[h.add,d]at hi;rw[WK h p q z z2 d]at ht;refine NL hi ht ?_ ?_
 ·rw[hx,wI];unfold cP gj;dsimp only;show f (p.1+qE ((1:Int):Rat)*iE (aB p q+aB p q)*(z+aB p q-z2)*(q.1-p.1))+t*f (qE ((1:Int):Rat)*iE (aB p q+aB p q)*(0-(q.2-p.2)))=_;simp only[h.add,h.mul,h.sub,h.q1,h.nul,d];generalize(f p.1-f q.1)*(f p.1-f q.1)+(f p.2-f q.2)*(f p.2-f q.2)=D;generalize f (iE (aB p q+aB p q))=i;clear ht hi hx hy;grind
 ·rw[hy,wI];unfold cP gj;dsimp only;show f (p.2+qE ((1:Int):Rat)*iE (aB p q+aB p q)*(z+aB p q-z2)*(q.2-p.2))+t*f (qE ((1:Int):Rat)*iE (aB p q+aB p q)*(q.1-p.1))=_;simp only[h.add,h.mul,h.sub,h.q1,d];generalize(f p.1-f q.1)*(f p.1-f q.1)+(f p.2-f q.2)*(f p.2-f q.2)=D;generalize f (iE (aB p q+aB p q))=i;clear ht hi hx hy;grind
theorem GG{r:Nat}(tw:Tw ts r){d:Et ts}(hd:am d≠0):am (d+d)≠0:=by
 rw[<- zD,xb tw];exact hd
theorem yK{T:LL}(L:Lf ts T){x:List Rat×List Rat}{p q:P2 ts}{z z2:Et ts}(hd2:am (aB p q+aB p q)≠0){t:Et T}(ht:ai L.pos (t*t)=ai L.pos (ay T (bn p z q z2)))
  (hx:dE T x.1=ay T (c9 p q z z2).1+t*ay T (gj p q).1) (hy:dE T x.2=ay T (c9 p q z z2).2+t*ay T (gj p q).2):CirG ts T x p q z z2:=by
 have g:=Wg L.hm hd2 (t:=ai L.pos t) ht (x:=ai L.pos (dE T x.1)) (y:=ai L.pos (dE T x.2)) (by rw[hx];rfl) (by rw[hy];rfl);refine⟨L,?_,?_⟩
 ·refine(fv L.pos).1 ?_;rw[bR,fZ,bM,bM,bR,bR];have:=g.1;generalize ai L.pos (ay T z)=Z at *;generalize ai L.pos (ay T p.1)=P1 at *;generalize ai L.pos (ay T p.2)=P2 at *;rw[this];grind
 ·refine(fv L.pos).1 ?_;rw[bR,fZ,bM,bM,bR,bR];have:=g.2;rw[this];grind
theorem ek{T:LL}(y:Et T):dE T (sX y)=y:=bg _ _
theorem Pe{r:Nat}(tw:Tw ts r)(hx4:∀X:Et ts,0<am X->eJ (aR ts (sX X))){p q:P2 ts}{z z2:Et ts}(h0:fB p q z z2=0)(hz:0<am z) :
  ∀x∈(dY p q z z2).ps,CirG ts (dY p q z z2).ts x p q z z2:=by
 intro x;unfold fB k9 at h0;unfold dY;split
 ·rename_i hd;rw[Yl hd]at h0;unfold kP;split
  ·intro hx;cases hx
  ·intro hx;cases hx
 ·rename_i hd;have hd2:=GG tw hd;split
  ·intro hx;cases hx
  ·rename_i hn;split
   ·rename_i hX;intro hx;rw[List.mem_singleton.1 hx];have hp:eJ ts:=tw.pos;refine yK (nO hp) hd2 (t:=0) ?_ ?_ ?_
    ·refine((fv hp).2 ?_).trans ((fv hp).2 ?_).symm
     ·rw[show(0:Et ts)*0=0 by grind];exact(ep _ _ hp).zero
     ·rw[dh];exact hX
    ·rw[dh,dh,ek];grind
    ·rw[dh,dh,ek];grind
   ·rename_i hX;have hX1:0 < am (bn p z q z2):=by omega
    have hp:=hx4 _ hX1;intro hx;have L:=rf (bn p z q z2) hp;have e:=Ap (bn p z q z2);rcases List.mem_cons.1 hx with rfl |hx
    ·refine yK L hd2 (t := bt (bn p z q z2)) (by rw [e]; rfl) ?_ ?_
     ·rw[ek];exact congrArg Prod.fst (tZ (bn p z q z2) (c9 p q z z2) p q)
     ·rw[ek];exact congrArg Prod.snd (tZ (bn p z q z2) (c9 p q z z2) p q)
    ·rw [List.mem_singleton.1 hx];refine yK L hd2 (t:=-bt (bn p z q z2)) (by rw [show -bt (bn p z q z2) * -bt (bn p z q z2) = bt (bn p z q z2) * bt (bn p z q z2) by grind,e]; rfl) ?_ ?_
     ·rw[ek,congrArg Prod.fst (we (bn p z q z2) (c9 p q z z2) p q)];show aL _ _-_*aL _ _=aL _ _+-_*aL _ _;grind
     ·rw[ek,congrArg Prod.snd (we (bn p z q z2) (c9 p q z z2) p q)];show aL _ _-_*aL _ _=aL _ _+-_*aL _ _;grind
structure LinG(ts T:LL)(x:List Rat×List Rat)(p q c:P2 ts)(z:Et ts):Prop where
  lf:Lf ts T
  c:am ((dE T x.1-ay T c.1)*(dE T x.1-ay T c.1)+(dE T x.2-ay T c.2)*(dE T x.2-ay T c.2)-ay T z)=0
  l:am ((ay T q.1-ay T p.1)*(dE T x.2-ay T p.2)-(ay T q.2-ay T p.2)*(dE T x.1-ay T p.1))=0
theorem KA{R:Type}[CommRing R]{f:Et ts->R}(h:Hm f){p q c:P2 ts}{z:Et ts}(hd:am (bi p q)≠0){t:R}(ht:t*t=f (aU p q c z)){x y:R}
  (hx:x=f (cP p (bE p q c*iE (bi p q)) (aQ q p)).1+t*f (f0 p q).1) (hy:y=f (cP p (bE p q c*iE (bi p q)) (aQ q p)).2+t*f (f0 p q).2) :
  (x-f c.1)*(x-f c.1)+(y-f c.2)*(y-f c.2)=f z/\(f q.1-f p.1)*(y-f p.2)-(f q.2-f p.2)*(x-f p.1)=0:=by
 have hi:=h.inv _ hd
 have eS:f (bi p q)=(f q.1-f p.1)*(f q.1-f p.1)+(f q.2-f p.2)*(f q.2-f p.2):=by
  show f ((q.1-p.1)*(q.1-p.1)+(q.2-p.2)*(q.2-p.2))=_;simp only[h.add,h.mul,h.sub]
 have eE:f (bE p q c)=(f q.1-f p.1)*(f c.1-f p.1)+(f q.2-f p.2)*(f c.2-f p.2):=by
  show f ((q.1-p.1)*(c.1-p.1)+(q.2-p.2)*(c.2-p.2))=_;simp only[h.add,h.mul,h.sub]
 have eC:f (ib p q c)=(f q.1-f p.1)*(f c.2-f p.2)-(f q.2-f p.2)*(f c.1-f p.1):=by
  show f ((q.1-p.1)*(c.2-p.2)-(q.2-p.2)*(c.1-p.1))=_;simp only[h.mul,h.sub]
 have eX:f (aU p q c z)=f (bi p q)*f z-f (ib p q c)*f (ib p q c):=by
  show f (bi p q*z-ib p q c*ib p q c)=_;simp only[h.mul,h.sub]
 rw[eX,eC,eS]at ht;rw[eS]at hi;refine VR hi ht (k:=(f (bE p q c)+t)*f (iE (bi p q))) (by rw[eE]) ?_ ?_
 ·rw[hx];unfold cP f0;show f (p.1+bE p q c*iE (bi p q)*(q.1-p.1))+t*f (qE ((1:Int):Rat)*iE (bi p q)*(q.1-p.1))=_;simp only[h.add,h.mul,h.sub,h.q1];generalize f (iE (bi p q))=i;generalize f (bE p q c)=e;clear ht hi hx hy eS eE eC eX;grind
 ·rw[hy];unfold cP f0;show f (p.2+bE p q c*iE (bi p q)*(q.2-p.2))+t*f (qE ((1:Int):Rat)*iE (bi p q)*(q.2-p.2))=_;simp only[h.add,h.mul,h.sub,h.q1];generalize f (iE (bi p q))=i;generalize f (bE p q c)=e;clear ht hi hx hy eS eE eC eX;grind
theorem B8{T:LL}(L:Lf ts T){x:List Rat×List Rat}{p q c:P2 ts}{z:Et ts}(hd:am (bi p q)≠0){t:Et T}(ht:ai L.pos (t*t)=ai L.pos (ay T (aU p q c z)))
  (hx:dE T x.1=ay T (cP p (bE p q c*iE (bi p q)) (aQ q p)).1+t*ay T (f0 p q).1) (hy:dE T x.2=ay T (cP p (bE p q c*iE (bi p q)) (aQ q p)).2+t*ay T (f0 p q).2):LinG ts T x p q c z:=by
 have g:=KA L.hm hd (t:=ai L.pos t) ht (x:=ai L.pos (dE T x.1)) (y:=ai L.pos (dE T x.2)) (by rw[hx];rfl) (by rw[hy];rfl);refine⟨L,?_,?_⟩
 ·refine(fv L.pos).1 ?_;rw[bR,fZ,bM,bM,bR,bR];have:=g.1;rw[this];grind
 ·refine(fv L.pos).1 ?_;rw[bR,bM,bM,bR,bR,bR,bR];exact g.2
theorem VS{r:Nat}(tw:Tw ts r)(hx4:∀X:Et ts,0<am X->eJ (aR ts (sX X))){p q c:P2 ts}{z:Et ts}(h0:fJ p q=0) :
  ∀x∈(dZ p q c z).ps,LinG ts (dZ p q c z).ts x p q c z:=by
 intro x;unfold fJ at h0;unfold dZ;split
 ·intro hx;cases hx
 ·rename_i hd;split
  ·intro hx;cases hx
  ·rename_i hn;split
   ·rename_i hX;intro hx;rw[List.mem_singleton.1 hx];have hp:eJ ts:=tw.pos;refine B8 (nO hp) hd (t:=0) ?_ ?_ ?_
    ·refine((fv hp).2 ?_).trans ((fv hp).2 ?_).symm
     ·rw[show(0:Et ts)*0=0 by grind];exact(ep _ _ hp).zero
     ·rw[dh];exact hX
    ·rw[dh,dh,ek];grind
    ·rw[dh,dh,ek];grind
   ·rename_i hX
    have hX1:0<am (aU p q c z):=by
     rcases(ep _ _ tw.pos).cs (aU p q c z)with g |g |g
     ·exact absurd g hn
     ·exact absurd g hX
     ·show 0<sg _ _ _;rw[g];decide
    have hp:=hx4 _ hX1;intro hx;have L:=rf (aU p q c z) hp;have e:=Ap (aU p q c z);rcases List.mem_cons.1 hx with rfl |hx
    ·refine B8 L hd (t := bt (aU p q c z)) (by rw [e]; rfl) ?_ ?_
     ·rw[ek];exact congrArg Prod.fst (uE (aU p q c z) p q c)
     ·rw[ek];exact congrArg Prod.snd (uE (aU p q c z) p q c)
    ·rw [List.mem_singleton.1 hx];refine B8 L hd (t:=-bt (aU p q c z)) (by rw [show -bt (aU p q c z) * -bt (aU p q c z) = bt (aU p q c z) * bt (aU p q c z) by grind,e]; rfl) ?_ ?_
     ·rw[ek,congrArg Prod.fst (xI (aU p q c z) p q c)];show aL _ _-_*aL _ _=aL _ _+-_*aL _ _;grind
     ·rw[ek,congrArg Prod.snd (xI (aU p q c z) p q c)];show aL _ _-_*aL _ _=aL _ _+-_*aL _ _;grind
end
end Go.Lw
