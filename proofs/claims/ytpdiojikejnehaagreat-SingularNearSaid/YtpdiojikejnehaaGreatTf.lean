/- SingularNear: for any linkage and any turns the law returns true and leaves its arguments as they were. No other condition. Part 6 of 8: what the later parts need -/
import Derived.Test.YtpdiojikejnehaaGreatTe
import Derived.Laws.Cover3
set_option linter.unusedVariables false
open List (mem_append nil_append map_nil map_map)
open List renaming mem_of_getElem? → WU, map_cons → XH, mem_cons → Xu, length_cons → W9, length_append → Xo, length_nil → Xi, getD_eq_getElem?_getD → WV, getElem?_append_left → Xe, getElem?_append_right → Xd, getElem?_replicate → Xq, map_append → Xl, length_take → Xh, take_length → Xg, not_mem_nil → Xf, length_map → WW
open Nat renaming le_refl → WZ, lt_or_ge → W3, le_trans → Xj, zero_le → W7, pow_add → XA
open Int renaming toNat_natCast → Xk
open Go.Proofs.Tryz
namespace Go.Lw
open Go.Proofs
abbrev Sa(l:Li)(g:Gr)(a:As):List AV:=[.v (.string l.name),.lst 2 (l.bo.map Bd.av),.lst 7 (l.jo.map Jt.av),.lst 2 (l.dv.map Dr.av),i64 g.kind,.lst 1 (g.bo.map i64),.lst 1 (g.jo.map i64),i64 g.driver,
  .lst 1 (a.rs.map nR),.lst 4 (a.bs.map Pl.av),.lst 1 (a.ms.map i64),.v .nilIface]
abbrev cf(l:Li)(g:Gr)(a:As):Blk:=.box (Sa l g a)
def re(e:Nat):AV:=if e=0 then .ptr 900 0 else .v (.pointer none)
def G6(e:Nat)(l:Li)(g:Gr)(a:As):Hp:=if e=0 then[(900,some (cf l g a))]else[]
theorem k8{e:Nat}(h:e≠0):re e=.v (.pointer none):=XJ h
theorem ra{e:Nat}{l:Li}{g:Gr}{a:As}(h:e≠0):G6 e l g a=[]:=XJ h
theorem I6(l:Li)(g:Gr):cF l g true=fJ l g++g.bo:=rfl
theorem GG(l:Li)(g:Gr):cF l g false=fJ l g:=by unfold cF;simp
theorem Lq{rs:List (List Rt)}{b:Pl}{i:Nat}{x:List Rt}(h:bF rs=0)(hx:b.l[i]?=some x)(hb:∀y∈b.l.take i,cH rs.length y=0)(hn:cH rs.length x≠0):bQ rs b.l=cH rs.length x:=E5 h hx hb hn
theorem MI{l:Li}{g:Gr}{a:As}{own:Bool}{j:Nat}{b:Int}(hb:(eM (cF l g own))[j]?=some b)(hj:∀c∈(eM (cF l g own)).take j,gL a c=0)(hn:gL a b≠0):eL ((eM (cF l g own)).map (gL a))=gL a b:=by
 have h1:eM (cF l g own)=(eM (cF l g own)).take j++b::(eM (cF l g own)).drop (j+1):=by
  obtain⟨hi,e⟩:=List.getElem?_eq_some_iff.1 hb;rw[<- e,<- List.drop_eq_getElem_cons hi,List.take_append_drop]
 generalize eM (cF l g own)=xs at *;rw[h1,Xl,sT _ _ (pN hj),XH,Ei,XK hn]
theorem DU(l:Li)(hl:l.ok)(k:Int)(a:As)(al:AB a)(own:Bool) :
  Con prog 63 [l.av,i64 k,a.av,bl own] [] (.tup [re (fH l k a own),bq (fH l k a own)]) (G6 (fH l k a own) l (ik l k) a):=by
 have hbl:=al.bl;refine gF func63 (fun k z h=>by cases h) ?_;refine gc (xM l hl) ?_;refine gC (fun t27=>?_) (fun t27=>?_)
 ·have h1:=dl t27;refine gR ?_;rw[K8 rfl h1,k8 h1,ra h1];exact kQ rfl
 have h1:=cZ t27;obtain⟨hli,hsp⟩:=Dc h1;rw[show(if aG l=0 then splitG l else[])=splitG l from XK hli];have hbs:=(cU hli).2.2.2.1;have hgl:=(qB hli).2;have hsg:splitG l=findG l:=by unfold splitG;rw[XK hsp]
 refine cD ?_;refine gC (fun t36=>?_) (fun t36=>?_)
 ·have h2:=DY t36;have he:fH l k a own=9:=(qS hli).trans (VD hsp h2);refine gR ?_;rw[he,k8 (by decide),ra (by decide)];exact kQ rfl
 have h2:=OT t36;refine gl ?_;refine gl ?_;refine gC (fun t44=>?_) (fun t44=>?_)
 ·have h3:=AE t44;have he:fH l k a own=10:=(qS hli).trans (LT hsp h2 h3);refine gR ?_;rw[he,k8 (by decide),ra (by decide)];exact kQ rfl
 have h3:=zw t44;refine gc (qG a.rs 400000000 al.tr) ?_;refine gC (fun t50=>?_) (fun t50=>?_)
 ·have h4:=dl t50;refine gR ?_;rw[(qS hli).trans (Oq hsp h2 h3 h4),k8 h4,ra h4];exact kQ rfl
 have h4:=cZ t50;obtain⟨i,rfl,hi⟩:=QX h2;obtain⟨g,hg⟩:=ax hi;obtain⟨hgd,hgo⟩:=jK hli (WU hg);have hgA:ik l (i:Nat)=g:=au hg;rw[hgA];have he5:fH l (i:Nat) a own=eL ((eM (cF l g own)).map (gL a)):=by rw[<- hgA];exact(qS hli).trans (D4 hsp h2 h3 h4)
 have hnl:(cF l g own).length<=5:=So hgo;have hgb:=hgo.lb;have hgj:=hgo.lj;refine gi (aI hg) ?_;refine gt (aE (PZ l hl hli g hgo) (bD rfl rfl) aH rfl rfl) ?_;refine gD ?_;refine gC (fun t62=>?_) (fun t62=>?_) (st1:=(13,0));cases t62;refine B2 [1,4,6,10] [4,6] [(13,some (.ms 900 1 0 (cF l g own).length))] [(900,some (.row 1 ((cF l g own).map i64)))] (True) ?_ ?_
 ·intro K1 J1;refine gC (fun t64=>?_) (fun t64=>?_)
  ·have ho:own=true:=t64;subst ho;refine gi (aI hg) ?_;refine gs (cO (.tmp rfl) rfl (by rw[WW,q6]) (.tmp rfl) T39 rfl T3 rfl rfl (by simp only[WW];omega) rfl rfl) ?_;exact oA J1 trivial (hw:=(Wk.of (sl:=[(1,some (i64 i)),(4,some (.ptr 4 0)),(6,some (.ptr 6 0)),(10,some (.lst 4 ((splitG l).map Gr.av))),(13,some (.ms 71 1 0 (cF l g true).length))]) (hp:=[(4,some (.box l.av.cells)),(6,some (.box a.av.cells)),(71,some (.row 1 ((cF l g true).map i64)))]) (.k (.k (.k (.k (.cons rfl (Sub.of (by rw[I6,Xo,q6,WW])) .nil))))) (.k (.k (.cons rfl (BlkSub.of (by rw[I6,Xl])) .nil)))).trans<|(Wk.rk (k:=71) (d:=900) rfl rfl).trans<|Wk.o)
  have ho:own=false:=t64;subst ho;exact oA J1 trivial (hw:=Wk.of (.cons rfl (Sub.of (by rw[GG,q6])) (.k (.k (.k (.k .nil))))) (.cons rfl (BlkSub.of (by rw[GG])) (.k (.k .nil))))
 rintro -;refine gt (aE (Con.rk 900 rfl rfl (Lc (cF l g own) oz)) (cC rfl) aH rfl rfl) ?_ (17,0);refine gW ((Wk.freeze (k:=900) rfl).trans<|Wk.of (sl:=[(1,some (i64 i)),(4,some (.ptr 4 0)),(6,some (.ptr 6 0)),(10,some (.lst 4 ((splitG l).map Gr.av))),(13,some (.lst 1 ((eM (cF l g own)).map i64)))]) (hp:=[(4,some (.box l.av.cells)),(6,some (.box a.av.cells))]) (.k (.k (.k (.k (.cons rfl (Sub.of (bV (by rw[WW,C9]))) .nil))))) (.k (.k .nil))) ?_;refine gl ?_;refine aZ [1,4,6,10,74,75] [4,6] (fun(j:Nat)=>[(76,some (i64 j))]) (fun _=>[]) (fun j=>j<=(eM (cF l g own)).length/\∀b∈(eM (cF l g own)).take j,gL a b=0) (fun j=>(eM (cF l g own)).length-j) 0 ⟨W7 _,fun b hb=>by simp at hb⟩ ?_;rintro j ⟨hj,hjz⟩ K2 J2;refine gC (fun t77=>?_) (fun t77=>?_)
 ·have hjn:=a6 t77;obtain ⟨b,hb⟩:=ax hjn;have hbm:=yz.1 (WU hb);have hbr:=v8 hli hgo b hbm;have hsl:(eM (cF l g own)).length <= 5:=by rw [C9]; exact hnl
  refine gi (aI hb) ?_;refine gC (fun t81=>?_) (fun t81=>?_)
  ·have hz : gL a b = 0 := by unfold gL; rw [XK (by simpa [aa] using t81)]
   refine ga aO ?_;exact aP J2 (j+1) ⟨hjn,fun c hc=>by rw[eA hb]at hc;rcases List.mem_append.1 hc with h9 |h9;exact hjz c h9;(rw[List.mem_singleton.1 h9];exact hz)⟩
  have hb0:0<=b:=by have:=of_decide_eq_false (p:=b<0) t81;omega
  obtain⟨p,hp⟩:=ax (l:=a.bs) (i:=b.toNat) oz;have hpn:=al.nr p (WU hp);have hnd:gL a b=bQ a.rs p.l:=by unfold gL;rw[XJ oz,au hp]
  refine gi (f0 (n:=b.toNat) oz hp) ?_;refine ge rfl ?_;refine aZ [1,4,6,10,74,75,76,95,96] [4,6] (fun(q:Nat)=>[(97,some (i64 q))]) (fun _=>[]) (fun q=>q<=4/\∀x∈p.l.take q,cH a.rs.length x=0) (fun q=>4-q) 0 ⟨W7 _,fun x hx=>by simp at hx⟩ ?_;rintro q ⟨hq,hqz⟩ K3 J3;refine gC (fun t98=>?_) (fun t98=>?_)
  ·have hqn:q<4:=a6 (b:=4) t98;obtain⟨x,hx⟩:∃x,p.l[q]?=some x:=ax (show q<p.l.length from hqn);have hxn:=hpn x (WU hx);have hone:bQ a.rs [x]=cH a.rs.length x:=Wo h4;refine gi (aI hx) ?_;refine gc (ES a.rs 400000000 al.tr x 50000000000 hxn (UC _)) ?_;refine gC (fun t109=>?_) (fun t109=>?_)
   ·have h5:=dl t109;rw [hone] at h5 ⊢;have h6:gL a b = cH a.rs.length x:=hnd.trans (Lq h4 hx hqz h5);have h7:fH l (i:Nat) a own = cH a.rs.length x:=by rw [he5,MI hb hjz (by rw [h6]; exact h5),h6]
    refine gR ?_;rw[h7,k8 h5,ra h5];exact kQ rfl
   have h5:=cZ t109;rw[hone]at h5;refine ga aO ?_;exact aP J3 (q+1) ⟨hqn,fun z hz=>by rw[eA hx]at hz;rcases List.mem_append.1 hz with h9 |h9;exact hqz z h9;(rw[List.mem_singleton.1 h9];exact h5)⟩
  have hqn:q=4:=bi (b:=4) hq t98;subst hqn;have hqz:∀x∈p.l,cH a.rs.length x=0:=hqz;refine ga aO ?_;exact aP J2 (j+1) ⟨hjn,fun c hc=>by rw[eA hb]at hc;rcases List.mem_append.1 hc with h9 |h9;exact hjz c h9;(rw[List.mem_singleton.1 h9,hnd];exact vQ h4 hqz)⟩
 have hjn:=bi hj t77
 have h8:fH l (i:Nat) a own=0:=by
  rw[he5];exact pN (fun b hb=>hjz b (by rw[hjn,Xg];exact hb))
 refine gi (aI hg) ?_;refine gD ?_ (77777,0);refine gW (Wk.o (sl:=[(8,some (.ptr 120 0)),(9,some (.v .nilIface))]) (hp:=[(120,some (cf l g a))])) ?_ (77777,0);refine gW (Wk.rk (k:=120) (d:=900) rfl rfl) ?_;refine gR ?_;rw[h8];exact az.keep (bm rfl)
theorem xI{ts:LL}{r e:Nat}(tw:Tw ts r){a b c d:List Rat}(ha:Nm ts.length e a)(hb:Nm ts.length e b)(hc:Nm ts.length e c)(hd:Nm ts.length e d)(he:2*e<=lm ts.length) :
  FP 76 [aV ts,aM a b,aM c d] (.tup [aM (sh ts.length (subT ts (ae ts.length a) (ae ts.length c))) (sh ts.length (subT ts (ae ts.length b) (ae ts.length d))),.v .nilIface]):=by
 refine aj func76 ?_;refine gc (mI (e:=e) tw [(a,b),(c,d)] (by simp only[Xu,Xf,or_false];rintro p (rfl |rfl);exact⟨ha,hb⟩;exact⟨hc,hd⟩) oz (by simp)) ?_;refine gC (fun t16=>?_) (fun t16=>?_) (st1:=(3,0));cases t16;refine gt (aE (Con.rB 21 rfl rfl rfl rfl (pj tw ha hb hc hd he)) (aJ rfl rfl rfl) aH rfl rfl) ?_;refine gt (aE (Con.rB 21 rfl rfl rfl rfl (xh _ _ _)) (bD rfl rfl) aH rfl rfl) ?_;refine br ?_;rfl
theorem Ar{ts:LL}{r e:Nat}(tw:Tw ts r){a b c d:List Rat}(ha:Nm ts.length e a)(hb:Nm ts.length e b)(hc:Nm ts.length e c)(hd:Nm ts.length e d)(he:2*(e+e+kB r ts.length)<=lm ts.length) :
  FP 77 [aV ts,aM a b,aM c d] (.tup [nA (sh ts.length (mM ts (ae ts.length a) (ae ts.length b) (ae ts.length c) (ae ts.length d))),.v .nilIface]):=by
 refine aj func77 ?_;refine gc (Con.sA (.cons (.refl _) (.cons (.refl _) (.cons (.refl _) (.cons (Sub.fn0 _) .nil)))) (IF tw ha hb hc hd oz _ _ (Fs tw ha hb hc hd he))) ?_;refine br ?_
 first |rfl |(simp;done)
section
variable{ts:LL}{u k:Nat}{a b a2 b2:List Rat}{x y x2 y2:Et ts}{w v w' v' w2 v2 w3 v3:Nat}
theorem Qt [c : Ct ts u k] [ha : Zl ts u k a x w v] [hb : Zl ts u k b y w' v'] [ha2 : Zl ts u k a2 x2 w2 v2] [hb2 : Zl ts u k b2 y2 w3 v3] (h : w + v + (w' + v') + (w2 + v2 + (w3 + v3)) <= 2500 := by decide) :
  FP 76 [aV ts,aM a b,aM a2 b2] (.tup [aM (sX (x-x2)) (sX (y-y2)),.v .nilIface]):=by
 obtain⟨R,tw,hk⟩:=c.ex;have h0:=Dn c hk;have h1:=xI (e:=2500*1000000) tw (ha.up c oz) (hb.up c oz) (ha2.up c oz) (hb2.up c oz) oz;rw[ha.eq,hb.eq,ha2.eq,hb2.eq]at h1;exact h1
end
variable{P:Program}{N:Nat}{R:Array Oper}{s:AS}{pos:String}{after:Array Edge}
theorem aW{d f k:Nat}{bx:Blk}{args:Array Operand}{ts:Array TypeId}{xs:List AV}{r:AV}{t:TypeId}
  (hcon:Con P f xs [(k,some bx)] r [(k,some bx)]) (ha:EvL s args.toList xs) (hk:s.blk k=some bx) (hok:iM s [(k,some bx)] [(k,some bx)] r=true) (hN:Nat.blt d N=true) :
  Step P N R s ⟨some d,.call ⟨.value (.func f),args,ts⟩,t,pos,after,none⟩ ⟨some r,[],eJ args.toList,[k]⟩:=by
 refine Step.weaken (aE (d:=d) hcon ha (fun k' z h=>by
  obtain⟨rfl,h9⟩:=fC h;cases h9;exact hk) hok hN) (fun s' h=>h) (fun s' h k' hk'=>?_) (fun s' h=>?_)
 ·left;simp only[Xl,dj,XH,map_nil,mem_append,Xu,Xf,or_false]at hk' ⊢;rcases hk' with h9 |h9 <;> exact h9
 ·intro C m a w hr;refine⟨m,hr.weak (fun t x hx=>⟨x,hx,.refl _⟩) (fun k' x hx=>⟨x,?_,.refl _⟩)⟩;have hb:lk s'.hp k=some bx:=(h.2 k (List.mem_singleton.2 rfl)).trans hk;show lk ([(k,some bx)]++dj [(k,some bx)]++s'.hp) k'=some x;have hx':lk s'.hp k'=some x:=hx;simp only[dj,XH,map_nil,List.cons_append,nil_append,aT]
  by_cases e:k'=k
  ·rw[XK e];rw[e,hb]at hx';exact hx'
  ·rw[XJ e,XJ e];exact hx'
theorem mH{k1 k2 k':Nat}{x y:Option Blk}{z:Blk}(h:lk [(k1,x),(k2,y)] k'=some z):(k'=k1/\x=some z)\/(k'≠k1/\k'=k2/\y=some z):=by
 rw[aT]at h
 by_cases e:k'=k1
 ·rw[XK e]at h;exact .inl ⟨e,h⟩
 ·rw[XJ e]at h;obtain⟨h1,h2⟩:=fC h;exact .inr ⟨e,h1,h2⟩
theorem mY{k1 k2:Nat}{x y:Option Blk}:lk [(k1,x),(k2,y)] k1=x:=by rw[aT,XK rfl]
theorem mK{k1 k2:Nat}{x y:Option Blk}(h:k1≠k2):lk [(k1,x),(k2,y)] k2=y:=by rw[aT,XJ (fun e=>h e.symm),aT,XK rfl]
theorem EZ{k1 k2:Nat}(hne:k1≠k2){x y:Blk}{m:Nat->Option Nat}{b:Nat}:a9 [(k1,some x),(k2,some y)] m b↔m k1=some b\/m k2=some b:=by
 constructor
 ·rintro⟨k',z,hz,hb⟩;rcases mH hz with⟨e,_⟩ |⟨_,e,_⟩
  ·exact .inl (e▸hb)
  ·exact .inr (e▸hb)
 ·rintro(h |h)
  ·exact⟨k1,x,mY,h⟩
  ·exact⟨k2,y,mK hne,h⟩
theorem EO{k1 k2 d1 d2:Nat}(hk:k1≠k2)(hd:d1≠d2){x y x' y':Blk}{m m2:Nat->Option Nat}(h1:m2 d1=m k1)(h2:m2 d2=m k2):a9 [(d1,some x'),(d2,some y')] m2=a9 [(k1,some x),(k2,some y)] m:=by
 funext b;apply propext;rw[EZ hk,EZ hd,h1,h2]
theorem yd{ext:Nat->Prop}{k1 k2 d1 d2:Nat}(hk:k1≠k2)(hd:d1≠d2){x y x' y':Blk}{m m2:Nat->Option Nat}{w:World}(h1:m2 d1=m k1)(h2:m2 d2=m k2):Im ext [(d1,some x'),(d2,some y')] m2 w=Im ext [(k1,some x),(k2,some y)] m w:=by
 funext b cs;simp only[Im,EO hk hd (x:=x) (y:=y) (x':=x') (y':=y') h1 h2]
theorem F2{ext:Nat->Prop}{k1 k2 d1 d2:Nat}(hk:k1≠k2)(hd:d1≠d2){x y:Blk}{m m2:Nat->Option Nat}{w:World}(hx:x.nm=[])(hy:y.nm=[])(h1:m2 d1=m k1)(h2:m2 d2=m k2)
  (hr:HeapRel ext [(k1,some x),(k2,some y)] m w):HeapRel ext [(d1,some x),(d2,some y)] m2 w:=by
 refine⟨?_,?_,?_⟩
 ·intro k' z hz;rw[yd hk hd (x:=x) (y:=y) h1 h2];rcases mH hz with⟨rfl,h9⟩ |⟨_,rfl,h9⟩
  ·cases h9;exact BlkRep.mono (w:=w) (fun _ _ h=>h) (fun _ _ h=>h) (fun _ _ hn=>(A6 hx hn).elim) h1 (fun _ _=>rfl) (hr.blk k1 _ mY)
  ·cases h9;exact BlkRep.mono (w:=w) (fun _ _ h=>h) (fun _ _ h=>h) (fun _ _ hn=>(A6 hy hn).elim) h2 (fun _ _=>rfl) (hr.blk k2 _ (mK hk))
 ·intro k k' z z' b hz hz' hb hb';rcases mH hz with⟨rfl,_⟩ |⟨_,rfl,_⟩ <;> rcases mH hz' with⟨rfl,_⟩ |⟨_,rfl,_⟩
  ·rfl
  ·exact absurd (hr.inj k1 k2 _ _ b mY (mK hk) (h1▸hb) (h2▸hb')) hk
  ·exact absurd (hr.inj k1 k2 _ _ b mY (mK hk) (h1▸hb') (h2▸hb)) hk
  ·rfl
 ·intro k' z b hz hb;rcases mH hz with⟨rfl,h9⟩ |⟨_,rfl,h9⟩
  ·exact hr.sep k1 _ b mY (h1▸hb)
  ·exact hr.sep k2 _ b (mK hk) (h2▸hb)
theorem Con.rekeyBB{P:Program}{f:FuncId}{k1 k2 o1 o2:Nat}{x y x' y':Blk}{xs:List AV}{r:AV}(d1 d2:Nat)(hk:k1≠k2)(hd:d1≠d2)(hx:x.nm=[])(hy:y.nm=[])(hx':x'.nm=[])(hy':y'.nm=[])(hxs:(xs.all fun x=>x.nm.isEmpty)=true)(hr:r.nm=[])
  (h:Con P f (.ptr k1 o1 :: .ptr k2 o2::xs) [(k1,some x),(k2,some y)] r [(k1,some x'),(k2,some y')]):Con P f (.ptr d1 o1 :: .ptr d2 o2::xs) [(d1,some x),(d2,some y)] r [(d1,some x'),(d2,some y')]:=by
 refine⟨h.ok,?_⟩;intro ext m w vs hext hheap hvs hrep;obtain⟨m2,e1,e2⟩:∃m2:Nat->Option Nat,m2 k1=m d1/\m2 k2=m d2:=⟨fun k=>if k=k1 then m d1 else m d2,XK rfl,XJ (fun e=>hk e.symm)⟩
 have h1 := h.ret ext m2 w vs hext (F2 hd hk hx hy e1 e2 hheap) (by simpa using hvs) (by
  intro j v z hv hz;rw[yd hd hk (x:=x) (y:=y) e1 e2]
  match j,hz with
  |0,hz =>
   cases hz;have h2:=hrep 0 v _ hv rfl;cases h2 with
   |ptr hm=>exact .ptr (e1.trans hm)
  |1,hz =>
   cases hz;have h2:=hrep 1 v _ hv rfl;cases h2 with
   |ptr hm=>exact .ptr (e2.trans hm)
  |j+2,hz =>
   have h2:=hrep (j+2) v z hv hz;refine iK ?_ h2;have:=List.all_eq_true.1 hxs z (WU hz);simpa using this)
 refine Calls.mono h1 ?_;rintro e w' ⟨v,m',rfl,hf,hh,hn,hkp,hrr⟩;have ho:=EO hd hk (x:=x) (y:=y) (x':=x) (y':=y) e1 e2;obtain⟨m3,f1,f2⟩:∃m3:Nat->Option Nat,m3 d1=m' k1/\m3 d2=m' k2:=⟨fun k=>if k=d1 then m' k1 else m' k2,XK rfl,XJ (fun e=>hd e.symm)⟩
 refine⟨v,m3,rfl,ho▸hf,F2 hk hd hx' hy' f1 f2 hh,?_,?_,?_⟩
 ·intro k' z b hz hb;rw[<- ho];rcases mH hz with⟨rfl,_⟩ |⟨_,rfl,_⟩
  ·exact hn k1 _ b mY (f1▸hb)
  ·exact hn k2 _ b (mK hk) (f2▸hb)
 ·intro k' z z' hz hz';rcases mH hz with⟨rfl,_⟩ |⟨_,rfl,_⟩
  ·rw[f1,<- e1];exact hkp k1 _ _ mY mY
  ·rw[f2,<- e2];exact hkp k2 _ _ (mK hk) (mK hk)
 ·rw[yd hk hd (x:=x') (y:=y') f1 f2];exact iK hr hrr
end Go.Lw
namespace Go.Lw
open Go.Proofs
theorem GO{l:Li}{body pt:Int}{n k:Nat}{bd:Bd}{m:Mk}(h:MkP l body pt n k bd m):qP (aQ l body pt)=.agg [bl m.x.neg,ws m.x.num,ws m.x.den,bl m.y.neg,ws m.y.num,ws m.y.den]:=by
 rw[h.ex,h.ey]
theorem oS{p q:Rat×Rat}{e f:Nat}(hp:Sm e p)(hq:Sm f q)(he:e<=1000000)(hf:f<=1000000):FP 156 [qP p,qP q] (qP (cg p q)):=by
 refine aj func156 ?_;refine gc (vI (hp.x.qs oz) (hq.x.qs oz)) ?_;refine gc (vI (hp.y.qs oz) (hq.y.qs oz)) ?_;refine gD ?_;refine af ?_
 first |rfl |(simp;done)
theorem HN{p q:Rat×Rat}{e f:Nat}(hp:Sm e p)(hq:Sm f q)(he:e<=1000000)(hf:f<=1000000):FP 261 [qP p,qP q] (qA (bW p q)):=by
 refine aj func261 ?_;refine gc (rX (hp.x.qs oz) (hq.x.qs oz)) ?_;refine gc (rX (hp.y.qs oz) (hq.y.qs oz)) ?_;refine gc (ym ((hp.x.mul hq.x).qs oz) ((hp.y.mul hq.y).qs oz)) ?_;refine gD ?_;refine af ?_
 first |rfl |(simp;done)
theorem Ru{p q:Rat×Rat}{e f:Nat}(hp:Sm e p)(hq:Sm f q)(he:e<=1000000)(hf:f<=1000000):FP 178 [qP p,qP q] (qA (zH p q)):=by
 refine aj func178 ?_;refine gc (rX (hp.x.qs oz) (hq.y.qs oz)) ?_;refine gc (rX (hp.y.qs oz) (hq.x.qs oz)) ?_;refine gc (vI ((hp.x.mul hq.y).qs oz) ((hp.y.mul hq.x).qs oz)) ?_;refine gD ?_;refine af ?_
 first |rfl |(simp;done)
theorem Cc{p:Rat×Rat}{e:Nat}(hp:Sm e p)(he:e<=1000000):FP 169 [qP p] (nA (sh 0 (bW p p:Rat))):=by
 refine aj func169 ?_;refine gc (HN hp hp he he) ?_;refine gc (mg ((hp.dot hp).qs oz)) ?_;refine af ?_
 first |rfl |(simp;done)
theorem Uu:FP 69 [] (nA (sh 0 ((1:Int):Rat))):=by
 refine aj func69 ?_;refine gc (kv 1 oz) ?_;refine gc (mg (rO oz)) ?_;refine af ?_
 first |rfl |(simp;done)
theorem mL{l:Li}(hl:l.ok)(hli:aG l=0)(g:Gr)(a:As){body pt:Int}(h1:bt body l.bo.length=true)(h2:bt pt (cE l body).length=true) :
  Con prog 170 [.ptr 1000 0,i64 body,i64 pt] [(1000,some (cf l g a))] (qP (aQ l body pt)) [(1000,some (cf l g a))]:=by
 obtain⟨n,k,bd,m,mp⟩:=oP hl hli h1 h2;rw[GO mp];have hn:=mp.hn;have hk:=mp.hk;have hlb:=hl.lb;subst hn;subst hk;refine gF func170 (fun k z h=>bG h) ?_;refine gi (aI mp.gbd) ?_;refine gi (aI mp.gm) ?_;refine gR ?_;exact az.keep (bm rfl)
theorem oE{E:Nat}{l:Li}(hl:l.ok)(hli:aG l=0)(g:Gr){a:As}(al:AB a)(hc:bF a.rs=0){body pt:Int}(h1:bt body l.bo.length=true)(h2:bt pt (cE l body).length=true)(hE:E<=20000000000)(h3:(llq a.rs).length<=2)(hb:Pd E a body) :
  Con prog 91 [.ptr 1000 0,i64 body,i64 pt] [(1000,some (cf l g a))] (aM (sX (ba l a body pt).1) (sX (ba l a body pt).2)) [(1000,some (cf l g a))]:=by
 obtain⟨n,k,bd,m,b,hp⟩:=qf hl hli al hc h1 h2 hb;obtain⟨tw,hta⟩:=de al.tr hc
 have kb:kB 400000000 (llq a.rs).length<=1200000006:=by
  have h9:=gO 400000000 h3;have h8:eB 400000000 2=1200000006:=by decide
  show eB 400000000 _<=_;omega
 have hlm:lm (llq a.rs).length=200000000000:=by unfold lm;rw[XK h3]
 have hlb:=hl.lb;have hbl:=al.bl;have hmk:=mL hl hli g a h1 h2;show Con prog _ _ _ (aM (sh (llq a.rs).length (sQ l a body pt).1) (sh (llq a.rs).length (sQ l a body pt).2)) _;rw[hp.eq];have hn:=hp.mp.hn;rw[GO hp.mp]at hmk
 have hat:FP 89 [dB a.rs,b.av,m.x.av,m.y.av] (.tup [aM (sh (llq a.rs).length (oH (llq a.rs) b m).1) (sh (llq a.rs).length (oH (llq a.rs) b m).2),.v .nilIface]):=by
  rw[hta,hp.av,hp.mp.ex,hp.mp.ey];have h9:=uP tw (hp.ok.c.mono (f:=E+1000) oz) (hp.ok.s.mono oz) (hp.ok.x.mono oz) (hp.ok.y.mono oz) (hp.mp.sm.x.mono (f:=E+1000) oz) (hp.mp.sm.y.mono (f:=E+1000) oz) oz;unfold oH;rw[hp.mp.ex,hp.mp.ey,co,co];exact h9
 refine gF func91 (fun k z h=>bG h) ?_;refine gt (aE hmk (aJ rfl rfl rfl) aH rfl rfl) ?_;refine gi (f0 (n:=n) hn hp.gb) ?_;refine gc hat ?_;refine gD ?_;refine gC (fun t39=>?_) (fun t39=>?_) (st2:=(77777,0))
 ·refine gR ?_;exact az.keep (bm rfl)
 cases t39
theorem sR{E:Nat}(hE:E<=20000000000){l:Li}(hl:l.ok)(hli:aG l=0)(g:Gr)(hg:GrOk l g){a:As}(al:AB a)(hc:bF a.rs=0){k:Nat}{z b:Int}{j:Jt}(hz:g.jo[k]?=some z)(hj:l.jo[z.toNat]?=some j)(h3:(llq a.rs).length<=2)(h:PinP E l a j b) :
  Con prog 150 [.ptr 1000 0,i64 k,i64 b] [(1000,some (cf l g a))] (.tup [qP (ao l j b),aM (sX (aC l a j b).1) (sX (aC l a j b).2)]) [(1000,some (cf l g a))]:=by
 obtain⟨z0,z1⟩:=hg.j z (WU hz);obtain⟨i1,i2,i3,i4,_⟩:=cA hli hj;have hgj:=hg.lj;have hlj:=hl.lj;refine gF func150 (fun k z h=>bG h) ?_;refine gi (aI hz) ?_;refine gi (f0 (n:=z.toNat) oz hj) ?_;refine gD ?_;refine gC (fun t27=>?_) (fun t27=>?_)
 ·have e:j.a = b:=cK t27;have hb:Pd E a j.b:=by rcases h.tie with h9 | h9; exact h9.2; exact absurd e h9.1
  have eq1:ao l j b=aQ l b j.point:=XK e;have eq2:aC l a j b=ba l a j.b j.on:=XK e;rw[eq1,eq2];subst e;refine gt (aE (mL hl hli g a i1 i3) (aJ rfl rfl rfl) aH rfl rfl) ?_;refine gt (aE (oE hl hli g al hc i2 i4 hE h3 hb) (aJ rfl rfl rfl) aH rfl rfl) ?_;refine gD ?_;refine gR ?_;exact az.keep (bm rfl)
 have e:j.a≠b:=dq t27;have e2:j.b=b/\Pd E a j.a:=by rcases h.tie with h9 |h9;exact absurd h9.1 e;exact h9.2
 have eq1:ao l j b=aQ l b j.on:=XJ e;have eq2:aC l a j b=ba l a j.a j.point:=XJ e;rw[eq1,eq2];obtain⟨e2,hb⟩:=e2;subst e2;refine gt (aE (mL hl hli g a i2 i4) (aJ rfl rfl rfl) aH rfl rfl) ?_;refine gt (aE (oE hl hli g al hc i1 i3 hE h3 hb) (aJ rfl rfl rfl) aH rfl rfl) ?_;refine gD ?_;refine gR ?_;exact az.keep (bm rfl)
theorem CK{l:Li}(hl:l.ok)(hli:aG l=0)(g:Gr)(hg:GrOk l g)(a:As){z b:Int}{j:Jt}(hz:g.jo[2]?=some z)(hj:l.jo[z.toNat]?=some j)(h:j.a=b\/j.b=b) :
  Con prog 166 [.ptr 1000 0,i64 b] [(1000,some (cf l g a))] (qP (ao l j b)) [(1000,some (cf l g a))]:=by
 obtain⟨z0,z1⟩:=hg.j z (WU hz);obtain⟨i1,i2,i3,i4,_⟩:=cA hli hj;have hgj:=hg.lj;have hlj:=hl.lj;have h2:=(List.getElem?_eq_some_iff.1 hz).1;refine gF func166 (fun k z h=>bG h) ?_;refine gi (aI hz) ?_;refine gi (f0 (n:=z.toNat) oz hj) ?_;refine gD ?_;refine gC (fun t23=>?_) (fun t23=>?_)
 ·have e:j.a=b:=cK t23;have eq1:ao l j b=aQ l b j.point:=XK e;rw[eq1];subst e;refine gt (aE (mL hl hli g a i1 i3) (aJ rfl rfl rfl) aH rfl rfl) ?_;refine gR ?_;exact az.keep (bm rfl)
 have e:j.a≠b:=dq t23;have e2:j.b=b:=by rcases h with h9 |h9;exact absurd h9 e;exact h9
 have eq1:ao l j b=aQ l b j.on:=XJ e;rw[eq1];subst e2;refine gt (aE (mL hl hli g a i2 i4) (aJ rfl rfl rfl) aH rfl rfl) ?_;refine gR ?_;exact az.keep (bm rfl)
theorem Ap{l:Li}(hl:l.ok)(g:Gr)(hg:GrOk l g)(a:As){z:Int}{j:Jt}(hz:g.jo[1]?=some z)(hj:l.jo[z.toNat]?=some j) :
  Con prog 90 [.ptr 1000 0] [(1000,some (cf l g a))] j.av [(1000,some (cf l g a))]:=by
 obtain⟨z0,z1⟩:=hg.j z (WU hz);have hgj:=hg.lj;have hlj:=hl.lj;have h2:=(List.getElem?_eq_some_iff.1 hz).1;refine gF func90 (fun k z h=>bG h) ?_;refine gi (aI hz) ?_;refine gi (f0 (n:=z.toNat) oz hj) ?_;refine gD ?_;refine gR ?_;exact az.keep (bm rfl)
abbrev O2{ts:LL}(p:Rat×Rat)(at_:Et ts×Et ts)(c:Rat×Rat):List AV :=
  [bl (rt p.1).neg,ws (rt p.1).num,ws (rt p.1).den,bl (rt p.2).neg,ws (rt p.2).num,ws (rt p.2).den,nA (sX at_.1),nA (sX at_.2),bl (rt c.1).neg,ws (rt c.1).num,ws (rt c.1).den,bl (rt c.2).neg,ws (rt c.2).num,ws (rt c.2).den]
abbrev uN{ts:LL}(p:Rat×Rat)(at_:Et ts×Et ts)(c:Rat×Rat):AV:=.agg (O2 p at_ c)
abbrev Nv{ts:LL}(p:Rat×Rat)(at_:Et ts×Et ts)(c:Rat×Rat):AV:=.agg [nA (sX at_.1),nA (sX at_.2),nA (sh 0 (bE c p:Rat))]
theorem yj{ts:LL}{p c:Rat×Rat}(hp:Sm 1000 p)(hc:Sm 1000 c)(at_:Et ts×Et ts):FP 73 [uN p at_ c] (Nv p at_ c):=by
 refine aj func73 ?_;refine gc (oS hc hp oz oz) ?_;refine gc (Cc (hc.sub hp) oz) ?_;refine gD ?_;refine af ?_
 first |rfl |(simp;done)
theorem Iz{E:Nat}{l:Li}(hl:l.ok)(hli:aG l=0){a:As}(al:AB a)(hc:bF a.rs=0)(h3:(llq a.rs).length<=2){i k z0 z1 z2:Int}{j0 j1 j2:Jt}(hg:GrOk l ⟨1,[i,k],[z0,z1,z2],0⟩)
  (h0:l.jo[z0.toNat]?=some j0) (h1:l.jo[z1.toNat]?=some j1) (h2:l.jo[z2.toNat]?=some j2) (p0:PinP E l a j0 i) (p1:PinP E l a j1 k) (t1:j2.a=i\/j2.b=i) (t2:j2.a=k\/j2.b=k) (hE:E<=20000000000:=by omega) :
  Con prog 70 [.ptr 1000 0] [(1000,some (cf l ⟨1,[i,k],[z0,z1,z2],0⟩ a))] (.tup [uN (ao l j0 i) (aC l a j0 i) (ao l j2 i),uN (ao l j1 k) (aC l a j1 k) (ao l j2 k)]) [(1000,some (cf l ⟨1,[i,k],[z0,z1,z2],0⟩ a))]:=by
 refine gF func70 (fun k z h=>bG h) ?_;refine gi (rfl) ?_;refine gi (rfl) ?_;refine gD ?_;refine gt (aE (sR oz hl hli _ hg al hc (k:=0) rfl h0 h3 p0) (.cons (.tmp rfl) (.cons (.const _) (cC rfl))) aH rfl rfl) ?_;refine gt (aE (sR oz hl hli _ hg al hc (k:=1) rfl h1 h3 p1) (.cons (.tmp rfl) (.cons (.const _) (cC rfl))) aH rfl rfl) ?_;refine gt (aE (CK hl hli _ hg a rfl h2 t1) (bD rfl rfl) aH rfl rfl) ?_;refine gt (aE (CK hl hli _ hg a rfl h2 t2) (bD rfl rfl) aH rfl rfl) ?_;refine gD ?_;refine gR ?_;exact az.keep (bm rfl)
theorem HS{E:Nat}{l:Li}(hl:l.ok)(hli:aG l=0){a:As}(al:AB a)(hc:bF a.rs=0)(h3:(llq a.rs).length<=2){i z0 z1:Int}{j0 j1:Jt}(hg:GrOk l ⟨2,[i],[z0,z1],0⟩)
  (h0:l.jo[z0.toNat]?=some j0) (h1:l.jo[z1.toNat]?=some j1) (p0:PinP E l a j0 i) (ha:j1.a=i) (hk:j1.kind≠0) (hb:Pd E a j1.b) (hE:E<=20000000000:=by omega) :
  Con prog 74 [.ptr 1000 0] [(1000,some (cf l ⟨2,[i],[z0,z1],0⟩ a))] (.tup [uN (ao l j0 i) (aC l a j0 i) (aQ l i j1.point),aM (sX (ba l a j1.b j1.on).1) (sX (ba l a j1.b j1.on).2),aM (sX (ba l a j1.b j1.to).1) (sX (ba l a j1.b j1.to).2)]) [(1000,some (cf l ⟨2,[i],[z0,z1],0⟩ a))]:=by
 obtain⟨i1,i2,i3,i4,i5⟩:=cA hli h1;rw[ha]at i1 i3;refine gF func74 (fun k z h=>bG h) ?_;refine gi (rfl) ?_;refine gt (aW (Ap hl _ hg a rfl h1) (cC rfl) rfl rfl rfl) ?_;refine gD ?_;refine gt (aE (sR oz hl hli _ hg al hc (k:=0) rfl h0 h3 p0) (.cons (.tmp rfl) (.cons (.const _) (cC rfl))) aH rfl rfl) ?_;refine gt (aE (mL hl hli _ a i1 i3) (aJ rfl rfl rfl) aH rfl rfl) ?_;refine gt (aE (oE hl hli _ al hc i2 i4 oz h3 hb) (aJ rfl rfl rfl) aH rfl rfl) ?_;refine gt (aE (oE hl hli _ al hc i2 (i5 hk) oz h3 hb) (aJ rfl rfl rfl) aH rfl rfl) ?_;refine gD ?_;refine gR ?_;exact az.keep (bm rfl)
structure Vr where
  w:List Rt
  x:List Rt
  y:List Rt
instance:Inhabited Vr:=⟨⟨[],[],[]⟩⟩
def Vr.av(v:Vr):AV:=.agg [nR v.w,nR v.x,nR v.y]
def Vr.l(v:Vr):List (List Rt):=[v.w,v.x,v.y]
abbrev dw(rs:List (List Rt)):Blk:=.box [.lst 1 (rs.map nR),.v .nilIface]
theorem nV(rs:List (List Rt))(a:List Rat):Con prog 71 [.ptr 1000 0,nA a,.v .nilIface] [(1000,some (dw rs))] (nA a) [(1000,some (dw rs))]:=by
 refine gF func71 (fun k z h=>bG h) ?_;refine gC (fun t11=>?_) (fun t11=>?_) (st2:=(77777,0))
 ·refine gR ?_;exact az.keep (bm rfl)
 cases t11
theorem lZ(rs:List (List Rt))(a b:List Rat):Con prog 75 [.ptr 1000 0,aM a b,.v .nilIface] [(1000,some (dw rs))] (aM a b) [(1000,some (dw rs))]:=by
 refine gF func75 (fun k z h=>bG h) ?_;refine gC (fun t11=>?_) (fun t11=>?_) (st2:=(77777,0))
 ·refine gR ?_;exact az.keep (bm rfl)
 cases t11
section
variable{rs:List (List Rt)}{r u k:Nat}{a b:List Rat}{x y:Et (llq rs)}{w v w' v':Nat}
theorem Fz (h : TR rs r) (hc : bF rs = 0) [c0 : Ct (llq rs) u k] [ha : Zl (llq rs) u k a x w v] [hb : Zl (llq rs) u k b y w' v'] (hs : w + v + (w' + v') <= 10000 := by decide) :
  Con prog 79 [.ptr 1000 0,nA a,nA b] [(1000,some (dw rs))] (nA (sX (x*y))) [(1000,some (dw rs))]:=by
 have hx:=CX (ha:=ha) (hb:=hb) hs;rw[lg h hc]at hx;refine gF func79 (fun k z h=>bG h) ?_;refine gc hx ?_;refine gt (aE (nV _ _) (aJ rfl rfl rfl) aH rfl rfl) ?_;refine gR ?_;exact az.keep (bm rfl)
theorem U6 (h : TR rs r) (hc : bF rs = 0) [c0 : Ct (llq rs) u k] [ha : Zl (llq rs) u k a x w v] [hb : Zl (llq rs) u k b y w' v'] (hs : w + v + (w' + v') <= 10000 := by decide) :
  Con prog 78 [.ptr 1000 0,nA a,nA b] [(1000,some (dw rs))] (nA (sX (x-y))) [(1000,some (dw rs))]:=by
 have hx:=Gi (ha:=ha) (hb:=hb) hs;rw[lg h hc]at hx;refine gF func78 (fun k z h=>bG h) ?_;refine gc hx ?_;refine gt (aE (nV _ _) (aJ rfl rfl rfl) aH rfl rfl) ?_;refine gR ?_;exact az.keep (bm rfl)
end
structure DyW(l:Li)(a:As):Prop where
  hl:l.ok
  li:aG l=0
  al:AB a
  hc:bF a.rs=0
structure DyR(l:Li)(a:As):Prop extends DyW l a where
  s:DyS a
theorem DyR.two{l:Li}{a:As}(D:DyR l a):(llq a.rs).length<=2:=Xj (D.s.one D.hc) oz
theorem Ac{n:Nat}(hn:n<=1):kB 64990 n<=65000:=by
 have h1:=gO 64990 hn;have h2:eB 64990 1=64992:=by simp only[eB]
 show eB 64990 _<=_;omega
theorem oX{n:Nat}(h3:n<=2):kB 400000000 n<=1200000006:=by
 have h9:=gO 400000000 h3;have h8:eB 400000000 2=1200000006:=by decide
 show eB 400000000 _<=_;omega
abbrev ue(l:Li)(a:As)(i:Int)(j0 j:Jt):List AV :=
  qC (ao l j0 i)++([nA (sX (aC l a j0 i).1),nA (sX (aC l a j0 i).2)]++(qC (cw l i j)++[nA (sh 0 (cq l i j0 j:Rat)),nA (sh 0 (iD l i j:Rat)),nA (sX (cc l a i j0 j)),nA (sX (bS l a i j0 j).1),nA (sX (bS l a i j0 j).2)]))
theorem Cp{l:Li}{a:As}(D:DyR l a){n:Nat}{i:Int}{j0 j:Jt}(h0:l.jo[n]?=some j0)(p0:PinP 3900000 l a j0 i){m:Nat}(h1:l.jo[m]?=some j)(hb:Pd 3900000 a j.a) :
  Zu 310000 65000 (bS l a i j0 j).1 80 81/\Zu 310000 65000 (bS l a i j0 j).2 80 81:=by
 obtain⟨i1,i2,i3,i4,_⟩:=cA D.li h1;obtain⟨z1,z2⟩:=l8 D.hl D.li D.al D.s D.hc h0 p0;obtain⟨y1,y2⟩:=nI D.hl D.li D.al D.s D.hc i1 i3 hb;haveI c:=D.s.ct D.hc;haveI:=z1;haveI:=z2;haveI:=y1;haveI:=y2
 exact⟨(inferInstance:Zu 310000 65000 ((ba l a j.a j.point).1-(aC l a j0 i).1) _ _),(inferInstance:Zu 310000 65000 ((ba l a j.a j.point).2-(aC l a j0 i).2) _ _)⟩
theorem GN{E:Nat}(hE:E<=20000000000){l:Li}{a:As}(D:DyW l a)(h3:(llq a.rs).length<=2){i z0 z1:Int}{j0 j:Jt}(hg:GrOk l ⟨3,[i],[z0,z1],0⟩)
  (h0:l.jo[z0.toNat]?=some j0) (h1:l.jo[z1.toNat]?=some j) (p0:PinP E l a j0 i) (hi:j.b=i) (hk:j.kind≠0) (hb:Pd E a j.a)
  (hsub:FP 76 [.agg [.lst 1 (a.rs.map nR)],aM (sX (ba l a j.a j.point).1) (sX (ba l a j.a j.point).2),aM (sX (aC l a j0 i).1) (sX (aC l a j0 i).2)] (.tup [aM (sX (bS l a i j0 j).1) (sX (bS l a i j0 j).2),.v .nilIface]))
  (hdot:FP 80 [.agg [.lst 1 (a.rs.map nR)],aM (sX (bS l a i j0 j).1) (sX (bS l a i j0 j).2),aM (sX (bS l a i j0 j).1) (sX (bS l a i j0 j).2)] (.tup [nA (sX (cc l a i j0 j)),.v .nilIface])) :
  Con prog 81 [.ptr 1000 0,.ptr 1001 0] [(1000,some (cf l ⟨3,[i],[z0,z1],0⟩ a)),(1001,some (dw a.rs))] (.agg (ue l a i j0 j)) [(1000,some (cf l ⟨3,[i],[z0,z1],0⟩ a)),(1001,some (dw a.rs))]:=by
 obtain⟨i1,i2,i3,i4,i5⟩:=cA D.li h1;have hs0:Sm 1000 (ao l j0 i):=fQ D.hl D.li h0 (by rcases p0.tie with h9 |h9;exact .inl h9.1;exact .inr h9.2.1);subst hi;have hs1:=jw D.hl D.li i2 i4;have hs2:=jw D.hl D.li i2 (i5 hk);have hv:=hs2.sub hs1;refine gF func81 (fun k z h=>Td h) ?_;refine gi (rfl) ?_;refine gt (aW (Ap D.hl _ hg a rfl h1) (cC rfl) rfl rfl rfl) ?_;refine gD ?_;refine gt (aE (sR hE D.hl D.li _ hg D.al D.hc (k:=0) rfl h0 h3 p0) (.cons (.tmp rfl) (.cons (.const _) (cC rfl))) aH rfl rfl) ?_;refine gt (aW (mL D.hl D.li _ a i2 i4) (aJ rfl rfl rfl) rfl rfl rfl) ?_;refine gt (aW (mL D.hl D.li _ a i2 (i5 hk)) (aJ rfl rfl rfl) rfl rfl rfl) ?_;refine gc (oS hs2 hs1 oz oz) ?_;refine gD ?_;refine gc (oS hs1 hs0 oz oz) ?_;refine gc (Ru hv (hs1.sub hs0) oz oz) ?_;refine gc (mg ((hv.cross (hs1.sub hs0)).qs oz)) ?_;refine gc (Cc hv oz) ?_;refine gD ?_;refine gt (aE (oE D.hl D.li _ D.al D.hc i1 i3 hE h3 hb) (aJ rfl rfl rfl) aH rfl rfl) ?_;refine gC (fun t63=>?_) (fun t63=>?_) (st2:=(77777,0))
 ·refine gc hsub ?_;refine gt (aE (Con.rB 1001 rfl rfl rfl rfl (lZ _ _ _)) (aJ rfl rfl rfl) aH rfl rfl) ?_;refine gD ?_;refine gc hdot ?_;refine gt (aE (Con.rB 1001 rfl rfl rfl rfl (nV _ _)) (aJ rfl rfl rfl) aH rfl rfl) ?_;refine gD ?_;refine gR ?_;exact az.keep (l7 rfl rfl)
 cases t63
theorem RQ{l:Li}{a:As}(D:DyR l a){i z0 z1:Int}{j0 j:Jt}(hg:GrOk l ⟨3,[i],[z0,z1],0⟩)
  (h0:l.jo[z0.toNat]?=some j0) (h1:l.jo[z1.toNat]?=some j) (p0:PinP 3900000 l a j0 i) (hi:j.b=i) (hk:j.kind≠0) (hb:Pd 3900000 a j.a) :
  Con prog 81 [.ptr 1000 0,.ptr 1001 0] [(1000,some (cf l ⟨3,[i],[z0,z1],0⟩ a)),(1001,some (dw a.rs))] (.agg (ue l a i j0 j)) [(1000,some (cf l ⟨3,[i],[z0,z1],0⟩ a)),(1001,some (dw a.rs))]:=by
 obtain⟨i1,i2,i3,i4,i5⟩:=cA D.li h1;obtain⟨z1',z2'⟩:=l8 D.hl D.li D.al D.s D.hc h0 p0;obtain⟨y1,y2⟩:=nI D.hl D.li D.al D.s D.hc i1 i3 hb;obtain⟨w1,w2⟩:=Cp D h0 p0 h1 hb;haveI c:=D.s.ct D.hc;haveI:=z1';haveI:=z2';haveI:=y1;haveI:=y2;haveI:=w1;haveI:=w2
 have hsub:=Qt (ts:=llq a.rs) (u:=310000) (k:=65000) (a:=sX (ba l a j.a j.point).1) (b:=sX (ba l a j.a j.point).2) (a2:=sX (aC l a j0 i).1) (b2:=sX (aC l a j0 i).2);have hdot:=Ni (ts:=llq a.rs) (u:=310000) (k:=65000) (a:=sX (bS l a i j0 j).1) (b:=sX (bS l a i j0 j).2) (a2:=sX (bS l a i j0 j).1) (b2:=sX (bS l a i j0 j).2);rw[lg D.s.tr D.hc]at hsub hdot;exact GN oz D.toDyW D.two hg h0 h1 p0 hi hk hb hsub hdot
theorem OZ{l:Li}{a:As}(D:DyR l a){i:Int}{j0 j:Jt}{w v:Nat}[z1:Zl (llq a.rs) 310000 65000 (sh 0 (cq l i j0 j:Rat)) (qE (cq l i j0 j)) 3 0][z2:Zl (llq a.rs) 310000 65000 (sh 0 (iD l i j:Rat)) (qE (iD l i j)) 3 0][z3:Zu 310000 65000 (cc l a i j0 j) w v](hw:w+v<=2000) :
  Con prog 82 [.agg (ue l a i j0 j),.ptr 1001 0] [(1001,some (dw a.rs))] (nA (sX (qE (iD l i j)*cc l a i j0 j-qE (cq l i j0 j)*qE (cq l i j0 j)))) [(1001,some (dw a.rs))]:=by
 haveI c:=D.s.ct D.hc;haveI:=z1.zu;haveI:=z2.zu
 have m1:=Fz (a:=sh 0 (iD l i j:Rat)) (b:=sX (cc l a i j0 j)) D.s.tr D.hc oz;have m2:=Fz (a:=sh 0 (cq l i j0 j:Rat)) (b:=sh 0 (cq l i j0 j:Rat)) D.s.tr D.hc oz;have m3:=U6 (a:=sX (qE (iD l i j)*cc l a i j0 j)) (b:=sX (qE (cq l i j0 j)*qE (cq l i j0 j):Et (llq a.rs))) D.s.tr D.hc oz;refine gF func82 (fun k z h=>by have:=(fC h).1;omega) ?_;refine gt (aE (Con.rB 1001 rfl rfl rfl rfl m1) (aJ rfl rfl rfl) aH rfl rfl) ?_;refine gt (aE (Con.rB 1001 rfl rfl rfl rfl m2) (aJ rfl rfl rfl) aH rfl rfl) ?_;refine gt (aE (Con.rB 1001 rfl rfl rfl rfl m3) (aJ rfl rfl rfl) aH rfl rfl) ?_;refine gD ?_;refine gR ?_;exact az.keep (bm rfl)
abbrev Ci:Type:=List Rat×List Rat×List Rat
abbrev Fo(c:Ci):AV:=.agg [nA c.1,nA c.2.1,nA c.2.2]
structure CiZ(rs:List (List Rt))(c:Ci):Prop where
  x:Nm (llq rs).length 2500000000 c.1
  y:Nm (llq rs).length 2500000000 c.2.1
  r:Nm (llq rs).length 2500000000 c.2.2
  sg:0<=ak (dE (llq rs) c.2.2)
theorem Pi{ts:LL}(p q:Et ts×Et ts):dotE (q.1-p.1) (q.2-p.2) (q.1-p.1) (q.2-p.2)=aB p q:=by
 unfold aB dK aR dotE;dsimp only;grind
theorem E6{ts:LL}(c:Ct ts 310000 65000){x y x2 y2:Et ts}(h1:Zu 310000 65000 x 40 40)(h2:Zu 310000 65000 y 40 40)(h3:Zu 310000 65000 x2 40 40)(h4:Zu 310000 65000 y2 40 40):Zu 310000 65000 (aB (x,y) (x2,y2)) 320 327:=by
 haveI:=c;haveI:=h1;haveI:=h2;haveI:=h3;haveI:=h4
 exact(inferInstance:Zu 310000 65000 (dotE (x-x2) (y-y2) (x-x2) (y-y2)) _ _)
section
variable{rs:List (List Rt)}{r:Nat}{a b c a2 b2 c2:List Rat}
theorem I2(h:TR rs r)(hc:bF rs=0){e:Nat}(ha:Nm (llq rs).length e a)(hb:Nm (llq rs).length e b)(he:e<=lm (llq rs).length):FP 273 [dB rs,aM a b] (.v .nilIface):=by
 obtain⟨tw,etw⟩:=de h hc;have hca:=mI tw [(a,b)] (fun p hp=>by rw[List.mem_singleton.1 hp];exact⟨ha,hb⟩) he (by show 1<=500;omega);rw[<- etw]at hca;refine aj func273 ?_;refine gc hca ?_;refine af ?_;rfl
theorem Ix(h:TR rs r)(hc:bF rs=0){e:Nat}(ha:Nm (llq rs).length e a)(hb:Nm (llq rs).length e b)(hn:Nm (llq rs).length e c)(he:e+1<=lm (llq rs).length):FP 272 [dB rs,.agg [nA a,nA b,nA c]] (.v .nilIface):=by
 obtain⟨tw,etw⟩:=de h hc;have hneg:=zP tw hn oz;rw[<- etw]at hneg;refine aj func272 ?_;refine gc (I2 h hc ha hb oz) ?_;refine gC (fun t13=>?_) (fun t13=>?_) (st1:=(3,0));cases t13;refine gc hneg ?_;refine af ?_;rfl
theorem EL(h:TR rs r)(hc:bF rs=0)(cs:List Ci)(hz:∀c∈cs,CiZ rs c)(hl:cs.length<=100):FP 274 [dB rs,.lst 3 (cs.map Fo)] (.v .nilIface):=by
 obtain⟨tw,etw⟩:=de h hc;have hlm:=jY (llq rs).length;refine aj func274 ?_;refine gl ?_;refine aZ [2,9,10] [2] (fun(i:Nat)=>[(11,some (i64 i))]) (fun _=>[]) (fun i=>i<=cs.length) (fun i=>cs.length-i) 0 (W7 _) ?_;rintro i hi K1 J1;refine gC (fun t12=>?_) (fun t12=>?_)
 ·have hin:=a6 t12;obtain⟨z,hzi⟩:=ax hin;have hz9:=hz z (WU hzi);have hs:=qR tw hz9.r oz;rw[<- etw]at hs;refine gi (aI hzi) ?_;refine gc hs ?_;refine gC (fun t23=>?_) (fun t23=>?_) (st1:=(6,0));cases t23;refine gC (fun t26=>?_) (fun t26=>?_) (st1:=(8,0));exact absurd t26 (by have h9:=hz9.sg;unfold ak dE at h9;simp only[aa,decide_eq_true_eq];omega);refine ga aO ?_;exact aP J1 (i+1) hin
 refine af ?_;rfl
theorem J7(h:TR rs r)(hc:bF rs=0)(cs:List Ci)(hz:∀c∈cs,CiZ rs c)(hl:cs.length<=100):FP 167 [dB rs,.lst 3 (cs.map Fo)] (.v .nilIface):=by
 have hlm:=jY (llq rs).length;have hck:=qG rs r h;rw[hc]at hck;refine aj func167 ?_;refine gc hck ?_;refine gC (fun t12=>?_) (fun t12=>?_) (st1:=(3,0));cases t12;refine gl ?_;refine aZ [1,2,14,15] [2] (fun(i:Nat)=>[(16,some (i64 i))]) (fun _=>[]) (fun i=>i<=cs.length) (fun i=>cs.length-i) 0 (W7 _) ?_;rintro i hi K1 J1;refine gC (fun t17=>?_) (fun t17=>?_)
 ·have hin:=a6 t17;obtain⟨z,hzi⟩:=ax hin;have hz9:=hz z (WU hzi);refine gi (aI hzi) ?_;refine gc (Ix h hc hz9.x hz9.y hz9.r oz) ?_;refine gC (fun t24=>?_) (fun t24=>?_) (st1:=(9,0));cases t24;refine ga aO ?_;exact aP J1 (i+1) hin
 refine gc (EL h hc cs hz hl) ?_;refine af ?_;rfl
theorem LA(h:TR rs r)(hc:bF rs=0){x y x2 y2:Et (llq rs)}[c0:Ct (llq rs) 310000 65000][i1:Zl (llq rs) 310000 65000 a x 40 40][i2:Zl (llq rs) 310000 65000 b y 40 40][i4:Zl (llq rs) 310000 65000 a2 x2 40 40][i5:Zl (llq rs) 310000 65000 b2 y2 40 40] :
  FP 282 [dB rs,aM a b,aM a2 b2] (.tup [nA (sX (aB (x,y) (x2,y2))),.v .nilIface]):=by
 obtain⟨_,etw⟩:=de h hc;obtain⟨R,tw,hk⟩:=c0.ex;have kk:=c0.kk hk;obtain⟨K,hK⟩:∃K,40*310000+40*65000=K:=⟨_,rfl⟩
 have hlm:=jY (llq rs).length;have n1:=i1.nm;have n2:=i2.nm;have n4:=i4.nm;have n5:=i5.nm
 have hca:=mI tw [(a,b),(a2,b2)] (e:=40*310000+40*65000) (fun p hp=>by
  simp only[Xu,Xf,or_false]at hp;rcases hp with rfl |rfl
  ·exact⟨n1,n2⟩
  ·exact⟨n4,n5⟩) oz (by show 2<=500;omega)
 rw[<- etw]at hca;have hle:=pj tw n4 n5 n1 n2 oz;have m1:=n4.sub n1;have m2:=n5.sub n2;have hdo:=zO tw m1 m2 m1 m2 oz;rw[i1.eq,i2.eq,i4.eq,i5.eq]at hle;rw[i1.eq,i2.eq,i4.eq,i5.eq,bf,bf]at hdo;have hd2:=Pi (x,y) (x2,y2);refine aj func282 ?_;refine gc hca ?_;refine gC (fun t17=>?_) (fun t17=>?_) (st1:=(3,0)) (st2:=(5,0));cases t17;refine gW (Wk.of (sl:=[(4,some (.ptr 4 0)),(5,some (.ptr 5 0)),(9,some (.ptr 21 0))]) (hp:=[(4,some (.box [nA a,nA b])),(5,some (.box [nA a2,nA b2])),(21,some (.box [.lst 1 ((llq rs).map nA),.v .nilIface]))]) a8 (.k (.k (.cons rfl (BlkSub.bL (.cons (.of (nG etw)) (.cons (.refl _) .nil)) rfl) .nil)))) ?_;refine gt (aE (Con.rB 21 rfl rfl rfl rfl hle) (aJ rfl rfl rfl) aH rfl rfl) ?_;refine gt (aE (Con.rB 21 rfl rfl rfl rfl hdo) (aJ rfl rfl rfl) aH rfl rfl) ?_;refine gt (aE (Con.rB 21 rfl rfl rfl rfl (vh _ _)) (bD rfl rfl) aH rfl rfl) ?_;refine br ?_;rw[<- hd2];rfl
theorem tJ(rs:List (List Rt))(a:List Rat):Con prog 275 [.ptr 1000 0,nA a,.v .nilIface] [(1000,some (dw rs))] (nA a) [(1000,some (dw rs))]:=by
 refine gF func275 (fun k z h=>bG h) ?_;refine gC (fun t11=>?_) (fun t11=>?_) (st2:=(77777,0))
 ·refine gR ?_;exact az.keep (bm rfl)
 cases t11
end
section
variable{rs:List (List Rt)}{r u k:Nat}{a b:List Rat}{x y:Et (llq rs)}{w v w' v':Nat}
theorem WM (h : TR rs r) (hc : bF rs = 0) [c0 : Ct (llq rs) u k] [ha : Zl (llq rs) u k a x w v] [hb : Zl (llq rs) u k b y w' v'] (hs : w + v + (w' + v') <= 10000 := by decide) :
  Con prog 270 [.ptr 1000 0,nA a,nA b] [(1000,some (dw rs))] (nA (sX (x+y))) [(1000,some (dw rs))]:=by
 have hx:=N5 (ha:=ha) (hb:=hb) hs;rw[lg h hc]at hx;refine gF func270 (fun k z h=>bG h) ?_;refine gc hx ?_;refine gt (aE (tJ _ _) (aJ rfl rfl rfl) aH rfl rfl) ?_;refine gR ?_;exact az.keep (bm rfl)
theorem Ie (h : TR rs r) (hc : bF rs = 0) [c0 : Ct (llq rs) u k] [ha : Zl (llq rs) u k a x w v] [hb : Zl (llq rs) u k b y w' v'] (hs : w + v + (w' + v') <= 10000 := by decide) :
  Con prog 266 [.ptr 1000 0,nA a,nA b] [(1000,some (dw rs))] (nA (sX (x-y))) [(1000,some (dw rs))]:=by
 have hx:=Gi (ha:=ha) (hb:=hb) hs;rw[lg h hc]at hx;refine gF func266 (fun k z h=>bG h) ?_;refine gc hx ?_;refine gt (aE (tJ _ _) (aJ rfl rfl rfl) aH rfl rfl) ?_;refine gR ?_;exact az.keep (bm rfl)
theorem Bm (h : TR rs r) (hc : bF rs = 0) [c0 : Ct (llq rs) u k] [ha : Zl (llq rs) u k a x w v] [hb : Zl (llq rs) u k b y w' v'] (hs : w + v + (w' + v') <= 10000 := by decide) :
  Con prog 276 [.ptr 1000 0,nA a,nA b] [(1000,some (dw rs))] (nA (sX (x*y))) [(1000,some (dw rs))]:=by
 have hx:=CX (ha:=ha) (hb:=hb) hs;rw[lg h hc]at hx;refine gF func276 (fun k z h=>bG h) ?_;refine gc hx ?_;refine gt (aE (tJ _ _) (aJ rfl rfl rfl) aH rfl rfl) ?_;refine gR ?_;exact az.keep (bm rfl)
theorem KB (h : TR rs r) (hc : bF rs = 0) [c0 : Ct (llq rs) u k] (n : Int) (hn : -9223372036854775808 <= n /\ n <= 9223372036854775807) [hq : Qz u (n : Rat) w'] [ha : Zl (llq rs) u k a x w v] (hs : w' + 0 + (w + v) <= 10000 := by decide) :
  Con prog 267 [.ptr 1000 0,i64 n,nA a] [(1000,some (dw rs))] (nA (sX (qE (n:Rat)*x))) [(1000,some (dw rs))]:=by
 have hm:=Bm (a:=sh 0 ((n:Rat):Rat)) (b:=a) h hc hs;refine gF func267 (fun k z h=>bG h) ?_;refine gc (kv n hn) ?_;refine gc (mg (rO hn)) ?_;refine gt (aE hm (aJ rfl rfl rfl) aH rfl rfl) ?_;refine gR ?_;exact az.keep (bm rfl)
end
section
variable{rs:List (List Rt)}{r:Nat}{a b c a2 b2 c2:List Rat}{x y z x2 y2 z2:Et (llq rs)}
theorem MK(h:TR rs r)(hc:bF rs=0)[c0:Ct (llq rs) 310000 65000][i1:Zl (llq rs) 310000 65000 a x 40 40][i2:Zl (llq rs) 310000 65000 b y 40 40][i3:Zl (llq rs) 310000 65000 c z 3 0][i4:Zl (llq rs) 310000 65000 a2 x2 40 40][i5:Zl (llq rs) 310000 65000 b2 y2 40 40][i6:Zl (llq rs) 310000 65000 c2 z2 3 0] :
  Con prog 168 [.ptr 1000 0,.agg [nA a,nA b,nA c],.agg [nA a2,nA b2,nA c2]] [(1000,some (dw rs))] (.tup [nA (sX (bn (x,y) z (x2,y2) z2)),nA (sX (aB (x,y) (x2,y2)))]) [(1000,some (dw rs))]:=by
 have hd:=LA (a:=a) (b:=b) (a2:=a2) (b2:=b2) h hc;haveI:=i3.zu;haveI:=i6.zu;haveI zd:=E6 c0 i1.zu i2.zu i4.zu i5.zu;haveI q4:Qz 310000 ((4:Int):Rat) 1:=Qz.int (c:=Ct.cx (c:=c0)) (by decide);have m1:=WM (a:=c) (b:=sX (aB (x,y) (x2,y2))) h hc (by decide);have m2:=Ie (a:=sX (z+aB (x,y) (x2,y2))) (b:=c2) h hc (by decide);have m3:=Bm (a:=c) (b:=sX (aB (x,y) (x2,y2))) h hc (by decide);have m4:=KB (a:=sX (z*aB (x,y) (x2,y2))) h hc 4 oz (by decide);have m5:=Bm (a:=sX (z+aB (x,y) (x2,y2)-z2)) (b:=sX (z+aB (x,y) (x2,y2)-z2)) h hc (by decide);have m6:=Ie (a:=sX (qE ((4:Int):Rat)*(z*aB (x,y) (x2,y2)))) (b:=sX ((z+aB (x,y) (x2,y2)-z2)*(z+aB (x,y) (x2,y2)-z2))) h hc (by decide);refine gF func168 (fun k z h=>bG h) ?_;refine gc hd ?_;refine gt (aW (tJ _ _) (aJ rfl rfl rfl) rfl rfl rfl) ?_;refine gD ?_;refine gt (aW m1 (aJ rfl rfl rfl) rfl rfl rfl) ?_;refine gt (aW m2 (aJ rfl rfl rfl) rfl rfl rfl) ?_;refine gD ?_;refine gt (aW m3 (aJ rfl rfl rfl) rfl rfl rfl) ?_;refine gt (aW m4 (.cons (.tmp rfl) (.cons (.const _) (cC rfl))) rfl rfl rfl) ?_;refine gt (aW m5 (aJ rfl rfl rfl) rfl rfl rfl) ?_;refine gt (aW m6 (aJ rfl rfl rfl) rfl rfl rfl) ?_;refine gR ?_;exact az.keep (bm rfl)
end
class Cy(ts:LL)(u k:outParam Nat):Prop where
  ex:∃R,Tw ts R/\eB R ts.length<=k
  k1:1<=k
  u3:3<=u
  two:ts.length<=2
instance Cy.cx{ts:LL}{u k:Nat}[c:Cy ts u k]:Cx (ay ts) ts.length u k:=by
  obtain⟨R,tw,h⟩:=c.ex;exact⟨⟨R,C2 tw▸tw,h⟩,c.k1,c.u3⟩
theorem Cy.zq{ts:LL}{u k:Nat}[c:Cy ts u k]{q:Rat}{w:Nat}[h:Qz u q w]:Zl ts u k (sh 0 (q:Rat)) (qE q:Et ts) w 0:=⟨fL _ q,by
 obtain⟨R,tw,_⟩:=c.ex;exact(Nm.ofQ tw.five h.cb).eq oz⟩
theorem Cy.lm{ts:LL}{u k:Nat}(c:Cy ts u k):lm ts.length=200000000000:=by unfold Go.Lw.lm;rw[XK c.two]
def iE{ts:LL}(y:Et ts):Et ts:=T.inv (ay ts) ts.length y
abbrev bg(ts:LL):Blk:=.box [.lst 1 (ts.map nA),.v .nilIface]
theorem Ay(ts:LL):dw (ts.map (List.map rt))=bg ts:=by
 have h:=ki ts;unfold dB aV at h;have h1:=AV.agg.inj h
 injection h1 with h2
 show Blk.box [.lst 1 ((ts.map (List.map rt)).map nR),.v .nilIface]=_;rw[h2]
section
variable{ts:LL}{u k:Nat}{a b:List Rat}{x y:Et ts}{w v w' v':Nat}
theorem VS[c:Cy ts u k][ha:Zl ts u k a x w v][hb:Zl ts u k b y w' v'](hs:w*u+v*k+(w'*u+v'*k)<200000000000):FP 356 [aV ts,nA a,nA b] (.tup [nA (sX (x+y)),.v .nilIface]):=by
 obtain⟨R,tw,hk⟩:=c.ex;have h1:=BK tw ha.nm hb.nm (by rw[c.lm];omega);rw[ha.eq,hb.eq]at h1;exact h1
theorem Rh[c:Cy ts u k][ha:Zl ts u k a x w v][hb:Zl ts u k b y w' v'](hs:w*u+v*k+(w'*u+v'*k)<200000000000):FP 176 [aV ts,nA a,nA b] (.tup [nA (sX (x-y)),.v .nilIface]):=by
 obtain⟨R,tw,hk⟩:=c.ex;have h1:=o5 tw ha.nm hb.nm (by rw[c.lm];omega);rw[ha.eq,hb.eq]at h1;exact h1
theorem QP[c:Cy ts u k][ha:Zl ts u k a x w v][hb:Zl ts u k b y w' v'](hs:w*u+v*k+(w'*u+v'*k)<200000000000):FP 127 [aV ts,nA a,nA b] (.tup [nA (sX (x*y)),.v .nilIface]):=by
 obtain⟨R,tw,hk⟩:=c.ex;have h1:=wS tw ha.nm hb.nm (by rw[c.lm];omega);rw[ha.eq,hb.eq]at h1;exact h1
theorem CF[c:Cy ts u k][ha:Zl ts u k a x w v](hs:w*u+v*k<200000000000):FP 147 [aV ts,nA a] (.tup [nA (sX (-x)),.v .nilIface]):=by
 obtain⟨R,tw,hk⟩:=c.ex;have h1:=zP tw ha.nm (by rw[c.lm];omega);rw[ha.eq]at h1;exact h1
theorem EW[c:Cy ts u k][ha:Zl ts u k a x w v](hs:w*u+v*k<200000000000):FP 116 [aV ts,nA a] (.tup [i64 (ak x),.v .nilIface]):=by
 obtain⟨R,tw,hk⟩:=c.ex;have h1:=qR tw ha.nm (by rw[c.lm];omega);rw[ha.eq]at h1;exact h1
theorem LP{j m:Nat}[c:Cy ts u k][ha:Zl ts u k a x w v][hb:Zl ts u k b y w' v'](nb:Nl j b)(hj:j<=ts.length)(h0:ak y≠0)(hm:∀R,eB R ts.length<=k->iB R j (w'*u+v'*k)<=m)(hf:w'*u+v'*k<200000000000)(hs:w*u+v*k+m+k<=200000000000) :
  FP 281 [aV ts,nA a,nA b] (.tup [nA (sX (x*iE y)),.v .nilIface])/\Nm ts.length (w*u+v*k+m+k) (sX (x*iE y)):=by
 obtain⟨R,tw,hk⟩:=c.ex;have hi:=hm R hk;have he:=hb.eq;have h1:T.sgn (ay ts) ts.length (ae ts.length b)≠0:=by rw[he];exact h0
 have hd:=zL tw ha.nm hb.nm hj nb h1 (by rw[c.lm];omega) oz;have hn:=yN tw ha.nm hb.nm hj nb h1 (by rw[c.lm];omega) oz;rw[ha.eq,he]at hd hn;exact⟨hd,hn.mono oz⟩
theorem pZ{j:Nat}[c:Cy ts u k][ha:Zl ts u k a x w v][hb:Zl ts u k b y w' v'](nb:Nl j b)(hj:j<=ts.length)(hj1:j<=1)(h0:ak y≠0)(hs:(w+5*w')*u+(v+5*v'+3)*k<=200000000000) :
  FP 281 [aV ts,nA a,nA b] (.tup [nA (sX (x*iE y)),.v .nilIface])/\Zu u k (x*iE y) (w+5*w') (v+5*v'+3):=by
 have e:(w+5*w')*u+(v+5*v'+3)*k=w*u+v*k+(5*(w'*u+v'*k)+2*k)+k:=by
  simp only[Nat.add_mul,Nat.mul_add,Nat.mul_assoc];omega
 rw[e]at hs
 have h:=LP (a:=a) (b:=b) (m:=5*(w'*u+v'*k)+2*k) nb hj h0 (fun R hR=>by
  have h2:=Ma R (w'*u+v'*k) hj1;have h3:=gO R hj;omega) oz hs
 exact⟨h.1,⟨h.2.eq e.symm⟩⟩
theorem oK(ts:LL)(a:List Rat):Con prog 275 [.ptr 1000 0,nA a,.v .nilIface] [(1000,some (bg ts))] (nA a) [(1000,some (bg ts))]:=by
 have h:=tJ (ts.map (List.map rt)) a;rw[Ay]at h;exact h
theorem rg(ts:LL)(a:List Rat):Con prog 71 [.ptr 1000 0,nA a,.v .nilIface] [(1000,some (bg ts))] (nA a) [(1000,some (bg ts))]:=by
 have h:=nV (ts.map (List.map rt)) a;rw[Ay]at h;exact h
theorem j5[c:Cy ts u k][ha:Zl ts u k a x w v][hb:Zl ts u k b y w' v'](hs:w*u+v*k+(w'*u+v'*k)<200000000000) :
  Con prog 270 [.ptr 1000 0,nA a,nA b] [(1000,some (bg ts))] (nA (sX (x+y))) [(1000,some (bg ts))]:=by
 refine gF func270 (fun k z h=>bG h) ?_;refine gc (VS hs) ?_;refine gt (aE (oK _ _) (aJ rfl rfl rfl) aH rfl rfl) ?_;refine gR ?_;exact az.keep (bm rfl)
theorem lP[c:Cy ts u k][ha:Zl ts u k a x w v][hb:Zl ts u k b y w' v'](hs:w*u+v*k+(w'*u+v'*k)<200000000000) :
  Con prog 266 [.ptr 1000 0,nA a,nA b] [(1000,some (bg ts))] (nA (sX (x-y))) [(1000,some (bg ts))]:=by
 refine gF func266 (fun k z h=>bG h) ?_;refine gc (Rh hs) ?_;refine gt (aE (oK _ _) (aJ rfl rfl rfl) aH rfl rfl) ?_;refine gR ?_;exact az.keep (bm rfl)
theorem jA[c:Cy ts u k][ha:Zl ts u k a x w v][hb:Zl ts u k b y w' v'](hs:w*u+v*k+(w'*u+v'*k)<200000000000) :
  Con prog 276 [.ptr 1000 0,nA a,nA b] [(1000,some (bg ts))] (nA (sX (x*y))) [(1000,some (bg ts))]:=by
 refine gF func276 (fun k z h=>bG h) ?_;refine gc (QP hs) ?_;refine gt (aE (oK _ _) (aJ rfl rfl rfl) aH rfl rfl) ?_;refine gR ?_;exact az.keep (bm rfl)
theorem rQ{q:List Rat}(hd:FP 281 [aV ts,nA a,nA b] (.tup [nA q,.v .nilIface])) :
  Con prog 269 [.ptr 1000 0,nA a,nA b] [(1000,some (bg ts))] (nA q) [(1000,some (bg ts))]:=by
 refine gF func269 (fun k z h=>bG h) ?_;refine gc hd ?_;refine gt (aE (oK _ _) (aJ rfl rfl rfl) aH rfl rfl) ?_;refine gR ?_;exact az.keep (bm rfl)
theorem qL[c:Cy ts u k][ha:Zl ts u k a x w v](hs:w*u+v*k<200000000000) :
  Con prog 263 [.ptr 1000 0,nA a] [(1000,some (bg ts))] (i64 (ak x)) [(1000,some (bg ts))]:=by
 refine gF func263 (fun k z h=>bG h) ?_;refine gC (fun t11=>?_) (fun t11=>?_) (st1:=(2,0));cases t11;refine gc (EW hs) ?_;refine gR ?_;exact az.keep (bm rfl)
theorem wB{q:List Rat}(hd:FP 281 [aV ts,nA a,nA b] (.tup [nA q,.v .nilIface])) :
  Con prog 163 [.ptr 1000 0,nA a,nA b] [(1000,some (bg ts))] (nA q) [(1000,some (bg ts))]:=by
 refine gF func163 (fun k z h=>bG h) ?_;refine gc hd ?_;refine gt (aE (rg _ _) (aJ rfl rfl rfl) aH rfl rfl) ?_;refine gR ?_;exact az.keep (bm rfl)
theorem A9[c:Cy ts u k][ha:Zl ts u k a x w v](hs:w*u+v*k<200000000000) :
  Con prog 160 [.ptr 1000 0,nA a] [(1000,some (bg ts))] (i64 (ak x)) [(1000,some (bg ts))]:=by
 refine gF func160 (fun k z h=>bG h) ?_;refine gC (fun t11=>?_) (fun t11=>?_) (st1:=(2,0));cases t11;refine gc (EW hs) ?_;refine gR ?_;exact az.keep (bm rfl)
theorem zB[c:Cy ts u k](n:Int)(hn:-9223372036854775808<=n/\n<=9223372036854775807)[hq:Qz u (n:Rat) w'][ha:Zl ts u k a x w v](hs:w'*u+0*k+(w*u+v*k)<200000000000) :
  Con prog 267 [.ptr 1000 0,i64 n,nA a] [(1000,some (bg ts))] (nA (sX (qE (n:Rat)*x))) [(1000,some (bg ts))]:=by
 haveI:=Cy.zq (ts:=ts) (u:=u) (k:=k) (q:=(n:Rat)) (w:=w');have hm:=jA (ts:=ts) (u:=u) (k:=k) (a:=sh 0 ((n:Rat):Rat)) (b:=a) (x:=qE (n:Rat)) (y:=x) hs;refine gF func267 (fun k z h=>bG h) ?_;refine gc (kv n hn) ?_;refine gc (mg (rO hn)) ?_;refine gt (aE hm (aJ rfl rfl rfl) aH rfl rfl) ?_;refine gR ?_;exact az.keep (bm rfl)
theorem ry{p1 p2 v1 v2 c m1 m2 q1 q2:List Rat}(h1:Con prog 276 [.ptr 1000 0,nA c,nA v1] [(1000,some (bg ts))] (nA m1) [(1000,some (bg ts))])
  (h2:Con prog 276 [.ptr 1000 0,nA c,nA v2] [(1000,some (bg ts))] (nA m2) [(1000,some (bg ts))])
  (h3:Con prog 270 [.ptr 1000 0,nA p1,nA m1] [(1000,some (bg ts))] (nA q1) [(1000,some (bg ts))])
  (h4:Con prog 270 [.ptr 1000 0,nA p2,nA m2] [(1000,some (bg ts))] (nA q2) [(1000,some (bg ts))]) :
  Con prog 268 [.ptr 1000 0,aM p1 p2,nA c,aM v1 v2] [(1000,some (bg ts))] (aM q1 q2) [(1000,some (bg ts))]:=by
 refine gF func268 (fun k z h=>bG h) ?_;refine gt (aE h1 (aJ rfl rfl rfl) aH rfl rfl) ?_;refine gt (aE h3 (aJ rfl rfl rfl) aH rfl rfl) ?_;refine gt (aE h2 (aJ rfl rfl rfl) aH rfl rfl) ?_;refine gt (aE h4 (aJ rfl rfl rfl) aH rfl rfl) ?_;refine gD ?_;refine gR ?_;exact az.keep (bm rfl)
theorem Dt{r e:Nat}(tw:Tw ts r)(ha:Nm ts.length e a)(he:e<=lm ts.length)(hs:0<=T.sgn (ay ts) ts.length (ae ts.length a)) :
  Con prog 271 [.ptr 1000 0,nA a] [(1000,some (bg ts))] (nA (cr ts.length)) [(1000,some (bg (aS ts a)))]:=by
 refine gF func271 (fun k z h=>bG h) ?_;refine gC (fun t12=>?_) (fun t12=>?_) (st1:=(2,0));cases t12;refine gc (G1 tw ha he hs) ?_;refine gC (fun t24=>?_) (fun t24=>?_) (st1:=(5,0));cases t24;refine gR ?_;exact az.keep (bm rfl)
abbrev AI(ts:LL)(ps:List AV):AV:=.agg [.lst 1 (ts.map nA),.lst 2 ps]
theorem SK{r:Nat}(tw:Tw ts r):Con prog 355 [.ptr 1000 0] [(1000,some (bg ts))] (aV ts) [(1000,some (bg ts))]:=by
 have h3:=tw.three;have hqs:=tw.rb.qs tw.le;refine gF func355 (fun k z h=>bG h) ?_;refine gl ?_;refine gW (Wk.virt 900 1 rfl) ?_;refine aZ [2,3,13,14] [1000,2] (fun(i:Nat)=>[(15,some (i64 i))]) (fun i=>[(3,some (.box [.ms 900 1 0 i])),(900,some (.row 1 ((ts.take i).map nA)))]) (fun i=>i<=ts.length) (fun i=>ts.length-i) 0 (W7 _) ?_ (h2:=(.cons rfl (BlkSub.bL (.cons (.nM _ _ _) .nil) rfl) (.k .nil)));rintro i hi K1 J1;refine gC (fun t16=>?_) (fun t16=>?_) (st2:=(13,0))
 ·have hin:=a6 t16;obtain⟨d,hd⟩:=ax hin
  have hdl:d.length<=32:=by
   have h9:=tw.len i hin;rw[au hd]at h9;have:2^i<=32:=cQ (b:=5) oz;omega
  have hdq:=hqs d (WU hd);refine gi (aI hd) ?_;refine gl ?_;refine gW (Wk.virt 901 3 rfl) ?_;refine aZ [2,3,13,14,15,19,20] [1000,2,3,900] (fun(j:Nat)=>[(6,some (.ms 901 3 0 j)),(21,some (i64 j))]) (fun j=>[(901,some (.row 3 ((d.take j).map qA)))]) (fun j=>j<=d.length) (fun j=>d.length-j) 0 (W7 _) ?_;rintro j hj K2 J2;refine gC (fun t22=>?_) (fun t22=>?_) (st2:=(11,0))
  ·have hjn:=a6 t22;obtain ⟨q,hq⟩:=ax hjn;have hadd:=oO (rt q) (rt 0) (hdq q (WU hq)).ok Qs.zero.ok;rw [wt,co] at hadd;refine gi (aI hq) ?_;refine gc (Con.sA (.cons (.refl _) (.cons j7 .nil)) hadd) ?_;refine gs (cO (.tmp rfl) rfl (by rw [WW,Xh]; omega) (.tmp rfl) T67 rfl T45 rfl rfl (by simp only [W9,Xi]; omega) rfl rfl) ?_ (10,0);refine gW (Wk.of (sl:=[(2,some (.ptr 2 0)),(3,some (.ptr 3 0)),(13,some (.lst 1 (ts.map nA))),(14,some (i64 ts.length)),(15,some (i64 i)),(6,some (.ms 30 3 0 (j + 1))),(19,some (nA d)),(20,some (i64 d.length)),(21,some (i64 j))]) (hp:=[(1000,some (bg ts)),(2,some (.box [nS])),(3,some (.box [.ms 900 1 0 i])),(900,some (.row 1 ((ts.take i).map nA))),(30,some (.row 3 ((d.take (j + 1)).map qA)))]) a8 (.k (.k (.k (.k (.cons rfl (BlkSub.of (by rw [eA hq,Xl]; rfl)) .nil)))))) ?_ (10,0)
   refine gW (Wk.rk (k:=30) (d:=901) rfl rfl) ?_;refine ga aO ?_;exact aP J2 (j+1) hjn
  have hjn:=bi hj t22;subst hjn;refine gW ((Wk.freeze (k:=901) rfl).trans<|Wk.of (sl:=[(2,some (.ptr 2 0)),(3,some (.ptr 3 0)),(13,some (.lst 1 (ts.map nA))),(14,some (i64 ts.length)),(15,some (i64 i)),(6,some (nA d))]) (hp:=[(1000,some (bg ts)),(2,some (.box [nS])),(3,some (.box [.ms 900 1 0 i])),(900,some (.row 1 ((ts.take i).map nA)))]) (.k (.k (.k (.k (.k (.cons rfl (Sub.of (by rw[bV (by simp)];simp[nA])) .nil)))))) (.k (.k (.k (.k .nil))))) ?_
  refine gs (cO (.tmp rfl) rfl (by rw[WW,Xh];omega) (.tmp rfl) T35 rfl T67 rfl rfl (by simp only[W9,Xi];omega) rfl rfl) ?_ (12,0);refine gW (Wk.of (sl:=[(2,some (.ptr 2 0)),(3,some (.ptr 3 0)),(13,some (.lst 1 (ts.map nA))),(14,some (i64 ts.length)),(15,some (i64 i))]) (hp:=[(1000,some (bg ts)),(2,some (.box [nS])),(3,some (.box [.ms 36 1 0 (i+1)])),(36,some (.row 1 ((ts.take (i+1)).map nA)))]) a8 (.k (.k (.k (.cons rfl (BlkSub.of (by rw[eA hd,Xl];rfl)) .nil))))) ?_ (12,0);refine gW (Wk.rk (k:=36) (d:=900) rfl rfl) ?_;refine ga aO ?_;exact aP J1 (i+1) hin
 have hin:=bi hi t16;subst hin;refine gW ((Wk.freeze (k:=900) rfl).trans<|Wk.of (sl:=[(2,some (.ptr 2 0)),(3,some (.ptr 3 0))]) (hp:=[(1000,some (bg ts)),(2,some (.box [nS])),(3,some (.box [.lst 1 (ts.map nA)]))]) a8 (.k (.k (.cons rfl (BlkSub.bL (.cons (Sub.of (by rw[bV (by simp)];simp)) .nil) rfl) .nil)))) ?_;refine gR ?_;exact az.keep (bm rfl)
theorem mF{r:Nat}(tw:Tw ts r)(ps:List AV):Con prog 265 [.ptr 1000 0,.lst 2 ps] [(1000,some (bg ts))] (.tup [AI ts ps,.v .nilIface]) [(1000,some (bg ts))]:=by
 refine gF func265 (fun k z h=>bG h) ?_;refine gC (fun t10=>?_) (fun t10=>?_) (st1:=(2,0));cases t10;refine gt (aE (SK tw) (cC rfl) aH rfl rfl) ?_;refine gR ?_;exact az.keep (bm rfl)
end
theorem dC(ts:LL)(a:List Rat):(aS ts a).length=ts.length+1:=by simp[aS]
theorem I3{ts:LL}{a:List Rat}{j:Nat}(h:j<ts.length):(aS ts a).getD j []=ts.getD j []:=by
 unfold aS;rw[WV,WV,Xe h]
theorem sG(ts:LL)(a:List Rat):(aS ts a).getD ts.length []=bT a (2^ts.length):=by
 unfold aS;rw[WV,Xd (WZ _),Nat.sub_self];rfl
theorem uv{ts:LL}{a:List Rat}{j:Nat}(h:j<ts.length):ay (aS ts a) j=ay ts j:=by
 unfold ay;rw[I3 h]
theorem xc{ts:LL}{a:List Rat}{j:Nat}(h:j<=ts.length)(x:T j):T.sgn (ay (aS ts a)) j x=T.sgn (ay ts) j x :=
 T.sgn_congr j (fun i hi=>uv oz) x
theorem RB.ext{r e:Nat}{ts:LL}{a:List Rat}(h:RB r ts)(ha:Cb e a):RB (r+e) (aS ts a):=by
 obtain⟨D,N,h0,h1,h2,h3⟩:=h;obtain⟨D',N',k1,k2,k3⟩:=ha.wide (n:=2^ts.length);have hN:N<=2^r:=h3;refine⟨D*D',max (N*D') (N'*D),Nat.mul_pos h0 k1.1,?_,?_,?_⟩
 ·intro d hd;rcases List.mem_append.1 hd with h9 |h9
  ·exact((h1 d h9).scale k1.1).mono (Nat.le_max_left _ _)
  ·rw[List.mem_singleton.1 h9,Nat.mul_comm D];exact(k1.scale h0).mono (Nat.le_max_right _ _)
 ·rw[XA];exact Nat.mul_le_mul h2 k2
 ·rw[XA];refine Nat.max_le.2 ⟨Nat.mul_le_mul h3 k2,?_⟩;rw[Nat.mul_comm (2^r)];exact Nat.mul_le_mul k3 h2
theorem Bp{r e:Nat}{ts:LL}{a:List Rat}(tw:Tw ts r)(h2:ts.length<=2)(ha:Nm ts.length e a)(he:r+e<=5000000000)(hs:0<=T.sgn (ay ts) ts.length (ae ts.length a)):Tw (aS ts a) (r+e):=by
 refine⟨by rw[dC];omega,?_,?_,tw.rb.ext ha.cb,he⟩
 ·intro j hj;rw[dC]at hj;rcases W3 j ts.length with h |h
  ·rw[I3 h];exact tw.len j h
  ·have : j = ts.length := by omega
   subst this;rw[sG];exact f8 ha.nl.le
 ·intro j hj;rw[dC]at hj;rw[xc oz];rcases W3 j ts.length with h |h
  ·rw[uv h];exact tw.pos j h
  ·have : j = ts.length := by omega
   subst this
   have e1:ay (aS ts a) ts.length=ae ts.length a:=by
    show ae ts.length ((aS ts a).getD ts.length [])=_;rw[sG,qv]
   rw[e1];exact hs
theorem lY{ts:LL}{a l:List Rat}{e:Nat}(h:Nm ts.length e l)(h4:ts.length<=4):Nm (aS ts a).length e l:=by
 rw[dC];exact⟨by omega,h.nl.mono oz,h.cb⟩
theorem SP{ts:LL}{a l:List Rat}(h:Nl ts.length l):ak (dE (aS ts a) l)=ak (dE ts l):=by
 unfold ak dE;rw[dC];show T.sgn (ay (aS ts a)) (ts.length+1) (ae (ts.length+1) l)=_;rw[vr (ay (aS ts a)) h.le (Nat.le_succ _),xc (WZ _)]
theorem tT{ts:LL}{a:List Rat}(h4:ts.length<=4):Nm (aS ts a).length 1 (cr ts.length):=by
 rw[dC];refine⟨by omega,.inr ⟨_,WZ _,yb _⟩,1,1,⟨by omega,?_⟩,by omega,by omega⟩;intro q hq;unfold cr at hq;rcases List.mem_or_eq_of_mem_set hq with h |h
 ·rw[(List.mem_replicate.1 h).2];exact⟨0,by rw[Rat.zero_mul];rfl,by simp⟩
 ·rw[h];exact⟨1,by rw[Rat.one_mul];rfl,by simp⟩
theorem QK{r e k:Nat}{ts:LL}{a:List Rat}(tw:Tw ts r)(h1:ts.length<=1)(ha:Nm ts.length e a)(he:r+e<=5000000000)(hs:0<=T.sgn (ay ts) ts.length (ae ts.length a)){u:Nat}(hu:3<=u)(hk:3*(r+e)+6<=k):Cy (aS ts a) u k :=
 ⟨⟨r+e,Bp tw oz ha he hs,by
  rw[dC];have h:=gO (r+e) (show ts.length+1<=2 by omega);have h2:eB (r+e) 2=3*(r+e)+6:=by simp only[eB];omega
  omega⟩,by omega,hu,by rw[dC];omega⟩
structure Mt where
  ts:LL
  ps:List (List Rat×List Rat)
abbrev di(p:List Rat×List Rat):AV:=aM p.1 p.2
abbrev Mt.av(m:Mt):AV:=AI m.ts (m.ps.map di)
abbrev P2(ts:LL):Type:=Et ts×Et ts
abbrev P2.l{ts:LL}(p:P2 ts):List Rat×List Rat:=(sX p.1,sX p.2)
abbrev aL{ts:LL}(X:Et ts)(x:Et ts):Et (aS ts (sX X)):=dE (aS ts (sX X)) (sX x)
section
variable{ts:LL}
def eD(d:Et ts):Et ts:=qE ((2:Int):Rat)*d
def fB(p q:P2 ts):P2 ts:=(q.1-p.1,q.2-p.2)
def cR(p:P2 ts)(k:Et ts)(v:P2 ts):P2 ts:=(p.1+k*v.1,p.2+k*v.2)
def cV(p q:P2 ts)(z z2:Et ts):P2 ts:=cR p ((z+aB p q-z2)*iE (eD (aB p q))) (fB p q)
def dW(X d:Et ts):Et (aS ts (sX X)):=dE _ (cr ts.length)*iE (aL X (eD d))
def gp(X:Et ts)(f v:P2 ts)(c:Et (aS ts (sX X))):P2 (aS ts (sX X)):=cR (aL X f.1,aL X f.2) c (qE ((-1:Int):Rat)*aL X v.2,aL X v.1)
def lG(p:P2 ts)(z z2:Et ts):Mt:=if ak (z-z2)≠0 then⟨ts,[]⟩else if 0<ak z then⟨[],[]⟩else⟨ts,[(cR p 0 p).l]⟩
def dY(p q:P2 ts)(z z2:Et ts):Mt :=
  if ak (aB p q)=0 then lG p z z2
  else if ak (bn p z q z2)<0 then⟨ts,[]⟩
  else if ak (bn p z q z2)=0 then⟨ts,[(cV p q z z2).l]⟩
  else⟨aS ts (sX (bn p z q z2)),[(gp (bn p z q z2) (cV p q z z2) (fB p q) (dW (bn p z q z2) (aB p q))).l,
    (gp (bn p z q z2) (cV p q z z2) (fB p q) (qE ((-1:Int):Rat)*dW (bn p z q z2) (aB p q))).l]⟩
def kR(z z2:Et ts):Nat:=if ak (z-z2)=0/\0<ak z then 15 else 0
def fg(p q:P2 ts)(z z2:Et ts):Nat:=if ak (aB p q)=0 then kR z z2 else 0
theorem Fk:Sub (.agg [nS,nS]) (AI [] []):=Sub.agg (.cons (.nil _ _ _) (.cons (.nil _ _ _) .nil)) rfl
end
theorem N8 {ts : LL} {u k : Nat} [c : Cy ts u k] : Zl ts u k [] (0 : Et ts) 0 0 := ⟨by rw [iA]; exact E.zero_def.symm, by
 obtain⟨R,tw,_⟩:=c.ex;exact⟨tw.five,.inl rfl,Cb.nil.mono (W7 _)⟩⟩
section
variable{ts:LL}{a b c a2 b2 c2:List Rat}{x y z x2 y2 z2:Et ts}
theorem P7{r:Nat}(tw:Tw ts r)[c0:Cy ts 310000 65000][i1:Zl ts 310000 65000 a x 40 40][i2:Zl ts 310000 65000 b y 40 40][i3:Zl ts 310000 65000 c z 3 0][i6:Zl ts 310000 65000 c2 z2 3 0] :
  Con prog 264 [.ptr 1000 0,.agg [nA a,nA b,nA c],.agg [nA a2,nA b2,nA c2]] [(1000,some (bg ts))]
   (.tup [(lG (x,y) z z2).av,bq (kR z z2)]) [(1000,some (bg ts))]:=by
 haveI:=i1.zu;haveI:=i2.zu;haveI:=i3.zu;haveI:=i6.zu;have hm0:=Con.sA (.cons (.refl _) (.cons (Sub.nil 2 none 0) .nil)) (mF tw []);have m1:=lP (ts:=ts) (u:=310000) (k:=65000) (a:=c) (b:=c2) (by decide);have m2:=qL (ts:=ts) (u:=310000) (k:=65000) (a:=sX (z-z2)) (by decide);have m3:=qL (ts:=ts) (u:=310000) (k:=65000) (a:=c) (by decide);haveI zn:Zl ts 310000 65000 [] (0:Et ts) 0 0:=N8;have n1:=jA (ts:=ts) (u:=310000) (k:=65000) (a:=[]) (b:=a) (by decide);have n2:=jA (ts:=ts) (u:=310000) (k:=65000) (a:=[]) (b:=b) (by decide);have n3:=j5 (ts:=ts) (u:=310000) (k:=65000) (a:=a) (b:=sX (0*x)) (by decide);have n4:=j5 (ts:=ts) (u:=310000) (k:=65000) (a:=b) (b:=sX (0*y)) (by decide);have hal:=Con.sA (.cons (.refl _) (.cons (.refl _) (.cons (Sub.nil 3 none 0) (.cons (.refl _) .nil)))) (ry n1 n2 n3 n4);refine gF func264 (fun k z h=>bG h) ?_;refine gt (aW m1 (aJ rfl rfl rfl) rfl rfl rfl) ?_;refine gt (aW m2 (bD rfl rfl) rfl rfl rfl) ?_;refine gC (fun t8=>?_) (fun t8=>?_)
 ·have h1:ak (z-z2)≠0:=ni t8;refine gt (aW hm0 (.cons (.tmp rfl) (.cons (.const _) .nil)) rfl rfl rfl) ?_;refine gR ?_;exact(az.keep (bm rfl)).sub (Sub.of (by unfold lG kR;rw[XK h1,XJ (fun h=>h1 h.1)];rfl))
 have h1:ak (z-z2)=0:=rZ t8;refine gt (aW m3 (bD rfl rfl) rfl rfl rfl) ?_;refine gC (fun t22=>?_) (fun t22=>?_)
 ·have h2:0<ak z:=of_decide_eq_true t22;refine gR ?_;exact(az.keep (bm rfl)).sub (by unfold lG kR;rw[XJ oz,XK h2,XK ⟨h1,h2⟩];exact Sub.tup (.cons Fk (.cons (.refl _) .nil)))
 have h2:¬0<ak z:=of_decide_eq_false t22;refine gt (aW hal (.cons (.tmp rfl) (.cons (.tmp rfl) (.cons (.const _) (cC rfl)))) rfl rfl rfl) ?_;refine gt (aW (mF tw [aM (sX (x+0*x)) (sX (y+0*y))]) (bD rfl rfl) rfl rfl rfl) ?_;refine gR ?_;exact(az.keep (bm rfl)).sub (Sub.of (by unfold lG kR;rw[XJ oz,XJ h2,XJ (fun h=>h2 h.2)];rfl))
end
section
variable{rs:List (List Rt)}{r:Nat}{a b c a2 b2 c2:List Rat}{x y z x2 y2 z2:Et (llq rs)}
structure CirP(ts:LL)(p q:P2 ts)(z z2:Et ts):Prop where
  zd:Zu 310000 65000 (aB p q) 320 327
  zX:Zu 310000 65000 (bn p z q z2) 976 989
  zt:Zu 310000 65000 (eD (aB p q)) 321 328
  z1:Zu 310000 65000 (fB p q).1 80 81
  z2:Zu 310000 65000 (fB p q).2 80 81
theorem Hu{ts:LL}{x y z x2 y2 z2:Et ts}(c:Ct ts 310000 65000)(h1:Zu 310000 65000 x 40 40)(h2:Zu 310000 65000 y 40 40)(h3:Zu 310000 65000 z 3 0)(h4:Zu 310000 65000 x2 40 40)(h5:Zu 310000 65000 y2 40 40)(h6:Zu 310000 65000 z2 3 0) :
  CirP ts (x,y) (x2,y2) z z2:=by
 haveI:=c;haveI:=h1;haveI:=h2;haveI:=h3;haveI:=h4;haveI:=h5;haveI:=h6
 haveI zd:=E6 c h1 h2 h4 h5;haveI q4:Qz 310000 ((4:Int):Rat) 1:=Qz.int (c:=Ct.cx (c:=c)) (by decide);haveI q2:Qz 310000 ((2:Int):Rat) 1:=Qz.int (c:=Ct.cx (c:=c)) (by decide)
 exact⟨zd,(inferInstance:Zu 310000 65000 (qE ((4:Int):Rat)*(z*aB (x,y) (x2,y2))-(z+aB (x,y) (x2,y2)-z2)*(z+aB (x,y) (x2,y2)-z2)) _ _),
  (inferInstance:Zu 310000 65000 (qE ((2:Int):Rat)*aB (x,y) (x2,y2)) _ _),(inferInstance:Zu 310000 65000 (x2-x) _ _),(inferInstance:Zu 310000 65000 (y2-y) _ _)⟩
theorem I4{ts:LL}{x y z x2 y2 z2:Et ts}[c0:Cy ts 310000 65000](hn:ts.length<=1)(h1:Zu 310000 65000 x 40 40)(h2:Zu 310000 65000 y 40 40)(h3:Zu 310000 65000 z 3 0)(h6:Zu 310000 65000 z2 3 0)(P:CirP ts (x,y) (x2,y2) z z2)
  (h0:ak (eD (aB (x,y) (x2,y2)))≠0) :
  FP 281 [aV ts,nA (sX (z+aB (x,y) (x2,y2)-z2)),nA (sX (eD (aB (x,y) (x2,y2))))] (.tup [nA (sX ((z+aB (x,y) (x2,y2)-z2)*iE (eD (aB (x,y) (x2,y2))))),.v .nilIface]) /\
  Zu 310000 65000 ((z+aB (x,y) (x2,y2)-z2)*iE (eD (aB (x,y) (x2,y2)))) 1931 1972/\Zu 310000 65000 (cV (x,y) (x2,y2) z z2).1 2051 2095/\Zu 310000 65000 (cV (x,y) (x2,y2) z z2).2 2051 2095:=by
 haveI:=h1;haveI:=h2;haveI:=h3;haveI:=h6;haveI:=P.zd;haveI:=P.zt
 have hd:=pZ (ts:=ts) (u:=310000) (k:=65000) (a:=sX (z+aB (x,y) (x2,y2)-z2)) (b:=sX (eD (aB (x,y) (x2,y2)))) (j:=ts.length) P.zt.nm.nl (WZ _) hn h0 (by decide);haveI zk:=hd.2;haveI:=P.z1;haveI:=P.z2
 exact⟨hd.1,zk,(inferInstance:Zu 310000 65000 (x+((z+aB (x,y) (x2,y2)-z2)*iE (eD (aB (x,y) (x2,y2))))*(fB (x,y) (x2,y2)).1) _ _),
  (inferInstance:Zu 310000 65000 (y+((z+aB (x,y) (x2,y2)-z2)*iE (eD (aB (x,y) (x2,y2))))*(fB (x,y) (x2,y2)).2) _ _)⟩
structure ExtP{ts:LL}(X:Et ts):Prop where
  tw:Tw (aS ts (sX X)) 366909990
  cy:Cy (aS ts (sX X)) 773000000 1101400000
theorem sP{ts:LL}{X:Et ts}(tw:Tw ts 64990)(hn:ts.length<=1)(hx:Zu 310000 65000 X 976 989)(hs:0<=ak X):ExtP X:=by
 have h9:0<=T.sgn (ay ts) ts.length (ae ts.length (sX X)):=by rw[show ae ts.length (sX X)=X from bf _ _];exact hs
 have hm:=hx.nm;exact⟨Bp tw oz hm (by decide) h9,QK tw hn hm (by decide) h9 oz (by decide)⟩
theorem ke{ts:LL}{X x:Et ts}{w v:Nat}(hn:ts.length<=1)(h:Zu 310000 65000 x w v)(hs:w*310000+v*65000<=773000000):Zl (aS ts (sX X)) 773000000 1101400000 (sX x) (aL X x) 1 0:=Zl.at (lY h.nm oz) hs
theorem ox{ts:LL}{X x:Et ts}:ak (aL X x)=ak x:=by
 show ak (dE (aS ts (sX X)) (sX x))=_;rw[SP (l:=sX x) (eH _ _)];show ak (dE ts (sX x))=_;rw[show dE ts (sX x)=x from bf _ _]
theorem xl{ts:LL}{r:Nat}(tw:Tw ts r)(d:Et ts):ak (eD d)=ak d:=by
 have h:=da (ay ts) ts.length tw.pos
 have h2:sg (ay ts) ts.length (qE ((2:Int):Rat):Et ts)=1:=by
  show T.sgn (ay ts) ts.length (T.ofQ ts.length ((2:Int):Rat))=1;rw[T.sgn_ofQ];rfl
 have h3:=h.mul (qE ((2:Int):Rat)) d;rw[h2,Int.one_mul]at h3;exact h3
structure SideP{ts:LL}(X d:Et ts)(f v:P2 ts):Prop where
  hd:FP 281 [aV (aS ts (sX X)),nA (cr ts.length),nA (sX (eD d))] (.tup [nA (sX (dW X d)),.v .nilIface])
  ht:Con prog 267 [.ptr 1000 0,i64 (-1),nA (sX v.2)] [(1000,some (bg (aS ts (sX X))))] (nA (sX (qE ((-1:Int):Rat)*aL X v.2))) [(1000,some (bg (aS ts (sX X))))]
  hu:Con prog 267 [.ptr 1000 0,i64 (-1),nA (sX (dW X d))] [(1000,some (bg (aS ts (sX X))))] (nA (sX (qE ((-1:Int):Rat)*dW X d))) [(1000,some (bg (aS ts (sX X))))]
  a1:Con prog 268 [.ptr 1000 0,aM (sX f.1) (sX f.2),nA (sX (dW X d)),aM (sX (qE ((-1:Int):Rat)*aL X v.2)) (sX v.1)] [(1000,some (bg (aS ts (sX X))))] (di (gp X f v (dW X d)).l) [(1000,some (bg (aS ts (sX X))))]
  a2:Con prog 268 [.ptr 1000 0,aM (sX f.1) (sX f.2),nA (sX (qE ((-1:Int):Rat)*dW X d)),aM (sX (qE ((-1:Int):Rat)*aL X v.2)) (sX v.1)] [(1000,some (bg (aS ts (sX X))))] (di (gp X f v (qE ((-1:Int):Rat)*dW X d)).l) [(1000,some (bg (aS ts (sX X))))]
  n1:Zu 773000000 1101400000 (gp X f v (dW X d)).1 9 6/\Zu 773000000 1101400000 (gp X f v (dW X d)).2 9 6
  n2:Zu 773000000 1101400000 (gp X f v (qE ((-1:Int):Rat)*dW X d)).1 10 7/\Zu 773000000 1101400000 (gp X f v (qE ((-1:Int):Rat)*dW X d)).2 10 7
theorem GA{ts:LL}{X d:Et ts}{f v:P2 ts}(hn:ts.length<=1)(E:ExtP X)(hd:Zu 310000 65000 (eD d) 321 328)(h0:ak (eD d)≠0)(f1:Zu 310000 65000 f.1 2051 2095)(f2:Zu 310000 65000 f.2 2051 2095)
  (v1:Zu 310000 65000 v.1 80 81) (v2:Zu 310000 65000 v.2 80 81):SideP X d f v:=by
 haveI cy:=E.cy;haveI zr:Zl (aS ts (sX X)) 773000000 1101400000 (cr ts.length) (dE _ (cr ts.length)) 1 0:=Zl.at (tT oz) (by decide);haveI zd:=ke (X:=X) hn hd (by decide);haveI zf1:=ke (X:=X) hn f1 (by decide);haveI zf2:=ke (X:=X) hn f2 (by decide);haveI zv1:=ke (X:=X) hn v1 (by decide);haveI zv2:=ke (X:=X) hn v2 (by decide);haveI:=zf1.zu;haveI:=zf2.zu;haveI:=zv1.zu;haveI:=zv2.zu
 have hdiv:=pZ (ts:=aS ts (sX X)) (u:=773000000) (k:=1101400000) (a:=cr ts.length) (b:=sX (eD d)) (j:=ts.length) hd.nm.nl (by rw[dC];omega) hn (by rw[ox];exact h0) (by decide);haveI zs:Zu 773000000 1101400000 (dW X d) 6 3:=hdiv.2;haveI qm:Qz 773000000 ((-1:Int):Rat) 1:=Qz.int (c:=Cy.cx (c:=cy)) (by decide);haveI zm:Zu 773000000 1101400000 (qE ((-1:Int):Rat)*aL X v.2) 2 1:=inferInstance;haveI zu:Zu 773000000 1101400000 (qE ((-1:Int):Rat)*dW X d) 7 4:=inferInstance;have ht:=zB (ts:=aS ts (sX X)) (u:=773000000) (k:=1101400000) (a:=sX v.2) (-1) oz (by decide);have hu:=zB (ts:=aS ts (sX X)) (u:=773000000) (k:=1101400000) (a:=sX (dW X d)) (-1) oz (by decide)
 have al:∀{c:Et (aS ts (sX X))}{w k:Nat}(zc:Zu 773000000 1101400000 c w k),w<=7->k<=4 ->
   Con prog 268 [.ptr 1000 0,aM (sX f.1) (sX f.2),nA (sX c),aM (sX (qE ((-1:Int):Rat)*aL X v.2)) (sX v.1)] [(1000,some (bg (aS ts (sX X))))] (di (gp X f v c).l) [(1000,some (bg (aS ts (sX X))))]:=by
  intro c w k zc hw hk;haveI:=zc;have m1:=jA (ts:=aS ts (sX X)) (u:=773000000) (k:=1101400000) (a:=sX c) (b:=sX (qE ((-1:Int):Rat)*aL X v.2)) oz;have m2:=jA (ts:=aS ts (sX X)) (u:=773000000) (k:=1101400000) (a:=sX c) (b:=sX v.1) oz;have m3:=j5 (ts:=aS ts (sX X)) (u:=773000000) (k:=1101400000) (a:=sX f.1) (b:=sX (c*(qE ((-1:Int):Rat)*aL X v.2))) oz;have m4:=j5 (ts:=aS ts (sX X)) (u:=773000000) (k:=1101400000) (a:=sX f.2) (b:=sX (c*aL X v.1)) oz;exact ry m1 m2 m3 m4
 exact⟨hdiv.1,ht,hu,al zs oz oz,al zu oz oz,
  ⟨(inferInstance:Zu 773000000 1101400000 (aL X f.1+dW X d*(qE ((-1:Int):Rat)*aL X v.2)) 9 6),⟨(inferInstance:Zu 773000000 1101400000 (aL X f.2+dW X d*aL X v.1) _ _).nm.mono (by decide)⟩⟩,
  ⟨(inferInstance:Zu 773000000 1101400000 (aL X f.1+qE ((-1:Int):Rat)*dW X d*(qE ((-1:Int):Rat)*aL X v.2)) 10 7),⟨(inferInstance:Zu 773000000 1101400000 (aL X f.2+qE ((-1:Int):Rat)*dW X d*aL X v.1) _ _).nm.mono (by decide)⟩⟩⟩
theorem N0(h:TR rs 64990)(hc:bF rs=0)(hn:(llq rs).length<=1)[c0:Ct (llq rs) 310000 65000][i1:Zl (llq rs) 310000 65000 a x 40 40][i2:Zl (llq rs) 310000 65000 b y 40 40][i3:Zl (llq rs) 310000 65000 c z 3 0][i4:Zl (llq rs) 310000 65000 a2 x2 40 40][i5:Zl (llq rs) 310000 65000 b2 y2 40 40][i6:Zl (llq rs) 310000 65000 c2 z2 3 0]
  (ha:a=sX x) (hb:b=sX y) (s1:0<=ak z) (s2:0<=ak z2):FP 157 [dB rs,.agg [nA a,nA b,nA c],.agg [nA a2,nA b2,nA c2]] (.tup [(dY (x,y) (x2,y2) z z2).av,bq (fg (x,y) (x2,y2) z z2)]):=by
 have hz:∀q∈[(a,b,c),(a2,b2,c2)],CiZ rs q:=fun q hq=>by
  simp only[Xu,Xf,or_false]at hq;rcases hq with rfl |rfl
  ·exact⟨i1.nm.mono oz,i2.nm.mono oz,i3.nm.mono oz,by show 0<=ak (dE (llq rs) c);rw[show dE (llq rs) c=z from i3.eq];exact s1⟩
  ·exact⟨i4.nm.mono oz,i5.nm.mono oz,i6.nm.mono oz,by show 0<=ak (dE (llq rs) c2);rw[show dE (llq rs) c2=z2 from i6.eq];exact s2⟩
 have hck:=J7 h hc [(a,b,c),(a2,b2,c2)] hz (by show 2<=100;omega);obtain⟨tw,etw⟩:=de h hc;haveI cy:Cy (llq rs) 310000 65000:=⟨c0.ex,by omega,by omega,by omega⟩
 have P:=Hu c0 i1.zu i2.zu i3.zu i4.zu i5.zu i6.zu;haveI:=P.zd;haveI:=P.zX;haveI:=i3.zu;haveI:=i6.zu;have m1:=qL (ts:=llq rs) (u:=310000) (k:=65000) (a:=sX (aB (x,y) (x2,y2))) (by decide);have m2:=qL (ts:=llq rs) (u:=310000) (k:=65000) (a:=sX (bn (x,y) z (x2,y2) z2)) (by decide);have m0:=Con.sA (.cons (.refl _) (.cons (Sub.nil 2 none 0) .nil)) (mF tw []);have w1:=lP (ts:=llq rs) (u:=310000) (k:=65000) (a:=a2) (b:=a) (by decide);have w2:=lP (ts:=llq rs) (u:=310000) (k:=65000) (a:=b2) (b:=b) (by decide);haveI q2:Qz 310000 ((2:Int):Rat) 1:=Qz.int (c:=Cy.cx (c:=cy)) (by decide);have t2:=zB (ts:=llq rs) (u:=310000) (k:=65000) (a:=sX (aB (x,y) (x2,y2))) 2 oz (by decide);have k1:=j5 (ts:=llq rs) (u:=310000) (k:=65000) (a:=c) (b:=sX (aB (x,y) (x2,y2))) (by decide);have k2:=lP (ts:=llq rs) (u:=310000) (k:=65000) (a:=sX (z+aB (x,y) (x2,y2))) (b:=c2) (by decide);subst ha;subst hb;refine aj func157 ?_;refine gc hck ?_;refine gC (fun t24=>?_) (fun t24=>?_) (st1:=(3,0)) (st2:=(5,0));cases t24;refine gW (Wk.o (sl:=[(4,some (.ptr 4 0)),(5,some (.ptr 5 0)),(6,some (.ptr 6 0)),(9,some (.ptr 29 0))]) (hp:=[(4,some (.box [nA (sX x),nA (sX y),nA c])),(5,some (.box [nA a2,nA b2,nA c2])),(6,some (.box [nS,nS])),(29,some (dw rs))])) ?_;refine gt (aE (Con.rB 29 rfl rfl rfl rfl (MK h hc)) (aJ rfl rfl rfl) aH rfl rfl) ?_ (6,0);refine gW (Wk.of (sl:=[(4,some (.ptr 4 0)),(5,some (.ptr 5 0)),(6,some (.ptr 6 0)),(9,some (.ptr 29 0)),(10,some (nA (sX (bn (x,y) z (x2,y2) z2)))),(11,some (nA (sX (aB (x,y) (x2,y2)))))]) (hp:=[(4,some (.box [nA (sX x),nA (sX y),nA c])),(5,some (.box [nA a2,nA b2,nA c2])),(6,some (.box [nS,nS])),(29,some (bg (llq rs)))]) a8 (.k (.k (.k (.cons rfl (BlkSub.bL (.cons (.of (nG etw)) (.cons (.refl _) .nil)) rfl) .nil))))) ?_
 refine gt (aW (Con.rB 29 rfl rfl rfl rfl m1) (bD rfl rfl) rfl rfl rfl) ?_;refine gC (fun t40=>?_) (fun t40=>?_)
 ·have hd0:ak (aB (x,y) (x2,y2))=0:=cK t40;refine gt (aW (Con.rB 29 rfl rfl rfl rfl (P7 (a:=sX x) (b:=sX y) (c:=c) (a2:=a2) (b2:=b2) (c2:=c2) tw)) (aJ rfl rfl rfl) rfl rfl rfl) ?_;refine br ?_;unfold dY fg;rw[XK hd0,XK hd0]
 have hd0:¬ak (aB (x,y) (x2,y2))=0:=dq t40;refine gt (aW (Con.rB 29 rfl rfl rfl rfl m2) (bD rfl rfl) rfl rfl rfl) ?_;refine gC (fun t51=>?_) (fun t51=>?_)
 ·have hx0:ak (bn (x,y) z (x2,y2) z2)<0:=of_decide_eq_true t51;refine gt (aW (Con.rB 29 rfl rfl rfl rfl m0) (.cons (.tmp rfl) (.cons (.const _) .nil)) rfl rfl rfl) ?_;refine br ?_;unfold dY fg;rw[XJ hd0,XJ hd0,XK hx0];rfl
 have hx0:¬ak (bn (x,y) z (x2,y2) z2)<0:=of_decide_eq_false t51;have ht0:ak (eD (aB (x,y) (x2,y2)))≠0:=by rw[xl tw];exact hd0
 obtain⟨fd,fk,f1,f2⟩:=I4 hn i1.zu i2.zu i3.zu i6.zu P ht0;haveI:=fk;haveI:=P.z1;haveI:=P.z2;have g1:=jA (ts:=llq rs) (u:=310000) (k:=65000) (a:=sX ((z+aB (x,y) (x2,y2)-z2)*iE (eD (aB (x,y) (x2,y2))))) (b:=sX (fB (x,y) (x2,y2)).1) (by decide);have g2:=jA (ts:=llq rs) (u:=310000) (k:=65000) (a:=sX ((z+aB (x,y) (x2,y2)-z2)*iE (eD (aB (x,y) (x2,y2))))) (b:=sX (fB (x,y) (x2,y2)).2) (by decide);have g3:=j5 (ts:=llq rs) (u:=310000) (k:=65000) (a:=sX x) (b:=sX ((z+aB (x,y) (x2,y2)-z2)*iE (eD (aB (x,y) (x2,y2)))*(fB (x,y) (x2,y2)).1)) (by decide);have g4:=j5 (ts:=llq rs) (u:=310000) (k:=65000) (a:=sX y) (b:=sX ((z+aB (x,y) (x2,y2)-z2)*iE (eD (aB (x,y) (x2,y2)))*(fB (x,y) (x2,y2)).2)) (by decide);have gal:=ry g1 g2 g3 g4;refine gt (aW (Con.rB 29 rfl rfl rfl rfl w1) (aJ rfl rfl rfl) rfl rfl rfl) ?_;refine gt (aW (Con.rB 29 rfl rfl rfl rfl w2) (aJ rfl rfl rfl) rfl rfl rfl) ?_;refine gD ?_;refine gt (aW (Con.rB 29 rfl rfl rfl rfl t2) (.cons (.tmp rfl) (.cons (.const _) (cC rfl))) rfl rfl rfl) ?_;refine gt (aW (Con.rB 29 rfl rfl rfl rfl k1) (aJ rfl rfl rfl) rfl rfl rfl) ?_;refine gt (aW (Con.rB 29 rfl rfl rfl rfl k2) (aJ rfl rfl rfl) rfl rfl rfl) ?_;refine gt (aW (Con.rB 29 rfl rfl rfl rfl (rQ fd)) (aJ rfl rfl rfl) rfl rfl rfl) ?_;refine gt (aW (Con.rB 29 rfl rfl rfl rfl gal) (.cons (.tmp rfl) (.cons (.tmp rfl) (.cons (.tmp rfl) (.cons (.tmp rfl) .nil)))) rfl rfl rfl) ?_;refine gD ?_;refine gC (fun t94=>?_) (fun t94=>?_)
 ·have hx1:ak (bn (x,y) z (x2,y2) z2)=0:=cK t94;refine gt (aW (Con.rB 29 rfl rfl rfl rfl (mF tw [di (cV (x,y) (x2,y2) z z2).l])) (bD rfl rfl) rfl rfl rfl) ?_;refine br ?_;unfold dY fg;rw[XJ hd0,XJ hd0,XJ hx0,XK hx1];rfl
 have hx1:¬ak (bn (x,y) z (x2,y2) z2)=0:=dq t94;have E:ExtP (bn (x,y) z (x2,y2) z2):=sP tw hn P.zX oz;have S:=GA (X:=bn (x,y) z (x2,y2) z2) (d:=aB (x,y) (x2,y2)) (f:=cV (x,y) (x2,y2) z z2) (v:=fB (x,y) (x2,y2)) hn E P.zt ht0 f1 f2 P.z1 P.z2;have hex:=Dt (a:=sX (bn (x,y) z (x2,y2) z2)) tw P.zX.nm (by rw[cy.lm];decide) (by rw[show ae (llq rs).length (sX (bn (x,y) z (x2,y2) z2))=bn (x,y) z (x2,y2) z2 from bf _ _];show 0<=ak (bn (x,y) z (x2,y2) z2);omega);refine gt (aE (Con.rB 29 rfl rfl rfl rfl hex) (bD rfl rfl) aH rfl rfl) ?_;refine gt (aW (Con.rB 29 rfl rfl rfl rfl (rQ S.hd)) (aJ rfl rfl rfl) rfl rfl rfl) ?_;refine gt (aW (Con.rB 29 rfl rfl rfl rfl S.ht) (.cons (.tmp rfl) (.cons (.const _) (cC rfl))) rfl rfl rfl) ?_;refine gD ?_;refine gt (aW (Con.rB 29 rfl rfl rfl rfl S.a1) (.cons (.tmp rfl) (.cons (.tmp rfl) (.cons (.tmp rfl) (.cons (.tmp rfl) .nil)))) rfl rfl rfl) ?_;refine gt (aW (Con.rB 29 rfl rfl rfl rfl S.hu) (.cons (.tmp rfl) (.cons (.const _) (cC rfl))) rfl rfl rfl) ?_;refine gt (aW (Con.rB 29 rfl rfl rfl rfl S.a2) (.cons (.tmp rfl) (.cons (.tmp rfl) (.cons (.tmp rfl) (.cons (.tmp rfl) .nil)))) rfl rfl rfl) ?_;refine gt (aW (Con.rB 29 rfl rfl rfl rfl (mF E.tw [di (gp (bn (x,y) z (x2,y2) z2) (cV (x,y) (x2,y2) z z2) (fB (x,y) (x2,y2)) (dW (bn (x,y) z (x2,y2) z2) (aB (x,y) (x2,y2)))).l,di (gp (bn (x,y) z (x2,y2) z2) (cV (x,y) (x2,y2) z z2) (fB (x,y) (x2,y2)) (qE ((-1:Int):Rat)*dW (bn (x,y) z (x2,y2) z2) (aB (x,y) (x2,y2)))).l])) (bD rfl rfl) rfl rfl rfl) ?_;refine gD ?_;refine br ?_;unfold dY fg;rw[XJ hd0,XJ hd0,XJ hx0,XJ hx1];rfl
end
section
variable{ts:LL}
abbrev bh(p q:P2 ts):Et ts:=dK (aR q p) (aR q p)
abbrev bH(p q c:P2 ts):Et ts:=dK (aR q p) (aR c p)
abbrev ip(p q c:P2 ts):Et ts:=jr (aR q p) (aR c p)
abbrev aU(p q c:P2 ts)(z:Et ts):Et ts:=bh p q*z-ip p q c*ip p q c
def fp(X:Et ts)(S:Et ts)(k:Et (aS ts (sX X))):Et (aS ts (sX X)):=k*iE (aL X S)
def iZ(X:Et ts)(p v:P2 ts)(k:Et (aS ts (sX X))):P2 (aS ts (sX X)):=cR (aL X p.1,aL X p.2) k (aL X v.1,aL X v.2)
abbrev bu(X:Et ts):Et (aS ts (sX X)):=dE _ (cr ts.length)
def dX(p q c:P2 ts)(z:Et ts):Mt :=
  if ak (bh p q)=0 then⟨[],[]⟩else if ak (aU p q c z)=-1 then⟨ts,[]⟩else if ak (aU p q c z)=0 then⟨ts,[(cR p (bH p q c*iE (bh p q)) (aR q p)).l]⟩
  else⟨aS ts (sX (aU p q c z)),[(iZ (aU p q c z) p (aR q p) (fp (aU p q c z) (bh p q) (aL (aU p q c z) (bH p q c)+bu (aU p q c z)))).l,
    (iZ (aU p q c z) p (aR q p) (fp (aU p q c z) (bh p q) (aL (aU p q c z) (bH p q c)-bu (aU p q c z)))).l]⟩
def eZ(p q:P2 ts):Nat:=if ak (bh p q)=0 then 8 else 0
structure LinP(p q c:P2 ts)(z:Et ts):Prop where
  v1:Zu 310000 65000 (aR q p).1 80 81
  v2:Zu 310000 65000 (aR q p).2 80 81
  w1:Zu 310000 65000 (aR c p).1 80 81
  w2:Zu 310000 65000 (aR c p).2 80 81
  zs:Zu 310000 65000 (bh p q) 320 327
  ze:Zu 310000 65000 (bH p q c) 320 327
  zc:Zu 310000 65000 (ip p q c) 320 327
  zX:Zu 310000 65000 (aU p q c z) 963 984
theorem FH{p q c:P2 ts}{z:Et ts}(c0:Cy ts 310000 65000)(h1:Zu 310000 65000 p.1 40 40)(h2:Zu 310000 65000 p.2 40 40)(h3:Zu 310000 65000 q.1 40 40)(h4:Zu 310000 65000 q.2 40 40)(h5:Zu 310000 65000 c.1 40 40)(h6:Zu 310000 65000 c.2 40 40)(h7:Zu 310000 65000 z 3 0):LinP p q c z:=by
 haveI:=c0;haveI:=h1;haveI:=h2;haveI:=h3;haveI:=h4;haveI:=h5;haveI:=h6;haveI:=h7
 haveI v1:=(inferInstance:Zu 310000 65000 (q.1-p.1) 80 81)
 haveI v2:=(inferInstance:Zu 310000 65000 (q.2-p.2) 80 81)
 haveI w1:=(inferInstance:Zu 310000 65000 (c.1-p.1) 80 81)
 haveI w2:=(inferInstance:Zu 310000 65000 (c.2-p.2) 80 81)
 haveI zs:Zu 310000 65000 (bh p q) 320 327:=(inferInstance:Zu 310000 65000 ((q.1-p.1)*(q.1-p.1)+(q.2-p.2)*(q.2-p.2)) _ _)
 haveI ze:Zu 310000 65000 (bH p q c) 320 327:=(inferInstance:Zu 310000 65000 ((q.1-p.1)*(c.1-p.1)+(q.2-p.2)*(c.2-p.2)) _ _)
 haveI zc:Zu 310000 65000 (ip p q c) 320 327:=(inferInstance:Zu 310000 65000 ((q.1-p.1)*(c.2-p.2)-(q.2-p.2)*(c.1-p.1)) _ _)
 exact⟨v1,v2,w1,w2,zs,ze,zc,inferInstance⟩
structure LinQ(p q c:P2 ts):Prop where
  hd:FP 281 [aV ts,nA (sX (bH p q c)),nA (sX (bh p q))] (.tup [nA (sX (bH p q c*iE (bh p q))),.v .nilIface])
  al:Con prog 268 [.ptr 1000 0,aM (sX p.1) (sX p.2),nA (sX (bH p q c*iE (bh p q))),aM (sX (aR q p).1) (sX (aR q p).2)] [(1000,some (bg ts))] (di (cR p (bH p q c*iE (bh p q)) (aR q p)).l) [(1000,some (bg ts))]
  n1:Zu 310000 65000 (cR p (bH p q c*iE (bh p q)) (aR q p)).1 2040 2088
  n2:Zu 310000 65000 (cR p (bH p q c*iE (bh p q)) (aR q p)).2 2040 2088
theorem IX{p q c:P2 ts}{z:Et ts}(c0:Cy ts 310000 65000)(hn:ts.length<=1)(h1:Zu 310000 65000 p.1 40 40)(h2:Zu 310000 65000 p.2 40 40)(P:LinP p q c z)(h0:ak (bh p q)≠0):LinQ p q c:=by
 haveI:=c0;haveI:=h1;haveI:=h2;haveI:=P.v1;haveI:=P.v2;haveI:=P.zs;haveI:=P.ze
 have hd:=pZ (ts:=ts) (u:=310000) (k:=65000) (a:=sX (bH p q c)) (b:=sX (bh p q)) (j:=ts.length) P.zs.nm.nl (WZ _) hn h0 (by decide);haveI:=hd.2;have m1:=jA (ts:=ts) (u:=310000) (k:=65000) (a:=sX (bH p q c*iE (bh p q))) (b:=sX (aR q p).1) (by decide);have m2:=jA (ts:=ts) (u:=310000) (k:=65000) (a:=sX (bH p q c*iE (bh p q))) (b:=sX (aR q p).2) (by decide);have m3:=j5 (ts:=ts) (u:=310000) (k:=65000) (a:=sX p.1) (b:=sX (bH p q c*iE (bh p q)*(aR q p).1)) (by decide);have m4:=j5 (ts:=ts) (u:=310000) (k:=65000) (a:=sX p.2) (b:=sX (bH p q c*iE (bh p q)*(aR q p).2)) (by decide);exact⟨hd.1,ry m1 m2 m3 m4,(inferInstance:Zu 310000 65000 (p.1+bH p q c*iE (bh p q)*(aR q p).1) _ _),(inferInstance:Zu 310000 65000 (p.2+bH p q c*iE (bh p q)*(aR q p).2) _ _)⟩
structure LinS(X:Et ts)(S:Et ts)(p v:P2 ts)(k:Et (aS ts (sX X))):Prop where
  hd:FP 281 [aV (aS ts (sX X)),nA (sX k),nA (sX S)] (.tup [nA (sX (fp X S k)),.v .nilIface])
  al:Con prog 268 [.ptr 1000 0,aM (sX p.1) (sX p.2),nA (sX (fp X S k)),aM (sX v.1) (sX v.2)] [(1000,some (bg (aS ts (sX X))))] (di (iZ X p v (fp X S k)).l) [(1000,some (bg (aS ts (sX X))))]
  n1:Zu 773000000 1101400000 (iZ X p v (fp X S k)).1 9 6
  n2:Zu 773000000 1101400000 (iZ X p v (fp X S k)).2 9 6
theorem wi{X S:Et ts}{p v:P2 ts}{k:Et (aS ts (sX X))}(hn:ts.length<=1)(E:ExtP X)(hs:Zu 310000 65000 S 320 327)(h0:ak S≠0)(p1:Zu 310000 65000 p.1 40 40)(p2:Zu 310000 65000 p.2 40 40)(v1:Zu 310000 65000 v.1 80 81)(v2:Zu 310000 65000 v.2 80 81)
  (hk:Zu 773000000 1101400000 k 2 1):LinS X S p v k:=by
 haveI cy:=E.cy;haveI:=hk;haveI zs:=ke (X:=X) hn hs (by decide);haveI zp1:=ke (X:=X) hn p1 (by decide);haveI zp2:=ke (X:=X) hn p2 (by decide);haveI zv1:=ke (X:=X) hn v1 (by decide);haveI zv2:=ke (X:=X) hn v2 (by decide);haveI:=zp1.zu;haveI:=zp2.zu;haveI:=zv1.zu;haveI:=zv2.zu
 have hdiv:=pZ (ts:=aS ts (sX X)) (u:=773000000) (k:=1101400000) (a:=sX k) (b:=sX S) (j:=ts.length) hs.nm.nl (by rw[dC];omega) hn (by rw[ox];exact h0) (by decide);haveI zk:Zu 773000000 1101400000 (fp X S k) 7 4:=hdiv.2;have m1:=jA (ts:=aS ts (sX X)) (u:=773000000) (k:=1101400000) (a:=sX (fp X S k)) (b:=sX v.1) (by decide);have m2:=jA (ts:=aS ts (sX X)) (u:=773000000) (k:=1101400000) (a:=sX (fp X S k)) (b:=sX v.2) (by decide);have m3:=j5 (ts:=aS ts (sX X)) (u:=773000000) (k:=1101400000) (a:=sX p.1) (b:=sX (fp X S k*aL X v.1)) (by decide);have m4:=j5 (ts:=aS ts (sX X)) (u:=773000000) (k:=1101400000) (a:=sX p.2) (b:=sX (fp X S k*aL X v.2)) (by decide);exact⟨hdiv.1,ry m1 m2 m3 m4,(inferInstance:Zu 773000000 1101400000 (aL X p.1+fp X S k*aL X v.1) 9 6),(inferInstance:Zu 773000000 1101400000 (aL X p.2+fp X S k*aL X v.2) 9 6)⟩
theorem x7{X:Et ts}{w v w' v' u k:Nat}(h:Zu u k X w v)(hw:w<=w')(hv:v<=v'):Zu u k X w' v':=⟨h.nm.mono (BD hw hv)⟩
theorem Vy{x:Int}(h:cond (cond (eF Value.nilIface) (aa .eql x 0) false) (eF Value.nilIface) false=true):x=0:=by
 cases h9:aa .eql x 0
 ·rw[h9]at h;cases h
 ·exact cK h9
theorem VB{x:Int}(h:cond (cond (eF Value.nilIface) (aa .eql x 0) false) (eF Value.nilIface) false=false):x≠0:=by
 cases h9:aa .eql x 0
 ·exact dq h9
 ·rw[h9]at h;cases h
theorem TQ{x y:AV}{i:Nat}{Q:AV->Prop}(hi:i<2)(hx:Q x)(hy:Q y):∃z,[x,y][i]?=some z/\Q z:=by
 have h:i=0\/i=1:=by omega
 rcases h with rfl |rfl
 ·exact⟨x,rfl,hx⟩
 ·exact⟨y,rfl,hy⟩
theorem HB{r e:Nat}{a b c d:Et ts}(tw:Tw ts r)(hl:lm ts.length=200000000000)(h1:Nm ts.length e (sX a))(h2:Nm ts.length e (sX b))(h3:Nm ts.length e (sX c))(h4:Nm ts.length e (sX d))(he:e+e+kB r ts.length<=100000000000) :
  FP 80 [aV ts,aM (sX a) (sX b),aM (sX c) (sX d)] (.tup [nA (sX (a*c+b*d)),.v .nilIface]):=by
 have h:=tL tw h1 h2 h3 h4 (by rw[hl];omega);rw[show ae ts.length (sX a)=a from bf _ _,show ae ts.length (sX b)=b from bf _ _,show ae ts.length (sX c)=c from bf _ _,show ae ts.length (sX d)=d from bf _ _]at h;exact h
theorem V7{r e:Nat}{a b c d:Et ts}(tw:Tw ts r)(hl:lm ts.length=200000000000)(h1:Nm ts.length e (sX a))(h2:Nm ts.length e (sX b))(h3:Nm ts.length e (sX c))(h4:Nm ts.length e (sX d))(he:e+e+kB r ts.length<=100000000000) :
  FP 77 [aV ts,aM (sX a) (sX b),aM (sX c) (sX d)] (.tup [nA (sX (a*d-b*c)),.v .nilIface]):=by
 have h:=Ar tw h1 h2 h3 h4 (by rw[hl];omega);rw[show ae ts.length (sX a)=a from bf _ _,show ae ts.length (sX b)=b from bf _ _,show ae ts.length (sX c)=c from bf _ _,show ae ts.length (sX d)=d from bf _ _]at h;exact h
end
section
variable{rs:List (List Rt)}{c:List Rat}{o p q:P2 (llq rs)}{z:Et (llq rs)}
theorem Ki(h:TR rs 64990)(hc:bF rs=0)(hn:(llq rs).length<=1)(c0:Ct (llq rs) 310000 65000)(ho1:Zu 310000 65000 o.1 40 40)(ho2:Zu 310000 65000 o.2 40 40)(p1:Zu 310000 65000 p.1 40 40)(p2:Zu 310000 65000 p.2 40 40)(q1:Zu 310000 65000 q.1 40 40)(q2:Zu 310000 65000 q.2 40 40)
  [i3:Zl (llq rs) 310000 65000 c z 3 0] (s1:0<=ak z):FP 159 [dB rs,.agg [nA (sX o.1),nA (sX o.2),nA c],di p.l,di q.l] (.tup [(dX p q o z).av,bq (eZ p q)]):=by
 obtain⟨tw,etw⟩:=de h hc;haveI cy:Cy (llq rs) 310000 65000:=⟨c0.ex,by obtain⟨_,h9,_⟩:=c0;exact h9,by obtain⟨_,_,h9,_⟩:=c0;exact h9,by omega⟩
 have hlm:=cy.lm;have hck:=qG rs 64990 h;rw[hc]at hck;have P:=FH cy p1 p2 q1 q2 ho1 ho2 i3.zu;haveI:=ho1;haveI:=ho2;haveI:=p1;haveI:=p2;haveI:=q1;haveI:=q2;haveI:=P.v1;haveI:=P.v2;haveI:=P.w1;haveI:=P.w2;haveI:=P.zs;haveI:=P.ze;haveI:=P.zc;haveI:=P.zX
 have hci:=Ix (e:=40*310000+40*65000) h hc ho1.nm ho2.nm (i3.nm.mono (by decide)) (by rw[hlm];decide)
 have hra:=EL h hc [(sX o.1,sX o.2,c)] (fun y hy=>by
  rw[List.mem_singleton.1 hy];exact⟨ho1.nm.mono (by decide),ho2.nm.mono (by decide),i3.nm.mono (by decide),by show 0<=ak (dE (llq rs) c);rw[show dE (llq rs) c=z from i3.eq];exact s1⟩) (by show 1<=100;omega)
 have a1:=lP (ts:=llq rs) (u:=310000) (k:=65000) (a:=sX q.1) (b:=sX p.1) (by decide);have a2:=lP (ts:=llq rs) (u:=310000) (k:=65000) (a:=sX q.2) (b:=sX p.2) (by decide);have a3:=lP (ts:=llq rs) (u:=310000) (k:=65000) (a:=sX o.1) (b:=sX p.1) (by decide);have a4:=lP (ts:=llq rs) (u:=310000) (k:=65000) (a:=sX o.2) (b:=sX p.2) (by decide);have hkb:80*310000+81*65000+(80*310000+81*65000)+kB 64990 (llq rs).length<=100000000000:=by have:=Ac hn;omega
 have b1:=HB tw hlm P.v1.nm P.v2.nm P.v1.nm P.v2.nm hkb;have b2:=HB tw hlm P.v1.nm P.v2.nm P.w1.nm P.w2.nm hkb;have b3:=V7 tw hlm P.v1.nm P.v2.nm P.w1.nm P.w2.nm hkb;rw[<- etw]at b1 b2 b3;have m1:=qL (ts:=llq rs) (u:=310000) (k:=65000) (a:=sX (bh p q)) (by decide);have m2:=jA (ts:=llq rs) (u:=310000) (k:=65000) (a:=sX (bh p q)) (b:=c) (by decide);have m3:=jA (ts:=llq rs) (u:=310000) (k:=65000) (a:=sX (ip p q o)) (b:=sX (ip p q o)) (by decide);haveI zz:=i3.zu;have m4:=lP (ts:=llq rs) (u:=310000) (k:=65000) (a:=sX (bh p q*z)) (b:=sX (ip p q o*ip p q o)) (by decide);have m5:=qL (ts:=llq rs) (u:=310000) (k:=65000) (a:=sX (aU p q o z)) (by decide);have m0:=Con.sA (.cons (.refl _) (.cons (Sub.nil 2 none 0) .nil)) (mF tw []);refine aj func159 ?_;refine gc hck ?_;refine gC (fun t27=>?_) (fun t27=>?_) (st1:=(3,0));cases t27;refine gc hci ?_;refine gC (fun t34=>?_) (fun t34=>?_) (st1:=(6,0));cases t34;refine ge rfl ?_;refine aZ [4,5,6,7,8,39,40] [4,5,6,7,8] (fun(i:Nat)=>[(41,some (i64 i))]) (fun _=>[]) (fun i=>i<=2) (fun i=>2-i) 0 (W7 _) ?_;rintro i hi K1 J1;refine gC (fun t42=>?_) (fun t42=>?_)
 ·have hin:i<2:=a6 (b:=2) t42;obtain⟨zz2,hz2,u,v,hu,hv,rfl⟩:=TQ (x:=di p.l) (y:=di q.l) (Q:=fun w=>∃u v,Nm (llq rs).length (40*310000+40*65000) u/\Nm (llq rs).length (40*310000+40*65000) v/\w=aM u v) hin ⟨_,_,p1.nm,p2.nm,rfl⟩ ⟨_,_,q1.nm,q2.nm,rfl⟩;refine gi hz2 ?_;refine gc (I2 h hc hu hv (by rw[hlm];decide)) ?_;refine gC (fun t49=>?_) (fun t49=>?_) (st1:=(12,0));cases t49;refine ga aO ?_;exact aP J1 (i+1) hin
 refine gc hra ?_;refine gC (fun t58=>?_) (fun t58=>?_) (st1:=(16,0)) (st2:=(18,0));cases t58;refine gW (Wk.of (sl:=[(4,some (.ptr 4 0)),(5,some (.ptr 5 0)),(6,some (.ptr 6 0)),(7,some (.ptr 7 0)),(8,some (.ptr 8 0)),(16,some (.ptr 63 0))]) (hp:=[(4,some (.box [.lst 1 (rs.map nR)])),(5,some (.box [nA (sX o.1),nA (sX o.2),nA c])),(6,some (.box [nA (sX p.1),nA (sX p.2)])),(7,some (.box [nA (sX q.1),nA (sX q.2)])),(8,some (.box [nS,nS])),(63,some (bg (llq rs)))]) a8 (.k (.k (.k (.k (.k (.cons rfl (BlkSub.bL (.cons (.of (nG etw)) (.cons (.refl _) .nil)) rfl) .nil))))))) ?_
 refine gt (aW (Con.rB 63 rfl rfl rfl rfl a1) (aJ rfl rfl rfl) rfl rfl rfl) ?_;refine gt (aW (Con.rB 63 rfl rfl rfl rfl a2) (aJ rfl rfl rfl) rfl rfl rfl) ?_;refine gD ?_;refine gt (aW (Con.rB 63 rfl rfl rfl rfl a3) (aJ rfl rfl rfl) rfl rfl rfl) ?_;refine gt (aW (Con.rB 63 rfl rfl rfl rfl a4) (aJ rfl rfl rfl) rfl rfl rfl) ?_;refine gD ?_;refine gc b1 ?_;refine gt (aW (Con.rB 63 rfl rfl rfl rfl (oK _ _)) (aJ rfl rfl rfl) rfl rfl rfl) ?_;refine gu (fw rfl rfl rfl (fun h=>aW (Con.rB 63 rfl rfl rfl rfl m1) (.cons (.opt rfl (o1 h)) (.cons (.opt rfl (o1 h)) .nil)) rfl rfl rfl)) ?_;refine gC (fun t117=>?_) (fun t117=>?_)
 ·have h0:ak (bh p q)=0:=Vy t117;refine gR ?_;exact dZ (by unfold dX eZ;rw[XK h0,XK h0];exact Sub.tup (.cons Fk (.cons (.refl _) .nil)))
 have h0:ak (bh p q)≠0:=VB t117;have Q:=IX cy hn p1 p2 P h0;refine gc b2 ?_;refine gt (aW (Con.rB 63 rfl rfl rfl rfl (oK _ _)) (aJ rfl rfl rfl) rfl rfl rfl) ?_;refine gc b3 ?_;refine gt (aW (Con.rB 63 rfl rfl rfl rfl (oK _ _)) (aJ rfl rfl rfl) rfl rfl rfl) ?_;refine gt (aW (Con.rB 63 rfl rfl rfl rfl m2) (aJ rfl rfl rfl) rfl rfl rfl) ?_;refine gt (aW (Con.rB 63 rfl rfl rfl rfl m3) (aJ rfl rfl rfl) rfl rfl rfl) ?_;refine gt (aW (Con.rB 63 rfl rfl rfl rfl m4) (aJ rfl rfl rfl) rfl rfl rfl) ?_;refine gt (aW (Con.rB 63 rfl rfl rfl rfl m5) (bD rfl rfl) rfl rfl rfl) ?_;refine gC (fun t150=>?_) (fun t150=>?_)
 ·have h1:ak (aU p q o z)=-1:=cK t150;refine gt (aW (Con.rB 63 rfl rfl rfl rfl m0) (.cons (.tmp rfl) (.cons (.const _) .nil)) rfl rfl rfl) ?_;refine br ?_;unfold dX eZ;rw[XJ h0,XJ h0,XK h1];rfl
 have h1:¬ak (aU p q o z)=-1:=dq t150;refine gC (fun t156=>?_) (fun t156=>?_)
 ·have h2:ak (aU p q o z)=0:=cK t156;refine gt (aW (Con.rB 63 rfl rfl rfl rfl (rQ Q.hd)) (aJ rfl rfl rfl) rfl rfl rfl) ?_;refine gt (aW (Con.rB 63 rfl rfl rfl rfl Q.al) (.cons (.tmp rfl) (.cons (.tmp rfl) (.cons (.tmp rfl) (.cons (.tmp rfl) .nil)))) rfl rfl rfl) ?_;refine gt (aW (Con.rB 63 rfl rfl rfl rfl (mF tw [di (cR p (bH p q o*iE (bh p q)) (aR q p)).l])) (bD rfl rfl) rfl rfl rfl) ?_;refine gD ?_;refine br ?_;unfold dX eZ;rw[XJ h0,XJ h0,XJ h1,XK h2];rfl
 have h2:¬ak (aU p q o z)=0:=dq t156
 have hpos:0<=ak (aU p q o z):=by
  have:=T.sgn_cases (ay (llq rs)) (llq rs).length (aU p q o z);have e:ak (aU p q o z)=T.sgn (ay (llq rs)) (llq rs).length (aU p q o z):=rfl;omega
 have E:ExtP (aU p q o z):=sP tw hn (x7 P.zX oz oz) hpos;haveI ce:=E.cy;haveI zr:Zl (aS (llq rs) (sX (aU p q o z))) 773000000 1101400000 (cr (llq rs).length) (dE _ (cr (llq rs).length)) 1 0:=Zl.at (tT oz) (by decide);haveI ze':=ke (X:=aU p q o z) hn P.ze (by decide);haveI:=zr.zu;haveI:=ze'.zu
 have e1:=j5 (ts:=aS (llq rs) (sX (aU p q o z))) (u:=773000000) (k:=1101400000) (a:=sX (bH p q o)) (b:=cr (llq rs).length) (by decide);have e2:=lP (ts:=aS (llq rs) (sX (aU p q o z))) (u:=773000000) (k:=1101400000) (a:=sX (bH p q o)) (b:=cr (llq rs).length) (by decide);have S1:=wi (p:=p) (v:=aR q p) hn E P.zs h0 p1 p2 P.v1 P.v2 (k:=aL (aU p q o z) (bH p q o)+bu (aU p q o z)) inferInstance;have S2:=wi (p:=p) (v:=aR q p) hn E P.zs h0 p1 p2 P.v1 P.v2 (k:=aL (aU p q o z) (bH p q o)-bu (aU p q o z)) inferInstance;have hex:=Dt (a:=sX (aU p q o z)) tw P.zX.nm (by rw[hlm];decide) (by rw[show ae (llq rs).length (sX (aU p q o z))=aU p q o z from bf _ _];exact hpos);refine gt (aE (Con.rB 63 rfl rfl rfl rfl hex) (bD rfl rfl) aH rfl rfl) ?_;refine gt (aW (Con.rB 63 rfl rfl rfl rfl e1) (aJ rfl rfl rfl) rfl rfl rfl) ?_;refine gt (aW (Con.rB 63 rfl rfl rfl rfl (rQ S1.hd)) (aJ rfl rfl rfl) rfl rfl rfl) ?_;refine gt (aW (Con.rB 63 rfl rfl rfl rfl S1.al) (.cons (.tmp rfl) (.cons (.tmp rfl) (.cons (.tmp rfl) (.cons (.tmp rfl) .nil)))) rfl rfl rfl) ?_;refine gt (aW (Con.rB 63 rfl rfl rfl rfl e2) (aJ rfl rfl rfl) rfl rfl rfl) ?_;refine gt (aW (Con.rB 63 rfl rfl rfl rfl (rQ S2.hd)) (aJ rfl rfl rfl) rfl rfl rfl) ?_;refine gt (aW (Con.rB 63 rfl rfl rfl rfl S2.al) (.cons (.tmp rfl) (.cons (.tmp rfl) (.cons (.tmp rfl) (.cons (.tmp rfl) .nil)))) rfl rfl rfl) ?_;refine gt (aW (Con.rB 63 rfl rfl rfl rfl (mF E.tw [di (iZ (aU p q o z) p (aR q p) (fp (aU p q o z) (bh p q) (aL (aU p q o z) (bH p q o)+bu (aU p q o z)))).l,di (iZ (aU p q o z) p (aR q p) (fp (aU p q o z) (bh p q) (aL (aU p q o z) (bH p q o)-bu (aU p q o z)))).l])) (bD rfl rfl) rfl rfl rfl) ?_;refine gD ?_;refine br ?_;unfold dX eZ;rw[XJ h0,XJ h0,XJ h1,XJ h2];rfl
end
theorem T.inv_congr{r r':(k:Nat)->T k}:∀(k:Nat),(∀j,j<k->r j=r' j)->∀x,T.inv r k x=T.inv r' k x
 |0,_,x=>rfl
 |k+1,h,x=>by
  have ih:=T.inv_congr k (fun j hj=>h j oz);have hm:=T.mul_congr k (fun j hj=>h j oz);have hs:=T.sgn_congr k (fun j hj=>h j oz)
  have hn:T.norm r k x=T.norm r' k x:=by
   unfold T.norm;rw[h k oz];simp only[hm]
  conv=>lhs;unfold T.inv
  conv=>rhs;unfold T.inv
  simp only[ih,hm,hs,hn]
def iN{n N:Nat}(x:T n):T N:=ae N (sh n x)
section
variable{n N:Nat}{r r':(k:Nat)->T k}
theorem jV(x:T n):(iN x:T (n+1))=(x,T.zero n):=by
 unfold iN;rw[ic (eH n x).le,bf]
theorem Kz(hN:N=n+1)(h:∀j,j<n->r j=r' j)(x y:T n):(iN (T.mul r n x y):T N)=T.mul r' N (iN x) (iN y):=by
 subst hN;rw[jV,jV,jV,mul_low,T.zero_mul,T.mul_congr n h]
theorem Sl(hN:N=n+1)(x y:T n):(iN (T.add n x y):T N)=T.add N (iN x) (iN y):=by
 subst hN;rw[jV,jV,jV];show(T.add n x y,T.zero n)=(T.add n x y,T.add n (T.zero n) (T.zero n));rw[T.zero_add]
theorem UE(hN:N=n+1)(x:T n):(iN (T.neg n x):T N)=T.neg N (iN x):=by
 subst hN;rw[jV,jV];show(T.neg n x,T.zero n)=(T.neg n x,T.neg n (T.zero n));rw[T.neg_zero]
theorem SD(hN:N=n+1)(q:Rat):(iN (T.ofQ n q):T N)=T.ofQ N q:=by
 subst hN;rw[jV];rfl
theorem Ty(hN:N=n+1)(h:∀j,j<n->r j=r' j)(x:T n):(iN (T.inv r n x):T N)=T.inv r' N (iN x):=by
 subst hN;rw[jV,jV,T.inv_low,T.inv_congr n h]
end
section
variable{ts:LL}(X:Et ts)
theorem Ia{l:List Rat}(j:Nat)(hj:j<ts.length):ay ts j=ay (aS ts l) j:=(uv hj).symm
theorem fi(x y:Et ts):aL X (x*y)=aL X x*aL X y:=Kz (dC _ _) Ia x y
theorem qo(x y:Et ts):aL X (x+y)=aL X x+aL X y:=Sl (dC _ _) x y
theorem F3(x:Et ts):aL X (-x)=-aL X x:=UE (dC _ _) x
theorem mO(q:Rat):aL X (qE q)=qE q:=SD (dC _ _) q
theorem oY(x:Et ts):aL X (iE x)=iE (aL X x):=Ty (dC _ _) Ia x
end
theorem lI{ts:LL}:(qE ((1:Int):Rat):Et ts)=1:=rfl
theorem G2{ts:LL}:(qE ((-1:Int):Rat):Et ts)=-1:=by
 have h:=(T.ofQ_neg ts.length ((1:Nat):Rat))
 rw[show(((-1:Int):Rat))=-((1:Nat):Rat) by rfl];exact h
theorem xO{ts:LL}(d:Et ts):eD d=d+d:=by
 have h:(qE ((2:Int):Rat):Et ts)=1+1:=by
  have h:=T.ofQ_add ts.length ((1:Nat):Rat) ((1:Nat):Rat);rw[show(((2:Int):Rat))=((1:Nat):Rat)+((1:Nat):Rat) by decide +kernel];exact h
 unfold eD;rw[h];grind
theorem BT{ts:LL}:(qE 0:Et ts)=0:=rfl
section
variable{ts:LL}
theorem wC(p q:P2 ts)(z z2:Et ts):cV p q z z2=cR p ((qE ((1:Int):Rat)*iE (aB p q+aB p q))*(z+aB p q-z2)) (aR q p):=by
 unfold cV fB cR;rw[xO,lI];refine Prod.ext ?_ ?_
 ·show p.1+(z+aB p q-z2)*iE (aB p q+aB p q)*(q.1-p.1)=p.1+1*iE (aB p q+aB p q)*(z+aB p q-z2)*(q.1-p.1);grind
 ·show p.2+(z+aB p q-z2)*iE (aB p q+aB p q)*(q.2-p.2)=p.2+1*iE (aB p q+aB p q)*(z+aB p q-z2)*(q.2-p.2);grind
def gB(p q:P2 ts):P2 ts:=(qE ((1:Int):Rat)*iE (aB p q+aB p q)*(0-(aR q p).2),qE ((1:Int):Rat)*iE (aB p q+aB p q)*(aR q p).1)
theorem tu(X:Et ts)(f p q:P2 ts):gp X f (fB p q) (dW X (aB p q))=(aL X f.1+bu X*aL X (gB p q).1,aL X f.2+bu X*aL X (gB p q).2):=by
 unfold gp cR dW gB;rw[xO,G2];refine Prod.ext ?_ ?_
 ·show aL X f.1+bu X*iE (aL X (aB p q+aB p q))*(-1*aL X (q.2-p.2))=aL X f.1+bu X*aL X (qE ((1:Int):Rat)*iE (aB p q+aB p q)*(0-(q.2-p.2)));rw[fi,fi,mO,oY,show(0:Et ts)-(q.2-p.2)=-(q.2-p.2) by grind,F3,lI];grind
 ·show aL X f.2+bu X*iE (aL X (aB p q+aB p q))*aL X (q.1-p.1)=aL X f.2+bu X*aL X (qE ((1:Int):Rat)*iE (aB p q+aB p q)*(q.1-p.1));rw[fi,fi,mO,oY,lI];grind
theorem uZ(X:Et ts)(f p q:P2 ts):gp X f (fB p q) (qE ((-1:Int):Rat)*dW X (aB p q))=(aL X f.1-bu X*aL X (gB p q).1,aL X f.2-bu X*aL X (gB p q).2):=by
 have h:=tu X f p q;have h1:=congrArg Prod.fst h;have h2:=congrArg Prod.snd h;unfold gp cR at h1 h2 ⊢;rw[G2]at h1 h2 ⊢;dsimp only at h1 h2;refine Prod.ext ?_ ?_
 ·dsimp only;grind
 ·dsimp only;grind
def f7(p q:P2 ts):P2 ts:=(qE ((1:Int):Rat)*iE (bh p q)*(aR q p).1,qE ((1:Int):Rat)*iE (bh p q)*(aR q p).2)
theorem vi(X:Et ts)(p q c:P2 ts):iZ X p (aR q p) (fp X (bh p q) (aL X (bH p q c)+bu X)) =
  (aL X (cR p (bH p q c*iE (bh p q)) (aR q p)).1+bu X*aL X (f7 p q).1,aL X (cR p (bH p q c*iE (bh p q)) (aR q p)).2+bu X*aL X (f7 p q).2):=by
 unfold iZ fp f7 cR;refine Prod.ext ?_ ?_
 ·dsimp only;rw[qo,fi,fi,fi,fi,oY,mO,lI];grind
 ·dsimp only;rw[qo,fi,fi,fi,fi,oY,mO,lI];grind
theorem vA(X:Et ts)(p q c:P2 ts):iZ X p (aR q p) (fp X (bh p q) (aL X (bH p q c)-bu X)) =
  (aL X (cR p (bH p q c*iE (bh p q)) (aR q p)).1-bu X*aL X (f7 p q).1,aL X (cR p (bH p q c*iE (bh p q)) (aR q p)).2-bu X*aL X (f7 p q).2):=by
 unfold iZ fp f7 cR;refine Prod.ext ?_ ?_
 ·dsimp only;rw[qo,fi,fi,fi,fi,oY,mO,lI];grind
 ·dsimp only;rw[qo,fi,fi,fi,fi,oY,mO,lI];grind
theorem vl(r:(k:Nat)->T k):∀(n:Nat)(q:Rat),T.inv r n (T.ofQ n q)=T.ofQ n (1/q)
 |0,q=>rfl
 |n+1,q=>by
  show T.inv r (n+1) (T.ofQ n q,T.zero n)=(T.ofQ n (1/q),T.zero n);rw[T.inv_low,vl r n q]
theorem Bf:(iE (qE 1):Et ts)=1:=by
 show T.inv (ay ts) ts.length (T.ofQ ts.length 1)=_;rw[vl,show(1:Rat)/1=((1:Nat):Rat) by decide +kernel];rfl
end
open Lean.Grind (CommRing)
section
variable{r:(k:Nat)->T k}
def fA{n:Nat}(x:E r n):E r n:=T.inv r n x
theorem uf{n:Nat}(u:E r n)(h:Sg (E r n) (sg r n)):sg r (n+1) (bM u 0)=sg r n u:=by
 rw[kO,h.zero];unfold T.sgn3;split
 ·rfl
 ·rw[XK (.inr rfl)]
theorem N3{n:Nat}{x y:E r n}(hz:T.isZ n y=true):fA (bM x y:E r (n+1))=bM (fA x) 0:=by
 have e:y=T.zero n:=(T.isZ_iff n y).1 hz;subst e;have h:=T.inv_low r n x;show T.inv r (n+1) (x,T.zero n)=_;rw[h,E.zero_def];rfl
theorem Pj{n:Nat}{x y:E r n}(hz:T.isZ n y=false)(h0:sg r n (aY x y)=0):fA (bM x y:E r (n+1))=bM (fA (x+x)) 0:=by
 have h:=D8 r (i:=n) (x:=((x,y):T n×T n)) hz h0;show T.inv r (n+1) (x,y)=_;rw[h,E.zero_def];rfl
theorem TJ{n:Nat}{x y:E r n}(hz:T.isZ n y=false)(h0:sg r n (aY x y)≠0):fA (bM x y:E r (n+1))=bM (x*fA (aY x y)) (-y*fA (aY x y)):=by
 have h:=D5 r (i:=n) (x:=((x,y):T n×T n)) hz h0;exact h
theorem VG{q:Rat}(hq:bN q≠0):bN ((1:Rat)/q*q+-(((1:Nat):Rat)))=0:=by
 have hq:q≠0:=by
  rintro rfl;exact hq (by decide +kernel)
 have e:(1:Rat)/q*q+-(((1:Nat):Rat))=0:=by
  rw[show(((1:Nat):Rat))=1 from rfl];grind
 rw[e];decide +kernel
theorem Jb(r:(k:Nat)->T k):∀(n:Nat),ft r n->∀x:E r n,sg r n x≠0->sg r n (fA x*x-1)=0
 |0,hp,x,hx=>VG (q:=x) hx
 |n+1,hp,z,hz=>by
  have hp':ft r n:=fun j hj=>hp j oz
  have h:=da r n hp';have H:=da r (n+1) hp;have ih:=Jb r n hp';obtain⟨x,y,rfl⟩:=jW z;cases hzy:T.isZ n y
  ·by_cases h0:sg r n (aY x y)=0
   ·rw[Pj hzy h0];have h2:=IB h (hp n oz) hz h0;have e1:=ih _ h2
    have c:sg r (n+1) (bM x (-y))=0:=by
     have m:=H.mul (bM x y) (bM x (-y))
     have e:(bM x y:E r (n+1))*bM x (-y)=bM (aY x y) 0:=by
      rw[kI];unfold aY;congr 1 <;> grind
     rw[e,uf _ h,h0]at m;rcases Int.mul_eq_zero.1 m.symm with g |g
     ·exact absurd g hz
     ·exact g
    have e2:bM (fA (x+x)) 0*bM x y-(1:E r (n+1))=-(bM (fA (x+x)) 0*bM x (-y))+bM (fA (x+x)*(x+x)-1) 0:=by
     rw[vD,show ∀a b:E r (n+1),a-b=a+-b from fun a b=>by grind,kI,kI,s8,s8,o7,o7];congr 1 <;> grind
    rw[e2];have e3:sg r (n+1) (-(bM (fA (x+x)) 0*bM x (-y)))=0:=by rw[H.neg,H.mul,c];simp
    rw[H.zadd e3,uf _ h];exact e1
   ·rw[TJ hzy h0];have e1:=ih _ h0
    have e2:bM (x*fA (aY x y)) (-y*fA (aY x y))*bM x y-(1:E r (n+1))=bM (fA (aY x y)*aY x y-1) 0:=by
     rw[vD,show ∀a b:E r (n+1),a-b=a+-b from fun a b=>by grind,kI,s8,o7];generalize fA (aY x y)=i;unfold aY;congr 1 <;> grind
    rw[e2,uf _ h];exact e1
  ·rw [N3 hzy];have e:y = 0:=by rw [(T.isZ_iff n y).1 hzy,E.zero_def]
   subst e;rw[uf _ h]at hz;have e1:=ih _ hz
   have e2:bM (fA x) 0*bM x 0-(1:E r (n+1))=bM (fA x*x-1) 0:=by
    rw[vD,show ∀a b:E r (n+1),a-b=a+-b from fun a b=>by grind,kI,s8,o7];congr 1 <;> grind
   rw[e2,uf _ h];exact e1
end
section
variable{r:(k:Nat)->T k}{n:Nat}
def zS(h:ft r n):Setoid (E r n) where
  r x y:=sg r n (x-y)=0
  iseqv:=by
    have H:=da r n h;refine⟨fun x=>?_,fun {x y} e=>?_,fun {x y z} e f=>?_⟩
    · rw[show x-x=0 by grind];exact H.zero
    · rw[show y-x=-(x-y) by grind,H.neg,e];rfl
    · rw[show x-z=(x-y)+(y-z) by grind,H.zadd e];exact f
def Zq(h:ft r n):Type:=Quotient (zS h)
def ah(h:ft r n)(x:E r n):Zq h:=Quotient.mk (zS h) x
theorem km(h:ft r n){x y:E r n}:ah h x=ah h y↔sg r n (x-y)=0 :=
 ⟨fun e=>Quotient.exact (s:=zS h) e,fun e=>Quotient.sound (s:=zS h) e⟩
instance (h:ft r n):Add (Zq h):=⟨Quotient.lift₂ (fun x y=>ah h (x+y)) (by
  intro a b c d e f;have H:=da r n h;refine(km h).2 ?_;rw[show a+b-(c+d)=(a-c)+(b-d) by grind,H.zadd (show sg r n (a-c)=0 from e)];exact f)⟩
instance (h:ft r n):Mul (Zq h):=⟨Quotient.lift₂ (fun x y=>ah h (x*y)) (by
  intro a b c d e f;have H:=da r n h;refine(km h).2 ?_;have e':sg r n (a-c)=0:=e;have f':sg r n (b-d)=0:=f;rw[show a*b-c*d=(a-c)*b+c*(b-d) by grind,H.zadd (by rw[H.mul,e'];simp),H.mul,f'];simp)⟩
instance (h:ft r n):Neg (Zq h):=⟨Quotient.lift (fun x=>ah h (-x)) (by
  intro a c e;have H:=da r n h;refine(km h).2 ?_;have e':sg r n (a-c)=0:=e;rw[show -a - -c=-(a-c) by grind,H.neg,e'];rfl)⟩
instance (h:ft r n):_root_.Sub (Zq h):=⟨fun x y=>x+-y⟩
instance (h:ft r n)(c:Nat):OfNat (Zq h) c:=⟨ah h (OfNat.ofNat c)⟩
instance (h:ft r n):NatCast (Zq h):=⟨fun c=>ah h (c:E r n)⟩
instance (h:ft r n):IntCast (Zq h):=⟨fun c=>ah h (c:E r n)⟩
instance (h:ft r n):SMul Nat (Zq h):=⟨fun c x=>ah h (c:E r n)*x⟩
instance (h:ft r n):SMul Int (Zq h):=⟨fun c x=>ah h (c:E r n)*x⟩
def Zq.pow{h:ft r n}(x:Zq h):Nat->Zq h
  |0=>ah h 1
  |c+1=>Zq.pow x c*x
instance (h:ft r n):HPow (Zq h) Nat (Zq h):=⟨Zq.pow⟩
variable(h:ft r n)
theorem eP(x y:E r n):ah h (x+y)=ah h x+ah h y:=rfl
theorem bB(x y:E r n):ah h (x*y)=ah h x*ah h y:=rfl
theorem Hk(x:E r n):ah h (-x)=-ah h x:=rfl
theorem bJ(x y:E r n):ah h (x-y)=ah h x-ah h y:=by
 rw[show x-y=x+-y by grind];rfl
theorem eQ(a:Zq h):∃x,a=ah h x:=Quotient.ind (motive:=fun a=>∃x,a=ah h x) (fun x=>⟨x,rfl⟩) a
instance zRing:CommRing (Zq h) where
  add_zero a:=by
    obtain⟨x,rfl⟩:=eQ h a;exact congrArg (ah h) (show x+0=x by grind)
  add_comm a b:=by
    obtain⟨x,rfl⟩:=eQ h a;obtain⟨y,rfl⟩:=eQ h b;exact congrArg (ah h) (show x+y=y+x by grind)
  add_assoc a b c:=by
    obtain⟨x,rfl⟩:=eQ h a;obtain⟨y,rfl⟩:=eQ h b;obtain⟨z,rfl⟩:=eQ h c;exact congrArg (ah h) (show x+y+z=x+(y+z) by grind)
  mul_assoc a b c:=by
    obtain⟨x,rfl⟩:=eQ h a;obtain⟨y,rfl⟩:=eQ h b;obtain⟨z,rfl⟩:=eQ h c;exact congrArg (ah h) (show x*y*z=x*(y*z) by grind)
  mul_one a:=by
    obtain⟨x,rfl⟩:=eQ h a;exact congrArg (ah h) (show x*1=x by grind)
  one_mul a:=by
    obtain⟨x,rfl⟩:=eQ h a;exact congrArg (ah h) (show 1*x=x by grind)
  left_distrib a b c:=by
    obtain⟨x,rfl⟩:=eQ h a;obtain⟨y,rfl⟩:=eQ h b;obtain⟨z,rfl⟩:=eQ h c;exact congrArg (ah h) (show x*(y+z)=x*y+x*z by grind)
  right_distrib a b c:=by
    obtain⟨x,rfl⟩:=eQ h a;obtain⟨y,rfl⟩:=eQ h b;obtain⟨z,rfl⟩:=eQ h c;exact congrArg (ah h) (show(x+y)*z=x*z+y*z by grind)
  zero_mul a:=by
    obtain⟨x,rfl⟩:=eQ h a;exact congrArg (ah h) (show 0*x=0 by grind)
  mul_zero a:=by
    obtain⟨x,rfl⟩:=eQ h a;exact congrArg (ah h) (show x*0=0 by grind)
  pow_zero a:=rfl
  pow_succ a c:=rfl
  ofNat_succ c:=congrArg (ah h) (Lean.Grind.Semiring.ofNat_succ (α:=E r n) c)
  ofNat_eq_natCast c:=congrArg (ah h) (Lean.Grind.Semiring.ofNat_eq_natCast (α:=E r n) c)
  nsmul_eq_natCast_mul c a:=rfl
  neg_add_cancel a:=by
    obtain⟨x,rfl⟩:=eQ h a;exact congrArg (ah h) (show -x+x=0 by grind)
  sub_eq_add_neg a b:=rfl
  neg_zsmul i a:=by
    obtain⟨x,rfl⟩:=eQ h a
    exact congrArg (ah h) (show((-i:Int):E r n)*x=-((i:E r n)*x) by
      rw[Lean.Grind.Ring.intCast_neg];grind)
  zsmul_natCast_eq_nsmul c a:=rfl
  intCast_ofNat c:=congrArg (ah h) (Lean.Grind.Ring.intCast_ofNat (α:=E r n) c)
  intCast_neg i:=congrArg (ah h) (Lean.Grind.Ring.intCast_neg (α:=E r n) i)
  mul_comm a b:=by
    obtain⟨x,rfl⟩:=eQ h a;obtain⟨y,rfl⟩:=eQ h b;exact congrArg (ah h) (show x*y=y*x by grind)
theorem eU{x:E r n}:ah h x=0↔sg r n x=0:=by
 have e:=km h (x:=x) (y:=0);rw[show x-0=x by grind]at e;exact e
theorem wQ{x:E r n}(hx:sg r n x≠0):ah h (fA x)*ah h x=1:=by
 have e:=(km h (x:=fA x*x) (y:=1)).2 (Jb r n h x hx);exact e
theorem Fh:ah h (1:E r n)=1:=rfl
end
example {r:(k:Nat)->T k} {n:Nat} (h:ft r n) (a b c:Zq h) (e:a*b=1) (f:c*a=2):c=2*b:=by grind
end Go.Lw
namespace Go.Lw
open Go.Proofs
theorem Nh(o:Option Nat):aa .geq (jc o) 0=o.isSome:=by
 cases o with
 |none=>rfl
 |some i=>exact decide_eq_true (by show(i:Int)>=0;omega)
theorem Ll(bs:List (Rat×Rat))(hl:bs.length<=281474976710656)(f:FuncId)(pre caps:List AV)(ok:Nat->Bool)
  (hf:∀(i:Nat)(b:Rat×Rat),bs[i]?=some b->(∀j,j<i->ok j=true)->FP f (pre++[qP b]++caps) (bl (!ok i))) :
  FP 354 [.lst 6 (bs.map qP),.cl f pre caps] (i64 (jc (cB bs.length ok))):=by
 refine aj func354 ?_;refine gl ?_;refine aZ [0,1,7] [] (fun(i:Nat)=>[(8,some (i64 i))]) (fun _=>[]) (fun i=>i<=bs.length/\∀j,j<i->ok j=true) (fun i=>bs.length-i) 0 ⟨W7 _,fun j h=>by omega⟩ ?_;rintro i ⟨hi,hj⟩ K1 J1;refine gC (fun t9=>?_) (fun t9=>?_)
 ·have hin:=a6 t9;obtain⟨b,hb⟩:=ax hin;refine gi (aI hb) ?_;refine gc (hf i b hb hj) ?_;refine gC (fun t16=>?_) (fun t16=>?_)
  ·have h2:=df t16;refine af ?_;rw[gx hin hj h2];rfl
  have h2:=c9 t16;refine ga aO ?_;exact aP J1 (i+1) ⟨hin,fun j h9=>by rcases W3 j i with g |g;exact hj j g;(have:j=i:=by omega);subst this;exact h2⟩
 have hin:=bi hi t9;subst hin;refine af ?_;rw[fO hj];rfl
theorem SU(bs:List (Rat×Rat))(hl:bs.length<=281474976710656)(f:FuncId)(pre caps:List AV)(ok:Nat->Bool)
  (hf:∀(i:Nat)(b:Rat×Rat),bs[i]?=some b->(∀j,j<i->ok j=true)->FP f (pre++[qP b]++caps) (bl (!ok i))) :
  FP 259 [.lst 6 (bs.map qP),.cl f pre caps] (bl (cB bs.length ok).isSome):=by
 refine aj func259 ?_;refine gc (Ll bs hl f pre caps ok hf) ?_;refine af ?_;rw[<- Nh];rfl
theorem S5{v:Rat×Rat}(hv:Sm 3000 v):FP 260 [qP v] (bl (decide (bW v v=0))):=by
 refine aj func260 ?_;refine gc (HN hv hv oz oz) ?_;refine gc (Ly ((hv.dot hv).qs oz)) ?_;refine af ?_;rw[<- NW];rfl
def gK(vs:List (Rat×Rat)):Bool:=(cB vs.length fun i=>!decide (bW (vs.getD i (0,0)) (vs.getD i (0,0))=0)).isSome
theorem E2(vs:List (Rat×Rat))(hl:vs.length<=281474976710656)(hv:∀v∈vs,Sm 3000 v):FP 155 [.lst 6 (vs.map qP)] (bl (gK vs)):=by
 refine aj func155 ?_;refine gc (Con.sA (.cons (.refl _) (.cons ((Sub.fn0 _).trans (rE rfl)) .nil)) (SU vs hl 260 [] [] (fun i=>!decide (bW (vs.getD i (0,0)) (vs.getD i (0,0))=0)) (fun i b hb _=>by rw[Bool.not_not,au hb];exact S5 (hv b (WU hb))))) ?_;refine af ?_;rfl
theorem uu{v:Rat×Rat}(h:gK [v]=false):bW v v≠0:=by
 intro h0;have h1:cB 1 (fun i=>!decide (bW ([v].getD i (0,0)) ([v].getD i (0,0))=0))=some 0:=gx oz (fun j hj=>by omega) (by show(!decide (bW v v=0))=false;rw[h0];rfl);unfold gK at h;rw[show[v].length=1 from rfl,h1]at h;cases h
theorem rY{v w:Rat×Rat}(h:gK [v,w]=false):bW v v≠0/\bW w w≠0:=by
 unfold gK at h;rw[Option.isSome_eq_false_iff,Option.isNone_iff_eq_none]at h;have h2:=Wg h;have h3:=h2 0 (by show 0<2;omega);have h4:=h2 1 (by show 1<2;omega);have h5:(!decide (bW v v=0))=true:=h3;have h6:(!decide (bW w w=0))=true:=h4;simp only[Bool.not_eq_true',decide_eq_false_iff_not]at h5 h6;exact⟨h5,h6⟩
theorem CC(i n:Nat)(hi:i<=100):FP 164 [i64 i,i64 n] (i64 (if n=1 then 0 else 1-2*(i:Int))):=by
 refine aj func164 ?_;refine gC (fun t6=>?_) (fun t6=>?_)
 ·have h1 : n = 1 := by have := cK t6; omega
  refine af ?_;rw[XK h1];rfl
 have h1:¬n=1:=by have:=dq t6;omega
 refine ga (show _=2*(i:Int) by exact AP oz) ?_;refine ga (show _=1-2*(i:Int) by exact ee oz) ?_;refine af ?_;rw[XJ h1];rfl
section
variable{ts:LL}
abbrev jR(u:Rat×Rat):Et ts:=qE (bW u u)
def dg(u:Rat×Rat)(w:P2 ts):Et ts:=(qE u.1*w.1+qE u.2*w.2)*iE (jR u)
def db(u:Rat×Rat)(w:P2 ts):Et ts:=(qE u.1*w.2-qE u.2*w.1)*iE (jR u)
def pO(u:Rat×Rat)(w:P2 ts)(p:Rat×Rat)(o:P2 ts):Et ts:=o.1-(dg u w*qE p.1-db u w*qE p.2)
def pb(u:Rat×Rat)(w:P2 ts)(p:Rat×Rat)(o:P2 ts):Et ts:=o.2-(db u w*qE p.1+dg u w*qE p.2)
def gz(u:Rat×Rat)(w:P2 ts)(p:Rat×Rat)(o:P2 ts):Pq:=⟨sX (dg u w),sX (db u w),sX (pO u w p o),sX (pb u w p o)⟩
theorem vK(ts:LL)(a b:List Rat):Con prog 75 [.ptr 1000 0,aM a b,.v .nilIface] [(1000,some (bg ts))] (aM a b) [(1000,some (bg ts))]:=by
 have h:=lZ (ts.map (List.map rt)) a b;rw[Ay]at h;exact h
theorem qN(q:Rat):ae ts.length (sh 0 (q:Rat))=(qE q:Et ts):=fL _ q
theorem oc{e:Nat}{q:Rat}(h5:ts.length<=5)(h:Qb e q):Nm ts.length e (sh 0 (q:Rat)):=Nm.ofQ h5 (Cb.one h)
structure BdP(ts:LL)(u:Rat×Rat)(w:P2 ts)(p:Rat×Rat)(o:P2 ts):Prop where
  dot:FP 80 [aV ts,aM (sh 0 (u.1:Rat)) (sh 0 (u.2:Rat)),aM (sX w.1) (sX w.2)] (.tup [nA (sX (qE u.1*w.1+qE u.2*w.2)),.v .nilIface])
  crs:FP 77 [aV ts,aM (sh 0 (u.1:Rat)) (sh 0 (u.2:Rat)),aM (sX w.1) (sX w.2)] (.tup [nA (sX (qE u.1*w.2-qE u.2*w.1)),.v .nilIface])
  d1:FP 281 [aV ts,nA (sX (qE u.1*w.1+qE u.2*w.2)),nA (sh 0 (bW u u:Rat))] (.tup [nA (sX (dg u w)),.v .nilIface])
  d2:FP 281 [aV ts,nA (sX (qE u.1*w.2-qE u.2*w.1)),nA (sh 0 (bW u u:Rat))] (.tup [nA (sX (db u w)),.v .nilIface])
  tn:FP 191 [aV ts,nA (sX (dg u w)),nA (sX (db u w)),aM (sh 0 (p.1:Rat)) (sh 0 (p.2:Rat))] (.tup [aM (sX (dg u w*qE p.1-db u w*qE p.2)) (sX (db u w*qE p.1+dg u w*qE p.2)),.v .nilIface])
  s1:FP 176 [aV ts,nA (sX o.1),nA (sX (dg u w*qE p.1-db u w*qE p.2))] (.tup [nA (sX (pO u w p o)),.v .nilIface])
  s2:FP 176 [aV ts,nA (sX o.2),nA (sX (db u w*qE p.1+dg u w*qE p.2))] (.tup [nA (sX (pb u w p o)),.v .nilIface])
  ok:Pq.ok ts.length 80000000000 (gz u w p o)
theorem Hs{r W A K F:Nat}{u p:Rat×Rat}{w o:P2 ts}(tw:Tw ts r)(h2:ts.length<=2)(hk:kB r ts.length<=K)(hu:Sm 3000 u)(hp:Sm 3000 p)(h0:bW u u≠0)
  (w1:Nm ts.length W (sX w.1)) (w2:Nm ts.length W (sX w.2)) (a1:Nm ts.length A (sX o.1)) (a2:Nm ts.length A (sX o.2)) (hW:3000<=W) (hF:4*W+10*K+A+100000<=F) (hF2:F<=80000000000):BdP ts u w p o:=by
 have hl:lm ts.length=200000000000:=by unfold lm;rw[XK h2]
 have h5:=tw.five;have hu1:=oc (ts:=ts) h5 hu.x;have hu2:=oc (ts:=ts) h5 hu.y;have hp1:=oc (ts:=ts) h5 hp.x;have hp2:=oc (ts:=ts) h5 hp.y;have hnn:=oc (ts:=ts) h5 (hu.dot hu);have hkE:eB r ts.length<=K:=hk;have ew:∀x:Et ts,ae ts.length (sX x)=x:=fun x=>bf _ _
 have c1:=tL tw (hu1.mono (f:=W) oz) (hu2.mono oz) w1 w2 (by rw[hl];omega);have c2:=Ar tw (hu1.mono (f:=W) oz) (hu2.mono oz) w1 w2 (by rw[hl];omega);have n1:=uS tw hu1 hu2 w1 w2;have n2:=yf tw hu1 hu2 w1 w2;rw[qN,qN,ew,ew]at c1 c2 n1 n2
 have hs:T.sgn (ay ts) ts.length (ae ts.length (sh 0 (bW u u:Rat)))≠0:=by
  rw[fL,T.sgn_ofQ];intro h9;exact h0 (oL h9)
 have nb:Nl 0 (sh 0 (bW u u:Rat)):=eH 0 _;have d1:=zL tw n1 hnn (W7 _) nb hs (by rw[hl];omega) (by simp only[iB];omega);have d2:=zL tw n2 hnn (W7 _) nb hs (by rw[hl];omega) (by simp only[iB];omega);have m1:=yN tw n1 hnn (W7 _) nb hs (by rw[hl];omega) (by simp only[iB];omega);have m2:=yN tw n2 hnn (W7 _) nb hs (by rw[hl];omega) (by simp only[iB];omega);have e1:∀x:Et ts,ae ts.length (sh ts.length x)=x:=fun x=>bf _ _
 have f1:ae ts.length (sh ts.length (mZ ts (qE u.1:Et ts) (qE u.2:Et ts) w.1 w.2))=(qE u.1*w.1+qE u.2*w.2:Et ts):=bf _ _;have f2:ae ts.length (sh ts.length (mM ts (qE u.1:Et ts) (qE u.2:Et ts) w.1 w.2))=(qE u.1*w.2-qE u.2*w.1:Et ts):=bf _ _;rw[f1,qN]at d1 m1;rw[f2,qN]at d2 m2;have k1:Nm ts.length (2*W+3*K+30000) (sX (dg u w)):=Nm.mono m1 (by simp only[iB];omega);have k2:Nm ts.length (2*W+3*K+30000) (sX (db u w)):=Nm.mono m2 (by simp only[iB];omega);have c3:=HX tw k1 k2 (hp1.mono (f:=(2*W+3*K+30000)) oz) (hp2.mono oz) (by rw[hl];omega);have n3:=uy tw k1 k2 hp1 hp2;have n4:=xw tw k1 k2 hp1 hp2;rw[qN,qN,ew,ew]at c3 n3 n4;have s1:=o5 tw a1 n3 (by rw[hl];omega);have s2:=o5 tw a2 n4 (by rw[hl];omega);have m3:=a1.sub n3;have m4:=a2.sub n4;have f3:ae ts.length (sh ts.length (rL ts (dg u w) (db u w) (qE p.1:Et ts) (qE p.2:Et ts)))=(dg u w*qE p.1-db u w*qE p.2:Et ts):=bf _ _;have f4:ae ts.length (sh ts.length (r8 ts (dg u w) (db u w) (qE p.1:Et ts) (qE p.2:Et ts)))=(db u w*qE p.1+dg u w*qE p.2:Et ts):=bf _ _;rw[ew,f3]at s1 m3;rw[ew,f4]at s2 m4;exact⟨c1,c2,d1,d2,c3,s1,s2,k1.mono oz,k2.mono oz,Nm.mono m3 oz,Nm.mono m4 oz⟩
theorem HW{r:Nat}{u p:Rat×Rat}{w o:P2 ts}(tw:Tw ts r)(h2:ts.length<=2)(hk:kB r ts.length<=1101400000)(hu:Sm 3000 u)(hp:Sm 3000 p)(h0:bW u u≠0)
  (w1:Nm ts.length 17000000000 (sX w.1)) (w2:Nm ts.length 17000000000 (sX w.2)) (a1:Nm ts.length 773000000 (sX o.1)) (a2:Nm ts.length 773000000 (sX o.2)):BdP ts u w p o :=
 Hs (F:=80000000000) tw h2 hk hu hp h0 w1 w2 a1 a2 oz oz oz
theorem vt{a b c:List Rat}(h:FP 176 [aV ts,nA a,nA b] (.tup [nA c,.v .nilIface])):Con prog 78 [.ptr 1000 0,nA a,nA b] [(1000,some (bg ts))] (nA c) [(1000,some (bg ts))]:=by
 refine gF func78 (fun k z h=>bG h) ?_;refine gc h ?_;refine gt (aE (rg _ _) (aJ rfl rfl rfl) aH rfl rfl) ?_;refine gR ?_;exact az.keep (bm rfl)
theorem zf{u p:Rat×Rat}{w o:P2 ts}(hu:Sm 3000 u)(hp:Sm 3000 p)(B:BdP ts u w p o) :
  Con prog 152 [.ptr 1000 0,qP u,di w.l,qP p,di o.l] [(1000,some (bg ts))] (gz u w p o).av [(1000,some (bg ts))]:=by
 refine gF func152 (fun k z h=>bG h) ?_;refine gc (vd (hu.x.qs oz) (hu.y.qs oz)) ?_;refine gc (Cc hu oz) ?_;refine gD ?_;refine gc B.dot ?_;refine gt (aW (rg _ _) (aJ rfl rfl rfl) rfl rfl rfl) ?_;refine gt (aW (wB B.d1) (aJ rfl rfl rfl) rfl rfl rfl) ?_;refine gc B.crs ?_;refine gt (aW (rg _ _) (aJ rfl rfl rfl) rfl rfl rfl) ?_;refine gt (aW (wB B.d2) (aJ rfl rfl rfl) rfl rfl rfl) ?_;refine gD ?_;refine gc (vd (hp.x.qs oz) (hp.y.qs oz)) ?_;refine gc B.tn ?_;refine gt (aW (vK _ _ _) (aJ rfl rfl rfl) rfl rfl rfl) ?_;refine gD ?_;refine gt (aW (vt B.s1) (aJ rfl rfl rfl) rfl rfl rfl) ?_;refine gt (aW (vt B.s2) (aJ rfl rfl rfl) rfl rfl rfl) ?_;refine gD ?_;refine gR ?_;exact az.keep (bm rfl)
end
structure Sv where
  ts:LL
  ps:List Pq
  mode:Int
abbrev Sv.av(s:Sv):AV:=.agg [.lst 1 (s.ts.map nA),.lst 4 (s.ps.map Pq.av),i64 s.mode]
structure Hd where
  p:Rat×Rat
  a:List Rat×List Rat
  c:Rat×Rat
abbrev Hd.av(h:Hd):AV:=.agg [bl (rt h.p.1).neg,ws (rt h.p.1).num,ws (rt h.p.1).den,bl (rt h.p.2).neg,ws (rt h.p.2).num,ws (rt h.p.2).den,nA h.a.1,nA h.a.2,bl (rt h.c.1).neg,ws (rt h.c.1).num,ws (rt h.c.1).den,bl (rt h.c.2).neg,ws (rt h.c.2).num,ws (rt h.c.2).den]
def jG(ts:LL)(h:Hd)(x:List Rat×List Rat):P2 ts:=(dE ts x.1-dE ts h.a.1,dE ts x.2-dE ts h.a.2)
def kE(ts:LL)(h:Hd):P2 ts:=(dE ts h.a.1,dE ts h.a.2)
def kF(ts:LL)(x:List Rat×List Rat)(h:Hd):Pq:=gz (cg h.c h.p) (jG ts h x) h.p (kE ts h)
structure HdP(ts:LL)(x:List Rat×List Rat)(h:Hd):Prop where
  hp:Sm 1000 h.p
  hc:Sm 1000 h.c
  s1:FP 176 [aV ts,nA x.1,nA h.a.1] (.tup [nA (sX (jG ts h x).1),.v .nilIface])
  s2:FP 176 [aV ts,nA x.2,nA h.a.2] (.tup [nA (sX (jG ts h x).2),.v .nilIface])
  e1:sX (dE ts h.a.1)=h.a.1
  e2:sX (dE ts h.a.2)=h.a.2
  b:BdP ts (cg h.c h.p) (jG ts h x) h.p (kE ts h)
theorem HdP.body{ts:LL}{x:List Rat×List Rat}{h:Hd}(H:HdP ts x h) :
  Con prog 152 [.ptr 1000 0,qP (cg h.c h.p),di (jG ts h x).l,qP h.p,aM h.a.1 h.a.2] [(1000,some (bg ts))] (kF ts x h).av [(1000,some (bg ts))]:=by
 have hb:=zf (Sm.mono (H.hc.sub H.hp) oz) (Sm.mono H.hp oz) H.b
 have e:di (kE ts h).l=aM h.a.1 h.a.2:=by
  show aM (sX (dE ts h.a.1)) (sX (dE ts h.a.2))=_;rw[H.e1,H.e2]
 rw[e]at hb;exact hb
def jx(m:Mt)(hs:List Hd)(i:Nat):Sv:=⟨m.ts,hs.map (kF m.ts (m.ps.getD i ([],[]))),if m.ps.length=1 then 0 else 1-2*(i:Int)⟩
def iF(m:Mt)(hs:List Hd)(n:Nat):List AV:=(List.range n).map fun i=>(jx m hs i).av
theorem x5(m:Mt)(hs:List Hd)(n:Nat):(iF m hs n).length=n:=by simp[iF]
theorem RJ(m:Mt)(hs:List Hd)(n:Nat):iF m hs (n+1)=iF m hs n++[(jx m hs n).av]:=by unfold iF;rw[List.range_succ];simp
theorem Eh{m:Mt}{r:Nat}(tw:Tw m.ts r)(hs:List Hd)(hl:hs.length<=2)(ml:m.ps.length<=2)(H:∀x∈m.ps,∀h∈hs,HdP m.ts x h) :
  FP 158 [m.av,.lst 14 (hs.map Hd.av)] (.tup [.lst 3 (iF m hs m.ps.length),.v .nilIface]):=by
 refine aj func158 ?_;refine gl ?_;refine gW (Wk.virt 900 3 rfl) ?_;refine aZ [1,2,15,16] [2] (fun(i:Nat)=>[(6,some (.ms 900 3 0 i)),(17,some (i64 i))]) (fun i=>[(900,some (.row 3 (iF m hs i)))]) (fun i=>i<=m.ps.length) (fun i=>m.ps.length-i) 0 (W7 _) ?_;rintro i hi K1 J1;refine gC (fun t18=>?_) (fun t18=>?_) (st2:=(17,0))
 ·have hin:=a6 t18;obtain⟨x,hx⟩:=ax hin;have hx9:m.ps.getD i ([],[])=x:=au hx;have hxm:=WU hx;refine gi (aI hx) ?_;refine gc (Be tw) ?_;refine gl ?_;refine gc (CC i m.ps.length oz) ?_;refine gD ?_ (7,0);refine gW (Wk.o (sl:=[(1,some (.lst 14 (hs.map Hd.av))),(2,some (.ptr 2 0)),(6,some (.ms 900 3 0 i)),(8,some (.ptr 8 0)),(9,some (.ptr 25 0)),(10,some (.ptr 10 0)),(15,some (.lst 2 (m.ps.map di))),(16,some (i64 m.ps.length)),(17,some (i64 i))]) (hp:=[(2,some (.box [.lst 1 (m.ts.map nA),.lst 2 (m.ps.map di)])),(8,some (.box [nA x.1,nA x.2])),(10,some (.box [.lst 1 (m.ts.map nA),nS,i64 (if m.ps.length=1 then 0 else 1-2*(i:Int))])),(25,some (bg m.ts)),(900,some (.row 3 (iF m hs i)))])) ?_
  refine gl ?_;refine gW (Wk.virt 901 4 rfl) ?_;refine aZ [1,2,8,9,10,15,16,17,35,36] [2,8,25,900] (fun(k:Nat)=>[(6,some (.ms 900 3 0 i)),(37,some (i64 k))]) (fun k=>[(10,some (.box [.lst 1 (m.ts.map nA),.ms 901 4 0 k,i64 (if m.ps.length=1 then 0 else 1-2*(i:Int))])),(901,some (.row 4 (((hs.take k).map (kF m.ts x)).map Pq.av)))]) (fun k=>k<=hs.length) (fun k=>hs.length-k) 0 (W7 _) ?_ (h2:=(.cons rfl (BlkSub.bL (.cons (.refl _) (.cons (.nM _ _ _) (.cons (.refl _) .nil))) rfl) (.k .nil)))
  rintro k hk K2 J2;refine gC (fun t38=>?_) (fun t38=>?_) (st2:=(13,0))
  ·have hkn:=a6 t38;obtain ⟨h,hh⟩:=ax hkn;have Hh:=H x hxm h (WU hh);refine gi (aI hh) ?_;refine gt (aW (Con.rB 25 rfl rfl rfl rfl (vt Hh.s1)) (aJ rfl rfl rfl) rfl rfl rfl) ?_;refine gt (aW (Con.rB 25 rfl rfl rfl rfl (vt Hh.s2)) (aJ rfl rfl rfl) rfl rfl rfl) ?_;refine gD ?_;refine gc (oS Hh.hc Hh.hp oz oz) ?_;refine gt (aW (Con.rB 25 rfl rfl rfl rfl Hh.body) (.cons (.tmp rfl) (.cons (.tmp rfl) (.cons (.tmp rfl) (.cons (.tmp rfl) (.cons (.tmp rfl) .nil))))) rfl rfl rfl) ?_;refine gs (cO (.tmp rfl) rfl (by rw [WW,WW,Xh]; omega) (.tmp rfl) T38 rfl T69 rfl rfl (by dsimp only; simp only [W9,Xi]; omega) rfl rfl) ?_;refine gD ?_ (12,0);refine gW (Wk.of (sl:=[(1,some (.lst 14 (hs.map Hd.av))),(2,some (.ptr 2 0)),(6,some (.ms 900 3 0 i)),(8,some (.ptr 8 0)),(9,some (.ptr 25 0)),(10,some (.ptr 10 0)),(15,some (.lst 2 (m.ps.map di))),(16,some (i64 m.ps.length)),(17,some (i64 i)),(35,some (.lst 14 (hs.map Hd.av))),(36,some (i64 hs.length)),(37,some (i64 k))]) (hp:=[(2,some (.box [.lst 1 (m.ts.map nA),.lst 2 (m.ps.map di)])),(8,some (.box [nA x.1,nA x.2])),(25,some (bg m.ts)),(10,some (.box [.lst 1 (m.ts.map nA),.ms 71 4 0 (k + 1),i64 (if m.ps.length = 1 then 0 else 1 - 2 * (i:Int))])),(900,some (.row 3 (iF m hs i))),(71,some (.row 4 (((hs.take (k + 1)).map (kF m.ts x)).map Pq.av)))]) a8 (.k (.k (.k (.k (.k (.cons rfl (BlkSub.of (by rw [eA hh,Xl,Xl]; rfl)) .nil))))))) ?_ (12,0)
   refine gW (Wk.rk (k:=71) (d:=901) rfl rfl) ?_;refine ga aO ?_;exact aP J2 (k+1) hkn
  have hkn:=bi hk t38;subst hkn;refine gW ((Wk.freeze (k:=901) rfl).trans<|Wk.of (sl:=[(1,some (.lst 14 (hs.map Hd.av))),(2,some (.ptr 2 0)),(6,some (.ms 900 3 0 i)),(9,some (.ptr 25 0)),(10,some (.ptr 10 0)),(15,some (.lst 2 (m.ps.map di))),(16,some (i64 m.ps.length)),(17,some (i64 i))]) (hp:=[(2,some (.box [.lst 1 (m.ts.map nA),.lst 2 (m.ps.map di)])),(25,some (bg m.ts)),(10,some (.box [.lst 1 (m.ts.map nA),.lst 4 ((hs.map (kF m.ts x)).map Pq.av),i64 (if m.ps.length=1 then 0 else 1-2*(i:Int))])),(900,some (.row 3 (iF m hs i)))]) a8 (.k (.k (.cons rfl (BlkSub.bL (.cons (.refl _) (.cons (Sub.of (by rw[bV (by rw[WW,WW,Xh];omega),Xg])) (.cons (.refl _) .nil))) rfl) (.k .nil))))) ?_
  refine gC (fun t78=>?_) (fun t78=>?_) (st1:=(14,0));cases t78;refine gs (cO (.tmp rfl) rfl (x5 _ _ _).symm (.tmp rfl) T54 rfl T62 rfl rfl (by dsimp only;simp only[W9,Xi];omega) rfl rfl) ?_ (16,0);refine gW (Wk.of (sl:=[(1,some (.lst 14 (hs.map Hd.av))),(2,some (.ptr 2 0)),(6,some (.ms 86 3 0 (i+1))),(15,some (.lst 2 (m.ps.map di))),(16,some (i64 m.ps.length)),(17,some (i64 i))]) (hp:=[(2,some (.box [.lst 1 (m.ts.map nA),.lst 2 (m.ps.map di)])),(86,some (.row 3 (iF m hs (i+1))))]) a8 (.k (.cons rfl (BlkSub.of (by rw[RJ];unfold jx;rw[hx9])) .nil))) ?_ (16,0);refine gW (Wk.rk (k:=86) (d:=900) rfl rfl) ?_;refine ga aO ?_;exact aP J1 (i+1) hin
 have hin:=bi hi t18;subst hin;refine gW ((Wk.freeze (k:=900) rfl).trans<|Wk.of (sl:=[(6,some (.lst 3 (iF m hs m.ps.length)))]) (hp:=[]) (.cons rfl (Sub.of (by rw[bV (x5 _ _ _).symm])) .nil) .nil) ?_;refine br ?_;rfl
variable{P:Program}{N:Nat}{R:Array Oper}{s:AS}{pos:String}{after:Array Edge}
def vJ(P:Program)(t:TypeId):Bool:=match P.underlying t with |some (.slice _)=>true |_=>false
theorem GE{t:TypeId}(h:vJ P t=true):∃e,P.underlying t=some (.slice e):=by
 unfold vJ at h;split at h
 ·exact⟨_,by assumption⟩
 ·cases h
theorem GF(w:World)(t e:TypeId)(a:Option Addr)(l c:Nat)(h:P.underlying t=some (.slice e)):(binOp .eql t (.slice a l c) (.slice none 0 0)).run P w=.ok (.bool a.isNone) w:=by
 simp only[binOp];simp[run_equal_slice_nil w t e a l c h]
theorem FV{d:Nat}{x:Operand}{sz:Nat}{e:AV}{es:List AV}{S T t:TypeId}(hx:Ev s x (.lst sz (e::es)))(hS:vJ P S=true)(hN:Nat.blt d N=true) :
  Step P N R s ⟨some d,.binOp .eql S x (.const (.slice none 0 0)) T,t,pos,after,none⟩ ⟨some (.v (.bool false)),[],aw x,[]⟩ :=
 du rfl rfl hN fun s' hag C m ac w hr=>⟨.bool false,by
  have h:=(hx.agree hag (fun _ h=>h)).rep hr;obtain⟨el,hel⟩:=GE hS;generalize hu:ac.eval x=y at h
  have hy:∃b l cap,y=.slice (some b) l cap:=by
   cases h with
   |lst u hb hc hl hs h1 hu hrr=>exact⟨_,_,_,rfl⟩
  obtain⟨b,l,cap,rfl⟩:=hy;have e1:ac.eval (.const (.slice none 0 0))=.slice none 0 0:=rfl;simp[execOp,hu,e1,eqGuard,GF w S el (some b) l cap hel],.v _⟩
theorem I8{d:Nat}{x:Operand}{a:Option Addr}{l cap:Nat}{S T t:TypeId}(hx:Ev s x (.v (.slice a l cap)))(hS:vJ P S=true)(hN:Nat.blt d N=true) :
  Step P N R s ⟨some d,.binOp .eql S x (.const (.slice none 0 0)) T,t,pos,after,none⟩ ⟨some (.v (.bool a.isNone)),[],aw x,[]⟩ :=
 du rfl rfl hN fun s' hag C m ac w hr=>⟨.bool a.isNone,by
  have h:=(hx.agree hag (fun _ h=>h)).rep hr;obtain⟨el,hel⟩:=GE hS;generalize hu:ac.eval x=y at h;cases h;have e1:ac.eval (.const (.slice none 0 0))=.slice none 0 0:=rfl;simp[execOp,hu,e1,eqGuard,GF w S el a l cap hel],.v _⟩
end Go.Lw
namespace Go.Lw
theorem Con.rekeyB1{P:Program}{f:FuncId}{k off:Nat}{x x':Blk}{y0:AV}{xs:List AV}{r:AV}(d:Nat)(hx:x.nm=[])(hx':x'.nm=[])(hy0:y0.nm=[])(hxs:(xs.all fun x=>x.nm.isEmpty)=true)(hr:r.nm=[])
  (h:Con P f (y0 :: .ptr k off::xs) [(k,some x)] r [(k,some x')]):Con P f (y0 :: .ptr d off::xs) [(d,some x)] r [(d,some x')]:=by
 refine⟨h.ok,?_⟩;intro ext m w vs hext hheap hvs hrep
 have h1 := h.ret ext (fun _ => m d) w vs hext (vM (k := d) hx rfl hheap) (by simpa using hvs) (by
  intro j v y hv hy;rw[kc (d:=k) (k:=d) (y:=x) (x:=x) (m2:=fun _=>m d) (m:=m) rfl]
  match j,hy with
  |0,hy =>
   cases hy;exact iK hy0 (hrep 0 v _ hv rfl)
  |1,hy =>
   cases hy;have h2:=hrep 1 v _ hv rfl;cases h2 with
   |ptr hm=>exact .ptr hm
  |j+2,hy =>
   have h2:=hrep (j+2) v y hv hy;refine iK ?_ h2;have:=List.all_eq_true.1 hxs y (WU hy);simpa using this)
 refine Calls.mono h1 ?_;rintro e w' ⟨v,m',rfl,hf,hh,hn,hk,hrr⟩
 have ho:a9 [(k,some x)] (fun _=>m d)=a9 [(d,some x)] m:=by
  funext b;apply propext;rw[kp,kp]
 refine⟨v,fun _=>m' k,rfl,ho▸hf,vM (k:=k) hx' rfl hh,?_,?_,?_⟩
 ·intro k' x b hx hb;rw[<- ho];exact hn k _ b (by rw[aT,XK rfl]) hb
 ·intro k' x y hx hy;obtain⟨rfl,_⟩:=fC hx;exact hk k _ _ (by rw[aT,XK rfl]) (by rw[aT,XK rfl])
 ·rw[kc (d:=d) (k:=k) (y:=x') (x:=x') (m2:=fun _=>m' k) (m:=m') rfl];exact iK hr hrr
open Go.Proofs
theorem qW{p q:Rat×Rat}(hp:Sm 1000 p)(hq:Sm 1000 q):Qz 310000 (bE p q) 3:=tP (VL hp hq) oz
structure MtOk(ts:LL)(m:Mt):Prop where
  tw:∃r,Tw m.ts r/\kB r m.ts.length<=1101400000
  two:m.ts.length<=2
  ln:m.ps.length<=2
  ps:∀x∈m.ps,Nm m.ts.length 15500000000 x.1/\Nm m.ts.length 15500000000 x.2
  up:∀(e:Nat)(y:Et ts),Nm ts.length e (sX y)->Nm m.ts.length e (sX y)/\sX (dE m.ts (sX y))=sX y
theorem BN{ts:LL}(e:Nat)(y:Et ts)(h:Nm ts.length e (sX y)):Nm ts.length e (sX y)/\sX (dE ts (sX y))=sX y:=⟨h,congrArg (sh ts.length) (bf _ _)⟩
theorem xy{ts:LL}{X:Et ts}(hn:ts.length<=1)(e:Nat)(y:Et ts)(h:Nm ts.length e (sX y)):Nm (aS ts (sX X)).length e (sX y)/\sX (dE (aS ts (sX X)) (sX y))=sX y:=by
 refine⟨lY h oz,?_⟩;show sh (aS ts (sX X)).length (ae (aS ts (sX X)).length (sX y))=sX y;rw[dC,ic h.nl.le];show(if T.isZ ts.length (T.zero ts.length)=true then sh ts.length (ae ts.length (sX y))else _)=_;rw[XK ((T.isZ_iff _ _).2 rfl)];exact congrArg (sh ts.length) (bf _ _)
theorem qU{ts:LL}{ps:List (List Rat×List Rat)}(tw:Tw ts 64990)(hn:ts.length<=1)(hl:ps.length<=2)(hp:∀x∈ps,Nm ts.length 15500000000 x.1/\Nm ts.length 15500000000 x.2):MtOk ts ⟨ts,ps⟩ :=
 ⟨⟨64990,tw,by have:=Ac hn;show kB 64990 ts.length<=_;omega⟩,by show ts.length<=2;omega,hl,hp,BN⟩
theorem Ft{ts:LL}{X:Et ts}{ps:List (List Rat×List Rat)}(E:ExtP X)(hn:ts.length<=1)(hl:ps.length<=2)(hp:∀x∈ps,Nm (aS ts (sX X)).length 15500000000 x.1/\Nm (aS ts (sX X)).length 15500000000 x.2):MtOk ts ⟨aS ts (sX X),ps⟩ :=
 ⟨⟨366909990,E.tw,by
  have h:=gO 366909990 (show ts.length+1<=2 by omega);have h2:eB 366909990 2=1100729976:=by decide
  show eB 366909990 (aS ts (sX X)).length<=_;rw[dC];omega⟩,by show(aS ts (sX X)).length<=2;rw[dC];omega,hl,hp,xy hn⟩
theorem pL{ts:LL}{m:Mt}(ok:MtOk ts m){x:List Rat×List Rat}(hx:x∈m.ps){p c:Rat×Rat}{o:P2 ts}(a1:Nm ts.length 773000000 (sX o.1))(a2:Nm ts.length 773000000 (sX o.2))(hp:Sm 1000 p)(hc:Sm 1000 c)
  (h0:bW (cg c p) (cg c p)≠0):HdP m.ts x ⟨p,o.l,c⟩:=by
 obtain⟨r,tw,hk⟩:=ok.tw;obtain⟨n1,n2⟩:=ok.ps x hx;obtain⟨b1,e1⟩:=ok.up _ _ a1;obtain⟨b2,e2⟩:=ok.up _ _ a2;have hl:lm m.ts.length=200000000000:=by unfold lm;rw[XK ok.two]
 refine⟨hp,hc,o5 tw n1 b1 (by rw[hl];omega),o5 tw n2 b2 (by rw[hl];omega),e1,e2,HW tw ok.two hk ((hc.sub hp).mono oz) (hp.mono oz) h0 ((n1.sub b1).mono oz) ((n2.sub b2).mono oz) ?_ ?_⟩
 ·show Nm m.ts.length 773000000 (sX (dE m.ts (sX o.1)));rw[e1];exact b1
 ·show Nm m.ts.length 773000000 (sX (dE m.ts (sX o.2)));rw[e2];exact b2
theorem lK{α:Type}{P:α->Prop}{x y:α}(hx:P x)(hy:P y):∀z∈[x,y],P z:=by
 intro z hz;rcases List.mem_cons.1 hz with rfl |hz
 ·exact hx
 ·rw[List.mem_singleton.1 hz];exact hy
theorem it{α:Type}{P:α->Prop}{x:α}(hx:P x):∀z∈[x],P z:=by
 intro z hz;rw[List.mem_singleton.1 hz];exact hx
theorem Eg{ts:LL}{x y z x2 y2 z2:Et ts}(tw:Tw ts 64990)(hn:ts.length<=1)(c:Ct ts 310000 65000)(h1:Zu 310000 65000 x 40 40)(h2:Zu 310000 65000 y 40 40)(h3:Zu 310000 65000 z 3 0)(h4:Zu 310000 65000 x2 40 40)(h5:Zu 310000 65000 y2 40 40)(h6:Zu 310000 65000 z2 3 0)
  (h0:fg (x,y) (x2,y2) z z2=0):MtOk ts (dY (x,y) (x2,y2) z z2):=by
 have P:=Hu c h1 h2 h3 h4 h5 h6;have ce:=c.ex;have ck:=c.k1;have cu:=c.u3;haveI cy:Cy ts 310000 65000:=⟨ce,ck,cu,by omega⟩
 unfold fg at h0;unfold dY
 by_cases hd:ak (aB (x,y) (x2,y2))=0
 ·rw[XK hd]at h0 ⊢;unfold kR at h0;unfold lG
  by_cases hz:ak (z-z2)≠0
  ·rw[XK hz];exact qU tw hn (by simp) (by simp)
  ·rw[XJ hz]
   by_cases hp:0<ak z
   ·rw[XK ⟨Decidable.not_not.1 hz,hp⟩]at h0;cases h0
   ·rw[XJ hp];haveI:=h1;haveI:=h2
    refine qU tw hn (by simp) (it ⟨?_,?_⟩)
    ·exact(inferInstance:Zu 310000 65000 (x+0*x) _ _).nm.mono (by decide)
    ·exact(inferInstance:Zu 310000 65000 (y+0*y) _ _).nm.mono (by decide)
 ·rw [XJ hd];have ht0:ak (eD (aB (x,y) (x2,y2))) ≠ 0:=by rw [xl tw]; exact hd
  by_cases hx0:ak (bn (x,y) z (x2,y2) z2)<0
  ·rw[XK hx0];exact qU tw hn (by simp) (by simp)
  ·rw[XJ hx0];obtain⟨_,_,f1,f2⟩:=I4 hn h1 h2 h3 h6 P ht0
   by_cases hx1:ak (bn (x,y) z (x2,y2) z2)=0
   ·rw[XK hx1];exact qU tw hn (by simp) (it ⟨f1.nm.mono (by decide),f2.nm.mono (by decide)⟩)
   ·rw[XJ hx1];have E:ExtP (bn (x,y) z (x2,y2) z2):=sP tw hn P.zX oz;have S:=GA (X:=bn (x,y) z (x2,y2) z2) (d:=aB (x,y) (x2,y2)) (f:=cV (x,y) (x2,y2) z z2) (v:=fB (x,y) (x2,y2)) hn E P.zt ht0 f1 f2 P.z1 P.z2;exact Ft E hn (by simp) (lK ⟨S.n1.1.nm.mono (by decide),S.n1.2.nm.mono (by decide)⟩ ⟨S.n2.1.nm.mono (by decide),S.n2.2.nm.mono (by decide)⟩)
theorem G8{ts:LL}{o p q:P2 ts}{z:Et ts}(tw:Tw ts 64990)(hn:ts.length<=1)(c:Ct ts 310000 65000)(o1:Zu 310000 65000 o.1 40 40)(o2:Zu 310000 65000 o.2 40 40)(p1:Zu 310000 65000 p.1 40 40)(p2:Zu 310000 65000 p.2 40 40)(q1:Zu 310000 65000 q.1 40 40)(q2:Zu 310000 65000 q.2 40 40)
  (i3:Zu 310000 65000 z 3 0) (h0:eZ p q=0):MtOk ts (dX p q o z):=by
 have ce:=c.ex;have ck:=c.k1;have cu:=c.u3;haveI cy:Cy ts 310000 65000:=⟨ce,ck,cu,by omega⟩
 have P:=FH cy p1 p2 q1 q2 o1 o2 i3;unfold eZ at h0;unfold dX
 by_cases hs:ak (bh p q)=0
 ·rw[XK hs]at h0;cases h0
 ·rw[XJ hs]
  by_cases h1:ak (aU p q o z)=-1
  ·rw[XK h1];exact qU tw hn (by simp) (by simp)
  ·rw[XJ h1]
   by_cases h2:ak (aU p q o z)=0
   ·rw[XK h2];have Q:=IX cy hn p1 p2 P hs;exact qU tw hn (by simp) (it ⟨Q.n1.nm.mono (by decide),Q.n2.nm.mono (by decide)⟩)
   ·rw[XJ h2]
    have hpos:0<=ak (aU p q o z):=by
     have:=T.sgn_cases (ay ts) ts.length (aU p q o z);have e:ak (aU p q o z)=T.sgn (ay ts) ts.length (aU p q o z):=rfl;omega
    have E:ExtP (aU p q o z):=sP tw hn (x7 P.zX oz oz) hpos;haveI ce:=E.cy;haveI zr:Zl (aS ts (sX (aU p q o z))) 773000000 1101400000 (cr ts.length) (dE _ (cr ts.length)) 1 0:=Zl.at (tT oz) (by decide);haveI ze':=ke (X:=aU p q o z) hn P.ze (by decide);haveI:=zr.zu;haveI:=ze'.zu
    have S1:=wi (p:=p) (v:=aR q p) hn E P.zs hs p1 p2 P.v1 P.v2 (k:=aL (aU p q o z) (bH p q o)+bu (aU p q o z)) inferInstance;have S2:=wi (p:=p) (v:=aR q p) hn E P.zs hs p1 p2 P.v1 P.v2 (k:=aL (aU p q o z) (bH p q o)-bu (aU p q o z)) inferInstance;exact Ft E hn (by simp) (lK ⟨S1.n1.nm.mono (by decide),S1.n2.nm.mono (by decide)⟩ ⟨S2.n1.nm.mono (by decide),S2.n2.nm.mono (by decide)⟩)
abbrev pX(r:List AV×Nat):AV:=.tup [.lst 3 r.1,bq r.2]
def kP(l:Li)(a:As)(i k:Int)(j0 j1 j2:Jt):List AV×Nat :=
  if gK [cg (ao l j2 i) (ao l j0 i),cg (ao l j2 k) (ao l j1 k)]=true then([],15)
  else if fg (aC l a j0 i) (aC l a j1 k) (qE (bE (ao l j2 i) (ao l j0 i))) (qE (bE (ao l j2 k) (ao l j1 k)))≠0 then([],fg (aC l a j0 i) (aC l a j1 k) (qE (bE (ao l j2 i) (ao l j0 i))) (qE (bE (ao l j2 k) (ao l j1 k))))
  else(iF (dY (aC l a j0 i) (aC l a j1 k) (qE (bE (ao l j2 i) (ao l j0 i))) (qE (bE (ao l j2 k) (ao l j1 k)))) [⟨ao l j0 i,P2.l (aC l a j0 i),ao l j2 i⟩,⟨ao l j1 k,P2.l (aC l a j1 k),ao l j2 k⟩]
    (dY (aC l a j0 i) (aC l a j1 k) (qE (bE (ao l j2 i) (ao l j0 i))) (qE (bE (ao l j2 k) (ao l j1 k)))).ps.length,0)
theorem Rj{l:Li}{a:As}(D:DyR l a)(hn:(llq a.rs).length<=1){i k z0 z1 z2:Int}{j0 j1 j2:Jt}(hg:GrOk l ⟨1,[i,k],[z0,z1,z2],0⟩)(P:RrrP 3900000 l a ⟨1,[i,k],[z0,z1,z2],0⟩ i k z0 z1 z2 j0 j1 j2) :
  Con prog 65 [.ptr 1000 0] [(1000,some (cf l ⟨1,[i,k],[z0,z1,z2],0⟩ a))] (pX (kP l a i k j0 j1 j2)) [(1000,some (cf l ⟨1,[i,k],[z0,z1,z2],0⟩ a))]:=by
 haveI c:=D.s.ct D.hc;obtain⟨tw,etw⟩:=de D.s.tr D.hc;have hq0:=fQ D.hl D.li P.h0 P.p0.or;have hq1:=fQ D.hl D.li P.h1 P.p1.or;have hq2:=fQ D.hl D.li P.h2 P.t1;have hq3:=fQ D.hl D.li P.h2 P.t2;obtain⟨y1,y2⟩:=l8 D.hl D.li D.al D.s D.hc P.h0 P.p0;obtain⟨y3,y4⟩:=l8 D.hl D.li D.al D.s D.hc P.h1 P.p1;haveI:=y1;haveI:=y2;haveI:=y3;haveI:=y4
 haveI q1:=qW hq2 hq0;haveI q2:=qW hq3 hq1;haveI z1:Zu 310000 65000 (qE (bE (ao l j2 i) (ao l j0 i)):Et (llq a.rs)) 3 0:=inferInstance;haveI z2:Zu 310000 65000 (qE (bE (ao l j2 k) (ao l j1 k)):Et (llq a.rs)) 3 0:=inferInstance;have hr:=N0 (a:=sX (aC l a j0 i).1) (b:=sX (aC l a j0 i).2) (c:=sh 0 (bE (ao l j2 i) (ao l j0 i):Rat)) (a2:=sX (aC l a j1 k).1) (b2:=sX (aC l a j1 k).2) (c2:=sh 0 (bE (ao l j2 k) (ao l j1 k):Rat)) D.s.tr D.hc hn rfl rfl (AG _ _) (AG _ _);have hzz:=E2 [cg (ao l j2 i) (ao l j0 i),cg (ao l j2 k) (ao l j1 k)] (by show 2<=_;omega) (lK ((hq2.sub hq0).mono oz) ((hq3.sub hq1).mono oz));refine gF func65 (fun k z h=>bG h) ?_;refine gt (aW (Iz D.hl D.li D.al D.hc D.two hg P.h0 P.h1 P.h2 P.p0 P.p1 P.t1 P.t2) (cC rfl) rfl rfl rfl) ?_;refine gC (fun t13=>?_) (fun t13=>?_) (st1:=(3,0));cases t13;refine gc (oS hq2 hq0 oz oz) ?_;refine gc (oS hq3 hq1 oz oz) ?_;refine gc hzz ?_;refine gD ?_;refine gC (fun t23=>?_) (fun t23=>?_)
 ·have h1:gK [cg (ao l j2 i) (ao l j0 i),cg (ao l j2 k) (ao l j1 k)]=true:=t23;refine gR ?_;exact(az.keep (bm rfl)).sub (by unfold kP;rw[XK h1];exact Sub.tup (.cons (.nil _ _ _) (.cons (.refl _) .nil)))
 have h1:gK [cg (ao l j2 i) (ao l j0 i),cg (ao l j2 k) (ao l j1 k)]=false:=t23;obtain⟨w1,w2⟩:=rY h1;refine gc (yj hq0 hq2 _) ?_;refine gc (yj hq1 hq3 _) ?_;refine gc hr ?_;refine gD ?_;refine gC (fun t51=>?_) (fun t51=>?_)
 ·have h2:=dl t51;refine gR ?_;exact(az.keep (bm rfl)).sub (by unfold kP;rw[XJ (by rw[h1];decide),XK h2];exact Sub.tup (.cons (.nil _ _ _) (.cons (.refl _) .nil)))
 have h2:=cZ t51;have ok:=Eg (x:=(aC l a j0 i).1) (y:=(aC l a j0 i).2) (x2:=(aC l a j1 k).1) (y2:=(aC l a j1 k).2) tw hn c y1 y2 z1 y3 y4 z2 h2;obtain⟨r9,tw9,_⟩:=ok.tw
 have hpl:=Eh tw9 [⟨ao l j0 i,P2.l (aC l a j0 i),ao l j2 i⟩,⟨ao l j1 k,P2.l (aC l a j1 k),ao l j2 k⟩] (WZ 2) ok.ln
  (fun x hx=>lK (pL ok hx (y1.nm.mono (by decide)) (y2.nm.mono (by decide)) hq0 hq2 w1) (pL ok hx (y3.nm.mono (by decide)) (y4.nm.mono (by decide)) hq1 hq3 w2))
 refine gc hpl ?_;refine gR ?_;exact(az.keep (bm rfl)).sub (Sub.of (by unfold kP;rw[XJ (by rw[h1];decide),XJ (fun h=>h h2)];rfl))
def ku(l:Li)(a:As)(i:Int)(j0 j:Jt):List AV×Nat :=
  if gK [cg (aQ l i j.point) (ao l j0 i)]=true then([],15)
  else if eZ (ba l a j.b j.on) (ba l a j.b j.to)≠0 then([],eZ (ba l a j.b j.on) (ba l a j.b j.to))
  else(iF (dX (ba l a j.b j.on) (ba l a j.b j.to) (aC l a j0 i) (qE (bE (aQ l i j.point) (ao l j0 i)))) [⟨ao l j0 i,P2.l (aC l a j0 i),aQ l i j.point⟩]
    (dX (ba l a j.b j.on) (ba l a j.b j.to) (aC l a j0 i) (qE (bE (aQ l i j.point) (ao l j0 i)))).ps.length,0)
theorem P6{l:Li}{a:As}(D:DyR l a)(hn:(llq a.rs).length<=1){i z0 z1:Int}{j0 j:Jt}(hg:GrOk l ⟨2,[i],[z0,z1],0⟩)(P:SlP 3900000 l a ⟨2,[i],[z0,z1],0⟩ 2 i z0 z1 j0 j)(ha:j.a=i)(hb:Pd 3900000 a j.b) :
  Con prog 66 [.ptr 1000 0] [(1000,some (cf l ⟨2,[i],[z0,z1],0⟩ a))] (pX (ku l a i j0 j)) [(1000,some (cf l ⟨2,[i],[z0,z1],0⟩ a))]:=by
 haveI c:=D.s.ct D.hc;obtain⟨tw,etw⟩:=de D.s.tr D.hc;obtain⟨i1,i2,i3,i4,i5⟩:=cA D.li P.h1;have hq2:Sm 1000 (aQ l i j.point):=by rw[<- ha];exact jw D.hl D.li i1 i3
 have hq0:=fQ D.hl D.li P.h0 P.p0.or;obtain⟨y1,y2⟩:=l8 D.hl D.li D.al D.s D.hc P.h0 P.p0;obtain⟨y3,y4⟩:=nI D.hl D.li D.al D.s D.hc i2 i4 hb;obtain⟨y5,y6⟩:=nI D.hl D.li D.al D.s D.hc i2 (i5 P.hk) hb;haveI q1:=qW hq2 hq0;haveI z1:Zu 310000 65000 (qE (bE (aQ l i j.point) (ao l j0 i)):Et (llq a.rs)) 3 0:=inferInstance;have hr:=Ki (o:=aC l a j0 i) (p:=ba l a j.b j.on) (q:=ba l a j.b j.to) (c:=sh 0 (bE (aQ l i j.point) (ao l j0 i):Rat)) D.s.tr D.hc hn c y1 y2 y3 y4 y5 y6 (AG _ _);have hzz:=E2 [cg (aQ l i j.point) (ao l j0 i)] (by show 1<=_;omega) (it ((hq2.sub hq0).mono oz));refine gF func66 (fun k z h=>bG h) ?_;refine gt (aW (HS D.hl D.li D.al D.hc D.two hg P.h0 P.h1 P.p0 ha P.hk hb) (cC rfl) rfl rfl rfl) ?_;refine gC (fun t15=>?_) (fun t15=>?_) (st1:=(3,0));cases t15;refine gc (oS hq2 hq0 oz oz) ?_;refine gc hzz ?_;refine gC (fun t25=>?_) (fun t25=>?_)
 ·have h1:gK [cg (aQ l i j.point) (ao l j0 i)]=true:=t25;refine gR ?_;exact(az.keep (bm rfl)).sub (by unfold ku;rw[XK h1];exact Sub.tup (.cons (.nil _ _ _) (.cons (.refl _) .nil)))
 have h1:gK [cg (aQ l i j.point) (ao l j0 i)]=false:=t25;have w1:=uu h1;refine gc (yj hq0 hq2 _) ?_;refine gc hr ?_;refine gD ?_;refine gC (fun t48=>?_) (fun t48=>?_)
 ·have h2:=dl t48;refine gR ?_;exact(az.keep (bm rfl)).sub (by unfold ku;rw[XJ (by rw[h1];decide),XK h2];exact Sub.tup (.cons (.nil _ _ _) (.cons (.refl _) .nil)))
 have h2:=cZ t48;have ok:=G8 (o:=aC l a j0 i) (p:=ba l a j.b j.on) (q:=ba l a j.b j.to) (z:=qE (bE (aQ l i j.point) (ao l j0 i))) tw hn c y1 y2 y3 y4 y5 y6 z1 h2;obtain⟨r9,tw9,_⟩:=ok.tw;have hpl:=Eh tw9 [⟨ao l j0 i,P2.l (aC l a j0 i),aQ l i j.point⟩] (show 1<=2 by omega) ok.ln (fun x hx=>it (pL ok hx (y1.nm.mono (by decide)) (y2.nm.mono (by decide)) hq0 hq2 w1));refine gc hpl ?_;refine gR ?_;exact(az.keep (bm rfl)).sub (Sub.of (by unfold ku;rw[XJ (by rw[h1];decide),XJ (fun h=>h h2)];rfl))
theorem GC{ts:LL}{r e:Nat}(tw:Tw ts r){a b c:List Rat}(ha:Nm ts.length e a)(hb:Nm ts.length e b)(hc:Nm ts.length e c)(he:2*(e+e+kB r ts.length)<=lm ts.length) :
  FP 162 [aV ts,nA a,aM b c] (.tup [aM (sh ts.length (T.mul (ay ts) ts.length (ae ts.length a) (ae ts.length b))) (sh ts.length (T.mul (ay ts) ts.length (ae ts.length a) (ae ts.length c))),.v .nilIface]):=by
 refine aj func162 ?_;refine gc (vP (e:=e) tw [a,b,c] (by simp only[Xu,Xf,or_false];rintro x (rfl |rfl |rfl) <;> assumption) oz (by simp)) ?_;refine gC (fun t19=>?_) (fun t19=>?_) (st1:=(3,0));cases t19;refine gt (aE (Con.rB 24 rfl rfl rfl rfl (lR tw ha hb oz)) (aJ rfl rfl rfl) aH rfl rfl) ?_;refine gt (aE (Con.rB 24 rfl rfl rfl rfl (lR tw ha hc oz)) (aJ rfl rfl rfl) aH rfl rfl) ?_;refine gt (aE (Con.rB 24 rfl rfl rfl rfl (xh _ _ _)) (bD rfl rfl) aH rfl rfl) ?_;refine gD ?_;refine br ?_;rfl
section
variable{ts:LL}
def sL(q w1 w2 h:Et ts):Et ts:=q*w1-h*-w2
def se(q w1 w2 h:Et ts):Et ts:=q*w2-h*w1
def nJ(ts:LL)(q h d:List Rat)(w:List Rat×List Rat):P2 ts:=(sL (dE ts q) (dE ts w.1) (dE ts w.2) (dE ts h)*iE (dE ts d),se (dE ts q) (dE ts w.1) (dE ts w.2) (dE ts h)*iE (dE ts d))
structure Rp where
  v:Rat×Rat
  p:Rat×Rat
  a:List Rat×List Rat
  h:List Rat
  d:List Rat
  w:List Rat×List Rat
def mQ(ts:LL)(R:Rp)(q:List Rat):Pq:=gz R.v (nJ ts q R.h R.d R.w) R.p (dE ts R.a.1,dE ts R.a.2)
structure RqP(ts:LL)(R:Rp)(q:List Rat):Prop where
  sm:Sm 3000 R.v
  sp:Sm 3000 R.p
  c1:FP 162 [aV ts,nA q,aM R.w.1 R.w.2] (.tup [aM (sX (dE ts q*dE ts R.w.1)) (sX (dE ts q*dE ts R.w.2)),.v .nilIface])
  ng:FP 147 [aV ts,nA R.w.2] (.tup [nA (sX (-dE ts R.w.2)),.v .nilIface])
  c2:FP 162 [aV ts,nA R.h,aM (sX (-dE ts R.w.2)) R.w.1] (.tup [aM (sX (dE ts R.h*-dE ts R.w.2)) (sX (dE ts R.h*dE ts R.w.1)),.v .nilIface])
  sb:FP 76 [aV ts,aM (sX (dE ts q*dE ts R.w.1)) (sX (dE ts q*dE ts R.w.2)),aM (sX (dE ts R.h*-dE ts R.w.2)) (sX (dE ts R.h*dE ts R.w.1))] (.tup [aM (sX (sL (dE ts q) (dE ts R.w.1) (dE ts R.w.2) (dE ts R.h))) (sX (se (dE ts q) (dE ts R.w.1) (dE ts R.w.2) (dE ts R.h))),.v .nilIface])
  d1:FP 281 [aV ts,nA (sX (sL (dE ts q) (dE ts R.w.1) (dE ts R.w.2) (dE ts R.h))),nA R.d] (.tup [nA (sX (nJ ts q R.h R.d R.w).1),.v .nilIface])
  d2:FP 281 [aV ts,nA (sX (se (dE ts q) (dE ts R.w.1) (dE ts R.w.2) (dE ts R.h))),nA R.d] (.tup [nA (sX (nJ ts q R.h R.d R.w).2),.v .nilIface])
  e1:sX (dE ts R.a.1)=R.a.1
  e2:sX (dE ts R.a.2)=R.a.2
  b:BdP ts R.v (nJ ts q R.h R.d R.w) R.p (dE ts R.a.1,dE ts R.a.2)
theorem RqP.body{R:Rp}{q:List Rat}(H:RqP ts R q) :
  Con prog 152 [.ptr 1000 0,qP R.v,di (nJ ts q R.h R.d R.w).l,qP R.p,aM R.a.1 R.a.2] [(1000,some (bg ts))] (mQ ts R q).av [(1000,some (bg ts))]:=by
 have hb:=zf H.sm H.sp H.b
 have e:di (P2.l ((dE ts R.a.1,dE ts R.a.2):P2 ts))=aM R.a.1 R.a.2:=by
  show aM (sX (dE ts R.a.1)) (sX (dE ts R.a.2))=_;rw[H.e1,H.e2]
 rw[e]at hb;exact hb
theorem E7{R:Rp}{q:List Rat}{j:Nat}(cy:Cy ts 773000000 1101400000)(sm:Sm 3000 R.v)(sp:Sm 3000 R.p)(h0:bW R.v R.v≠0)(nq:Nm ts.length 773000000 q)(nh:Nm ts.length 773000000 R.h)(nd:Nm ts.length 773000000 R.d)
  (n1:Nm ts.length 773000000 R.w.1) (n2:Nm ts.length 773000000 R.w.2) (a1:Nm ts.length 773000000 R.a.1) (a2:Nm ts.length 773000000 R.a.2) (e1:sX (dE ts R.a.1)=R.a.1) (e2:sX (dE ts R.a.2)=R.a.2)
  (nj:Nl j R.d) (hj:j<=ts.length) (hj1:j<=1) (hd:ak (dE ts R.d)≠0):RqP ts R q:=by
 obtain⟨r,tw,hk⟩:=cy.ex;have hl:=cy.lm;haveI:=cy;haveI zq:Zl ts 773000000 1101400000 q (dE ts q) 1 0:=Zl.at nq (WZ _);haveI zh:Zl ts 773000000 1101400000 R.h (dE ts R.h) 1 0:=Zl.at nh (WZ _);haveI zd:Zl ts 773000000 1101400000 R.d (dE ts R.d) 1 0:=Zl.at nd (WZ _);haveI z1:Zl ts 773000000 1101400000 R.w.1 (dE ts R.w.1) 1 0:=Zl.at n1 (WZ _);haveI z2:Zl ts 773000000 1101400000 R.w.2 (dE ts R.w.2) 1 0:=Zl.at n2 (WZ _);haveI:=zq.zu;haveI:=zh.zu;haveI:=z1.zu;haveI:=z2.zu
 haveI zn:Zu 773000000 1101400000 (-dE ts R.w.2) 1 0:=inferInstance;haveI y1:Zu 773000000 1101400000 (dE ts q*dE ts R.w.1) 2 1:=inferInstance;haveI y2:Zu 773000000 1101400000 (dE ts q*dE ts R.w.2) 2 1:=inferInstance;haveI y3:Zu 773000000 1101400000 (dE ts R.h*-dE ts R.w.2) 2 1:=inferInstance;haveI y4:Zu 773000000 1101400000 (dE ts R.h*dE ts R.w.1) 2 1:=inferInstance;haveI x1:Zu 773000000 1101400000 (sL (dE ts q) (dE ts R.w.1) (dE ts R.w.2) (dE ts R.h)) 4 3:=(inferInstance:Zu 773000000 1101400000 (dE ts q*dE ts R.w.1-dE ts R.h*-dE ts R.w.2) 4 3)
 haveI x2:Zu 773000000 1101400000 (se (dE ts q) (dE ts R.w.1) (dE ts R.w.2) (dE ts R.h)) 4 3:=(inferInstance:Zu 773000000 1101400000 (dE ts q*dE ts R.w.2-dE ts R.h*dE ts R.w.1) 4 3)
 have ew:∀x:Et ts,ae ts.length (sX x)=x:=fun x=>bf _ _
 have hkB:kB r ts.length<=1101400000:=hk;have c1:=GC tw nq n1 n2 (by rw[hl];omega);have ng:=CF (ts:=ts) (u:=773000000) (k:=1101400000) (a:=R.w.2) (by decide);have nn:Nm ts.length 773000000 (sX (-dE ts R.w.2)):=zn.nm.mono (by decide);have c2:=GC tw nh nn n1 (by rw[hl];omega);rw[ew]at c2;have sb:=xI (a:=sX (dE ts q*dE ts R.w.1)) (b:=sX (dE ts q*dE ts R.w.2)) (c:=sX (dE ts R.h*-dE ts R.w.2)) (d:=sX (dE ts R.h*dE ts R.w.1)) tw y1.nm y2.nm y3.nm y4.nm (by rw[hl];decide);rw[ew,ew,ew,ew]at sb;have d1:=pZ (ts:=ts) (u:=773000000) (k:=1101400000) (a:=sX (sL (dE ts q) (dE ts R.w.1) (dE ts R.w.2) (dE ts R.h))) (b:=R.d) nj hj hj1 hd (by decide);have d2:=pZ (ts:=ts) (u:=773000000) (k:=1101400000) (a:=sX (se (dE ts q) (dE ts R.w.1) (dE ts R.w.2) (dE ts R.h))) (b:=R.d) nj hj hj1 hd (by decide);exact⟨sm,sp,c1,ng,c2,sb,d1.1,d2.1,e1,e2,HW tw cy.two hkB sm sp h0 (d1.2.nm.mono (by decide)) (d2.2.nm.mono (by decide)) (by show Nm ts.length 773000000 (sX (dE ts R.a.1));rw[e1];exact a1) (by show Nm ts.length 773000000 (sX (dE ts R.a.2));rw[e2];exact a2)⟩
end
def iV(ts:LL)(R:Rp)(qs:LL)(i:Nat):Sv:=⟨ts,[mQ ts R (qs.getD i [])],if qs.length=1 then 0 else 1-2*(i:Int)⟩
def kC(ts:LL)(R:Rp)(qs:LL)(n:Nat):List AV:=(List.range n).map fun i=>(iV ts R qs i).av
theorem AK(ts:LL)(R:Rp)(qs:LL)(n:Nat):(kC ts R qs n).length=n:=by simp[kC]
theorem WF(ts:LL)(R:Rp)(qs:LL)(n:Nat):kC ts R qs (n+1)=kC ts R qs n++[(iV ts R qs n).av]:=by unfold kC;rw[List.range_succ];simp
def dk(l:Li)(a:As)(i:Int)(j0 j:Jt):Rp:=⟨cw l i j,ao l j0 i,P2.l (aC l a j0 i),sh 0 (cq l i j0 j:Rat),sX (cc l a i j0 j),P2.l (bS l a i j0 j)⟩
def bp(l:Li)(a:As)(i:Int)(j0 j:Jt):Et (llq a.rs):=qE (iD l i j)*cc l a i j0 j-qE (cq l i j0 j)*qE (cq l i j0 j)
def jC(l:Li)(a:As)(i:Int)(j0 j:Jt):List AV×Nat :=
  if ak (cc l a i j0 j)=0/\ak (qE (cq l i j0 j):Et (llq a.rs))=0 then([],15)
  else if ak (bp l a i j0 j)<0 then([],0)
  else if 0<ak (bp l a i j0 j)then(kC (aS (llq a.rs) (sX (bp l a i j0 j))) (dk l a i j0 j) [cr (llq a.rs).length,sX (-bu (bp l a i j0 j))] 2,0)
  else(kC (llq a.rs) (dk l a i j0 j) [[]] 1,0)
theorem sM{ts:LL}{r:Nat}(tw:Tw ts r){n d h:Et ts}(hs:¬ak (n*d-h*h)<0)(h1:¬(ak d=0/\ak h=0)):ak d≠0:=by
 intro h0;have S:=da (ay ts) ts.length tw.pos
 have e1:sg (ay ts) ts.length (n*d)=0:=by
  rw[S.mul];have:sg (ay ts) ts.length d=0:=h0;rw[this];exact Int.mul_zero _
 have e2:=S.zadd (y:=-(h*h)) e1;rw[show n*d+-(h*h)=n*d-h*h by grind,S.neg,S.mul]at e2;have e3:ak (n*d-h*h)=sg (ay ts) ts.length (n*d-h*h):=rfl;have e4:ak h=sg (ay ts) ts.length h:=rfl;have h2:sg (ay ts) ts.length h≠0:=fun h9=>h1 ⟨h0,by rw[e4];exact h9⟩
 rw[e3,e2]at hs;rcases S.cs h with g |g |g
 ·rw[g]at hs;exact hs (by decide)
 ·exact h2 g
 ·rw[g]at hs;exact hs (by decide)
theorem KM{p q:Rat}(h:p*p+q*q=0):p=0/\q=0:=by
 have h1:=oM p;have h2:=oM q;have h3:p*p=0:=by grind
 have h4:q*q=0:=by grind
 exact⟨by rcases Rat.mul_eq_zero.1 h3 with g |g <;> exact g,by rcases Rat.mul_eq_zero.1 h4 with g |g <;> exact g⟩
theorem un{l:Li}(hli:aG l=0){n:Nat}{j:Jt}(hj:l.jo[n]?=some j)(hk:j.kind≠0){i:Int}(hi:j.b=i):bW (cw l i j) (cw l i j)≠0:=by
 intro h0;obtain⟨h1,h2⟩:=KM h0;have h3:=Fj hli hj;subst hi;have e1:(aQ l j.b j.to).1-(aQ l j.b j.on).1=0:=h1;have e2:(aQ l j.b j.to).2-(aQ l j.b j.on).2=0:=h2;have e3:((cE l j.b).getD j.on.toNat default).x.q=((cE l j.b).getD j.to.toNat default).x.q:=by unfold aQ at e1;dsimp only at e1;grind
 have e4:((cE l j.b).getD j.on.toNat default).y.q=((cE l j.b).getD j.to.toNat default).y.q:=by unfold aQ at e2;dsimp only at e2;grind
 unfold er at h3;split at h3
 ·cases h3
 ·split at h3
  ·cases h3
  ·split at h3
   ·cases h3
   ·split at h3
    ·cases h3
    ·split at h3
     ·cases h3
     ·first |(rw[XK ⟨e3,e4⟩]at h3;cases h3) |(split at h3 <;> first |(cases h3;done) |(rename_i g;exact absurd ⟨e3,e4⟩ g))
theorem Kh:Sub (.lst 1 [nS]) (.lst 1 [nA []]):=by
 refine Sub.lst rfl (fun i x y hx hy=>?_)
 match i,hx,hy with
 |0,hx,hy =>
  cases hx;cases hy
  refine⟨rfl,fun j x y hx hy=>?_⟩
  match j,hx,hy with
  |0,hx,hy=>cases hx;cases hy;exact⟨rfl,.nil _ _ _⟩
theorem PQ{x y:Int}(h:cond (aa .eql x 0) (aa .eql y 0) false=true):x=0/\y=0:=by
 cases h1:aa .eql x 0
 ·rw[h1]at h;cases h
 ·rw[h1]at h;exact⟨cK h1,cK h⟩
theorem M6{x y:Int}(h:cond (aa .eql x 0) (aa .eql y 0) false=false):¬(x=0/\y=0):=by
 rintro⟨rfl,rfl⟩;cases h
structure RpF(l:Li)(a:As)(i:Int)(j0 j:Jt):Prop where
  hv:Sm 3000 (cw l i j)
  hp:Sm 3000 (ao l j0 i)
  vv:bW (cw l i j) (cw l i j)≠0
  zl:Zl (llq a.rs) 310000 65000 (sh 0 (cq l i j0 j:Rat)) (qE (cq l i j0 j)) 3 0
  z3:Zu 310000 65000 (cc l a i j0 j) 320 327
  zX:Zu 310000 65000 (bp l a i j0 j) 976 989
  w1:Zu 310000 65000 (bS l a i j0 j).1 80 81
  w2:Zu 310000 65000 (bS l a i j0 j).2 80 81
  y1:Zu 310000 65000 (aC l a j0 i).1 40 40
  y2:Zu 310000 65000 (aC l a j0 i).2 40 40
theorem CR{l:Li}{a:As}(D:DyR l a)(hn:(llq a.rs).length<=1){g:Gr}{i z0 z1:Int}{j0 j:Jt}(P:SlP 3900000 l a g 3 i z0 z1 j0 j)(hj:j.b=i)(hb:Pd 3900000 a j.a):RpF l a i j0 j:=by
 haveI c:=D.s.ct D.hc;have ck:=c.k1;haveI cy:Cy (llq a.rs) 310000 65000:=⟨c.ex,c.k1,c.u3,by omega⟩
 have hs0:Sm 1000 (ao l j0 i):=fQ D.hl D.li P.h0 P.p0.or;obtain⟨i1,i2,i3,i4,i5⟩:=cA D.li P.h1;have hs1:Sm 1000 (aQ l i j.on):=by rw[<- hj];exact jw D.hl D.li i2 i4
 have hs2:Sm 1000 (aQ l i j.to):=by rw[<- hj];exact jw D.hl D.li i2 (i5 P.hk)
 have hv:Sm _ (cw l i j):=hs2.sub hs1;haveI qn:Qz 310000 (iD l i j) 3:=tP (hv.dot hv) oz;haveI qh:Qz 310000 (cq l i j0 j) 3:=tP (hv.cross (hs1.sub hs0)) oz;obtain⟨w1,w2⟩:=Cp D P.h0 P.p0 P.h1 hb;obtain⟨y1,y2⟩:=l8 D.hl D.li D.al D.s D.hc P.h0 P.p0;haveI:=w1;haveI:=w2
 haveI z3:Zu 310000 65000 (cc l a i j0 j) 320 327:=(inferInstance:Zu 310000 65000 (dotE (bS l a i j0 j).1 (bS l a i j0 j).2 (bS l a i j0 j).1 (bS l a i j0 j).2) _ _)
 exact⟨hv.mono oz,hs0.mono oz,un D.li P.h1 P.hk hj,Cy.zq,z3,x7 (inferInstance:Zu 310000 65000 (qE (iD l i j)*cc l a i j0 j-qE (cq l i j0 j)*qE (cq l i j0 j)) _ _) (by decide) (by decide),w1,w2,y1,y2⟩
theorem EI{l:Li}{a:As}{i:Int}{j0 j:Jt}(F:RpF l a i j0 j)(tw:Tw (llq a.rs) 64990)(hn:(llq a.rs).length<=1)(hd0:ak (cc l a i j0 j)≠0)(hp:0<=ak (bp l a i j0 j)) :
  ExtP (bp l a i j0 j)/\RqP (aS (llq a.rs) (sX (bp l a i j0 j))) (dk l a i j0 j) (cr (llq a.rs).length)/\RqP (aS (llq a.rs) (sX (bp l a i j0 j))) (dk l a i j0 j) (sX (-bu (bp l a i j0 j))) /\
  FP 147 [aV (aS (llq a.rs) (sX (bp l a i j0 j))),nA (cr (llq a.rs).length)] (.tup [nA (sX (-bu (bp l a i j0 j))),.v .nilIface]):=by
 have E:ExtP (bp l a i j0 j):=sP tw hn F.zX hp;have ce:=E.cy;have zr:Nm (aS (llq a.rs) (sX (bp l a i j0 j))).length 773000000 (cr (llq a.rs).length):=(tT oz).mono (by decide);haveI zrl:Zl (aS (llq a.rs) (sX (bp l a i j0 j))) 773000000 1101400000 (cr (llq a.rs).length) (bu (bp l a i j0 j)) 1 0:=Zl.at zr (by decide);haveI:=zrl.zu;have hng:=CF (ts:=aS (llq a.rs) (sX (bp l a i j0 j))) (u:=773000000) (k:=1101400000) (a:=cr (llq a.rs).length) (by decide);have zn:Nm (aS (llq a.rs) (sX (bp l a i j0 j))).length 773000000 (sX (-bu (bp l a i j0 j))):=(inferInstance:Zu 773000000 1101400000 (-bu (bp l a i j0 j)) 1 0).nm.mono (by decide)
 have hR:∀q,Nm (aS (llq a.rs) (sX (bp l a i j0 j))).length 773000000 q->RqP (aS (llq a.rs) (sX (bp l a i j0 j))) (dk l a i j0 j) q:=fun q nq =>
  E7 (R := dk l a i j0 j) (j := (llq a.rs).length) ce F.hv F.hp F.vv nq (lY (F.zl.nm.mono (by decide)) oz) (lY (F.z3.nm.mono (by decide)) oz) (lY (F.w1.nm.mono (by decide)) oz) (lY (F.w2.nm.mono (by decide)) oz)
   (lY (F.y1.nm.mono (by decide)) oz) (lY (F.y2.nm.mono (by decide)) oz) (xy hn _ _ F.y1.nm).2 (xy hn _ _ F.y2.nm).2 F.z3.nm.nl (by rw[dC];omega) hn (by rw[show ak (dE (aS (llq a.rs) (sX (bp l a i j0 j))) (dk l a i j0 j).d)=ak (cc l a i j0 j)from ox];exact hd0)
 exact⟨E,hR _ zr,hR _ zn,hng⟩
theorem Gu{l:Li}{a:As}{i:Int}{j0 j:Jt}(F:RpF l a i j0 j)(tw:Tw (llq a.rs) 64990)(hn:(llq a.rs).length<=1)(hd0:ak (cc l a i j0 j)≠0):Cy (llq a.rs) 773000000 1101400000/\RqP (llq a.rs) (dk l a i j0 j) []:=by
 have cs:Cy (llq a.rs) 773000000 1101400000:=⟨⟨64990,tw,by show kB 64990 (llq a.rs).length<=_;have:=Ac hn;omega⟩,by omega,by omega,by omega⟩
 have nil0:Nm (llq a.rs).length 773000000 []:=⟨tw.five,.inl rfl,Cb.nil.mono oz⟩
 exact ⟨cs, E7 (R := dk l a i j0 j) (j := (llq a.rs).length) cs F.hv F.hp F.vv nil0 (F.zl.nm.mono (by decide)) (F.z3.nm.mono (by decide)) (F.w1.nm.mono (by decide)) (F.w2.nm.mono (by decide))
   (F.y1.nm.mono (by decide)) (F.y2.nm.mono (by decide)) (BN _ _ F.y1.nm).2 (BN _ _ F.y2.nm).2 F.z3.nm.nl (WZ _) hn (by rw[show ak (dE (llq a.rs) (dk l a i j0 j).d)=ak (cc l a i j0 j)from congrArg ak (bf _ _)];exact hd0)⟩
theorem Oi{l:Li}{a:As}(D:DyR l a)(hn:(llq a.rs).length<=1){i z0 z1:Int}{j0 j:Jt}(hg:GrOk l ⟨3,[i],[z0,z1],0⟩)(P:SlP 3900000 l a ⟨3,[i],[z0,z1],0⟩ 3 i z0 z1 j0 j)(hj:j.b=i)(hb:Pd 3900000 a j.a) :
  Con prog 67 [.ptr 1000 0] [(1000,some (cf l ⟨3,[i],[z0,z1],0⟩ a))] (pX (jC l a i j0 j)) [(1000,some (cf l ⟨3,[i],[z0,z1],0⟩ a))]:=by
 haveI c:=D.s.ct D.hc;obtain⟨tw,etw⟩:=de D.s.tr D.hc;haveI cy:Cy (llq a.rs) 310000 65000:=⟨c.ex,c.k1,c.u3,by omega⟩
 have hlm:=cy.lm;have F:=CR D hn P hj hb;obtain⟨i1,i2,i3,i4,i5⟩:=cA D.li P.h1;have hs0:Sm 1000 (ao l j0 i):=fQ D.hl D.li P.h0 P.p0.or;have hs1:Sm 1000 (aQ l i j.on):=by rw[<- hj];exact jw D.hl D.li i2 i4
 have hs2:Sm 1000 (aQ l i j.to):=by rw[<- hj];exact jw D.hl D.li i2 (i5 P.hk)
 have hv:Sm _ (cw l i j):=hs2.sub hs1;haveI qn:Qz 310000 (iD l i j) 3:=tP (hv.dot hv) oz;haveI qh:Qz 310000 (cq l i j0 j) 3:=tP (hv.cross (hs1.sub hs0)) oz;haveI z3:=F.z3;haveI zX:=F.zX;haveI zl:=F.zl;have hrr:=OZ D (i:=i) (j0:=j0) (j:=j) (by decide);have m1:=A9 (ts:=llq a.rs) (u:=310000) (k:=65000) (a:=sX (bp l a i j0 j)) (by decide);have m2:=A9 (ts:=llq a.rs) (u:=310000) (k:=65000) (a:=sX (cc l a i j0 j)) (by decide);have m3:=A9 (ts:=llq a.rs) (u:=310000) (k:=65000) (a:=sh 0 (cq l i j0 j:Rat)) (by decide);refine gF func67 (fun k z h=>bG h) ?_ (2,0);refine gW (Wk.o (sl:=[(0,some (.ptr 1000 0)),(4,some (.ptr 24 0))]) (hp:=[(1000,some (cf l ⟨3,[i],[z0,z1],0⟩ a)),(24,some (dw a.rs))])) ?_;refine gt (aE (Con.rekeyBB 1000 24 (by decide) (by decide) rfl rfl rfl rfl rfl rfl (RQ D hg P.h0 P.h1 P.p0 hj P.hk hb)) (bD rfl rfl) aH rfl rfl) ?_;refine gt (aE (Con.rekeyB1 24 rfl rfl rfl rfl rfl hrr) (bD rfl rfl) aH rfl rfl) ?_ (4,0);refine gW (Wk.of (sl:=[(4,some (.ptr 24 0)),(5,some (.ptr 5 0)),(6,some (nA (sX (bp l a i j0 j))))]) (hp:=[(1000,some (cf l ⟨3,[i],[z0,z1],0⟩ a)),(5,some (.box (ue l a i j0 j))),(24,some (bg (llq a.rs)))]) a8 (.k (.k (.cons rfl (BlkSub.bL (.cons (.of (nG etw)) (.cons (.refl _) .nil)) rfl) .nil)))) ?_;refine gt (aW (Con.rB 24 rfl rfl rfl rfl m1) (bD rfl rfl) rfl rfl rfl) ?_;refine gC (fun t34=>?_) (fun t34=>?_) (st1:=(6,0));cases t34;refine gt (aW (Con.rB 24 rfl rfl rfl rfl m2) (bD rfl rfl) rfl rfl rfl) ?_;refine gu (fw rfl rfl rfl (fun h=>aW (Con.rB 24 rfl rfl rfl rfl m3) (.cons (.opt rfl (o1 h)) (.cons (.opt rfl (o1 h)) .nil)) rfl rfl rfl)) ?_;refine gC (fun t44=>?_) (fun t44=>?_)
 ·have h1:=PQ t44;refine gR ?_;exact(az.keep (bm rfl)).sub (by unfold jC;rw[XK h1];exact Sub.tup (.cons (.nil _ _ _) (.cons (.refl _) .nil)))
 have h1:=M6 t44;refine gC (fun t58=>?_) (fun t58=>?_)
 ·have h2:ak (bp l a i j0 j)<0:=of_decide_eq_true t58;refine gR ?_;exact(az.keep (bm rfl)).sub (by unfold jC;rw[XJ h1,XK h2];exact Sub.tup (.cons (.nil _ _ _) (.cons (.refl _) .nil)))
 have h2:¬ak (bp l a i j0 j)<0:=of_decide_eq_false t58;have hd0:ak (cc l a i j0 j)≠0:=sM tw h2 h1;refine BS [4,5] [1000,5] (fun(T:LL)(qs:LL)=>[(8,some (.lst 1 (qs.map nA)))]) (fun T _=>[(24,some (bg T))]) (fun T qs=>Cy T 773000000 1101400000/\qs.length<=2/\(∀q∈qs,RqP T (dk l a i j0 j) q)/\jC l a i j0 j=(kC T (dk l a i j0 j) qs qs.length,0)) ?_ ?_
 ·intro K1 J1;refine gC (fun t63=>?_) (fun t63=>?_)
  ·have h3:0<ak (bp l a i j0 j):=of_decide_eq_true t63;obtain⟨E,R1,R2,hng⟩:=EI F tw hn hd0 oz;have ce:=E.cy;have hex:=G1 (a:=sX (bp l a i j0 j)) tw zX.nm (by rw[hlm];decide) (by rw[show ae (llq a.rs).length (sX (bp l a i j0 j))=bp l a i j0 j from bf _ _];show 0<=ak (bp l a i j0 j);omega);refine gc hex ?_;refine gC (fun t75=>?_) (fun t75=>?_) (st1:=(15,0));cases t75;refine gc hng ?_;refine gt (aW (Con.rB 24 rfl rfl rfl rfl (rg _ _)) (aJ rfl rfl rfl) rfl rfl rfl) ?_;exact pF J1 (aS (llq a.rs) (sX (bp l a i j0 j))) ([cr (llq a.rs).length,sX (-bu (bp l a i j0 j))]) ⟨ce,WZ 2,lK R1 R2,by unfold jC;rw[XJ h1,XJ h2,XK h3];rfl⟩
  have h3:¬0<ak (bp l a i j0 j):=of_decide_eq_false t63;obtain⟨cs,R0⟩:=Gu F tw hn hd0;exact pF J1 (llq a.rs) ([[]]) ⟨cs,by decide,it R0,by unfold jC;rw[XJ h1,XJ h2,XJ h3];rfl⟩ (hw:=Wk.of (.cons rfl Kh (.k (.k .nil))) (.k (.k (.k .nil))))
 rintro T qs ⟨ct,hql,hq,hR⟩;obtain⟨rr,twT,hkT⟩:=ct.ex;refine gl ?_;refine gW (Wk.virt 900 3 rfl) ?_;refine aZ [4,5,8,90,91] [1000,5,24] (fun(q:Nat)=>[(12,some (.ms 900 3 0 q)),(92,some (i64 q))]) (fun q=>[(900,some (.row 3 (kC T (dk l a i j0 j) qs q)))]) (fun q=>q<=qs.length) (fun q=>qs.length-q) 0 (W7 _) ?_;rintro q hqi K2 J2;refine gC (fun t93=>?_) (fun t93=>?_) (st2:=(28,0))
 ·have hin:=a6 t93;obtain ⟨x,hx⟩:=ax hin;have hx9:qs.getD q [] = x:=au hx;have R:=hq x (WU hx);refine gi (aI hx) ?_;refine gc R.c1 ?_;refine gt (aW (Con.rB 24 rfl rfl rfl rfl (vK _ _ _)) (aJ rfl rfl rfl) rfl rfl rfl) ?_;refine gD ?_;refine gc R.ng ?_;refine gt (aW (Con.rB 24 rfl rfl rfl rfl (rg _ _)) (aJ rfl rfl rfl) rfl rfl rfl) ?_;refine gc R.c2 ?_;refine gt (aW (Con.rB 24 rfl rfl rfl rfl (vK _ _ _)) (aJ rfl rfl rfl) rfl rfl rfl) ?_;refine gD ?_;refine gc R.sb ?_;refine gt (aW (Con.rB 24 rfl rfl rfl rfl (vK _ _ _)) (aJ rfl rfl rfl) rfl rfl rfl) ?_;refine gD ?_;refine gt (aW (Con.rB 24 rfl rfl rfl rfl (wB R.d1)) (aJ rfl rfl rfl) rfl rfl rfl) ?_;refine gt (aW (Con.rB 24 rfl rfl rfl rfl (wB R.d2)) (aJ rfl rfl rfl) rfl rfl rfl) ?_;refine gD ?_;refine gc (Be twT) ?_;refine gt (aW (Con.rB 24 rfl rfl rfl rfl R.body) (.cons (.tmp rfl) (.cons (.tmp rfl) (.cons (.tmp rfl) (.cons (.tmp rfl) (.cons (.tmp rfl) .nil))))) rfl rfl rfl) ?_;refine gl ?_;refine gc (CC q qs.length oz) ?_;refine gs (cO (.tmp rfl) rfl (AK _ _ _ _).symm (.tmp rfl) T54 rfl T62 rfl rfl (by dsimp only; simp only [W9,Xi]; omega) rfl rfl) ?_;refine gD ?_ (27,0);refine gW (Wk.of (sl:=[(4,some (.ptr 24 0)),(5,some (.ptr 5 0)),(8,some (.lst 1 (qs.map nA))),(12,some (.ms 182 3 0 (q + 1))),(90,some (.lst 1 (qs.map nA))),(91,some (i64 qs.length)),(92,some (i64 q))]) (hp:=[(1000,some (cf l ⟨3,[i],[z0,z1],0⟩ a)),(5,some (.box (ue l a i j0 j))),(24,some (bg T)),(182,some (.row 3 (kC T (dk l a i j0 j) qs (q + 1))))]) a8 (.k (.k (.k (.cons rfl (BlkSub.of (by rw [WF]; unfold iV; rw [hx9]; rfl)) .nil))))) ?_ (27,0)
  refine gW (Wk.rk (k:=182) (d:=900) rfl rfl) ?_;refine ga aO ?_;exact aP J2 (q+1) hin
 have hin:=bi hqi t93;subst hin;refine gW ((Wk.freeze (k:=900) rfl).trans<|Wk.of (sl:=[(4,some (.ptr 24 0)),(12,some (.lst 3 (kC T (dk l a i j0 j) qs qs.length)))]) (hp:=[(1000,some (cf l ⟨3,[i],[z0,z1],0⟩ a)),(24,some (bg T))]) (.k (.cons rfl (Sub.of (by rw[bV (AK _ _ _ _).symm])) .nil)) (.k (.k .nil))) ?_;refine gC (fun t188=>?_) (fun t188=>?_) (st1:=(29,0));cases t188;refine gR ?_;exact(az.keep (bm rfl)).sub (Sub.of (by rw[hR];rfl))
theorem TC:Sub (.agg [bl (rt ((1:Int):Rat)).neg,ws (rt ((1:Int):Rat)).num,ws (rt ((1:Int):Rat)).den,.v (.bool false),nS,nS]) (qP (((1:Int):Rat),0)) :=
 Sub.agg (.cons (.refl _) (.cons (.refl _) (.cons (.refl _) (.cons (.refl _) (.cons (Sub.nil _ _ _) (.cons (Sub.nil _ _ _) .nil)))))) rfl
theorem rV{ts:LL}(q:Rat):sX (qE q:Et ts)=sh 0 (q:Rat):=zi _ _
def kW(l:Li)(a:As)(i:Int)(j0:Jt)(x:Tn):Pq:=gz (((1:Int):Rat),0) ((qE (dF x.half x.t.q),qE (dD x.half x.t.q)):P2 (llq a.rs)) (ao l j0 i) (aC l a j0 i)
def lX(l:Li)(a:As)(i:Int)(j0:Jt)(x:Tn):List AV×Nat:=if x.err≠0 then([],x.err)else([(⟨llq a.rs,[kW l a i j0 x],1⟩:Sv).av],0)
theorem OR{l:Li}{g:Gr}{a:As}{x:Tn}(hx:x.t.ok)(hq:Qb 1000 x.t.q)(he:x.err≠0) :
  Con prog 64 [.ptr 1000 0,x.av] [(1000,some (cf l g a))] (.tup [.lst 3 [],bq x.err]) [(1000,some (cf l g a))]:=by
 refine gF func64 (fun k z h=>bG h) ?_;refine gc (yr x hx hq oz) ?_;refine gC (fun t20=>?_) (fun t20=>?_) (st2:=(77777,0))
 ·refine gR ?_;exact(az.keep (bm rfl)).sub (Sub.tup (.cons (.nil _ _ _) (.cons (.refl _) .nil)))
 exact absurd (cZ t20) he
theorem Iw:Sm 3000 (((1:Int):Rat),(0:Rat)):=⟨Qb.one.mono oz,Qb.mono (e:=1) (q:=0) ⟨by decide,by decide⟩ oz⟩
theorem FK{E:Nat}(hE:E<=20000000000){l:Li}{a:As}(D:DyW l a)(h3:(llq a.rs).length<=2){body pt:Int}(h1:bt body l.bo.length=true)(h2:bt pt (cE l body).length=true)(hb:Pd E a body) :
  Nm (llq a.rs).length 62500000000 (sX (ba l a body pt).1)/\Nm (llq a.rs).length 62500000000 (sX (ba l a body pt).2):=by
 obtain⟨n,k,bd,m,b,hp⟩:=qf D.hl D.li D.al D.hc h1 h2 hb;obtain⟨tw,_⟩:=de D.al.tr D.hc;have kb:=oX h3;have qx:Qb 1000 m.x.q:=by rw[hp.mp.ex,co];exact hp.mp.sm.x
 have qy:Qb 1000 m.y.q:=by rw[hp.mp.ey,co];exact hp.mp.sm.y
 have h:=ua tw hp.ok qx qy;unfold ba;rw[hp.eq];exact⟨h.1.mono oz,h.2.mono oz⟩
theorem No{E:Nat}(hE:E<=20000000000){l:Li}{a:As}(D:DyW l a)(h3:(llq a.rs).length<=2){i:Nat}{j:Jt}(hj:l.jo[i]?=some j){b:Int}(h:PinP E l a j b) :
  Nm (llq a.rs).length 62500000000 (sX (aC l a j b).1)/\Nm (llq a.rs).length 62500000000 (sX (aC l a j b).2):=by
 obtain⟨i1,i2,i3,i4,_⟩:=cA D.li hj;unfold aC;rcases h.tie with⟨e,hb⟩ |⟨e,e2,hb⟩
 ·rw[XK e];exact FK hE D h3 i2 i4 hb
 ·rw[XJ e];exact FK hE D h3 i1 i3 hb
theorem Je{E:Nat}(hE:E<=20000000000){l:Li}{a:As}(D:DyW l a)(h3:(llq a.rs).length<=2){n:Nat}{i:Int}{j0:Jt}(h0:l.jo[n]?=some j0)(p0:PinP E l a j0 i){x:Tn}(hq:Qb 1000 x.t.q) :
  BdP (llq a.rs) (((1:Int):Rat),(0:Rat)) ((qE (dF x.half x.t.q),qE (dD x.half x.t.q)):P2 (llq a.rs)) (ao l j0 i) (aC l a j0 i):=by
 obtain⟨tw,etw⟩:=de D.al.tr D.hc;have qc:=nQ (half:=x.half) hq;have qs:=ow (half:=x.half) hq;have hs0:Sm 1000 (ao l j0 i):=fQ D.hl D.li h0 p0.or;obtain⟨y1,y2⟩:=No hE D h3 h0 p0
 exact Hs (F := 80000000000) (W := 10000) (u := (((1 : Int) : Rat), (0 : Rat))) (p := ao l j0 i) (w := ((qE (dF x.half x.t.q), qE (dD x.half x.t.q)) : P2 (llq a.rs))) (o := aC l a j0 i) tw h3 (oX h3) Iw (hs0.mono oz) (by decide +kernel)
  (by show Nm _ _ (sX (qE (dF x.half x.t.q):Et (llq a.rs)));rw[rV];exact(oc tw.five qc).mono oz) (by show Nm _ _ (sX (qE (dD x.half x.t.q):Et (llq a.rs)));rw[rV];exact(oc tw.five qs).mono oz) y1 y2 oz oz oz
theorem RE{E:Nat}(hE:E<=20000000000){l:Li}{a:As}(D:DyW l a)(h3:(llq a.rs).length<=2){i z0 d:Int}{j0:Jt}(hg:GrOk l ⟨0,[i],[z0],d⟩)(h0:l.jo[z0.toNat]?=some j0)(p0:PinP E l a j0 i){x:Tn}(hx:x.t.ok)(hq:Qb 1000 x.t.q)(he:x.err=0) :
  Con prog 64 [.ptr 1000 0,x.av] [(1000,some (cf l ⟨0,[i],[z0],d⟩ a))] (.tup [.lst 3 [(⟨llq a.rs,[kW l a i j0 x],1⟩:Sv).av],.v .nilIface]) [(1000,some (cf l ⟨0,[i],[z0],d⟩ a))]:=by
 obtain⟨tw,etw⟩:=de D.al.tr D.hc;have hc:=yr x hx hq oz;rw[XK he,he]at hc;have hs:=D7 x hx hq oz;rw[XK he,he]at hs;have qc:=nQ (half:=x.half) hq;have qs:=ow (half:=x.half) hq;have hs0:Sm 1000 (ao l j0 i):=fQ D.hl D.li h0 p0.or;have hb:=zf Iw (hs0.mono oz) (Je hE D h3 h0 p0 hq)
 have ew:di (P2.l ((qE (dF x.half x.t.q),qE (dD x.half x.t.q)):P2 (llq a.rs)))=aM (sh 0 (dF x.half x.t.q:Rat)) (sh 0 (dD x.half x.t.q:Rat)):=by
  show aM (sX (qE (dF x.half x.t.q):Et (llq a.rs))) (sX (qE (dD x.half x.t.q):Et (llq a.rs)))=_;rw[rV,rV]
 rw[ew]at hb;have hcl:=Be tw;have hcl2:FP 154 [dB a.rs] (aV (llq a.rs)):=by rw[etw];exact hcl
 refine gF func64 (fun k z h=>bG h) ?_;refine gc hc ?_;refine gC (fun t20=>?_) (fun t20=>?_) (st1:=(3,0));cases t20;refine gc hs ?_;refine gC (fun t28=>?_) (fun t28=>?_) (st1:=(6,0));cases t28;refine gi rfl ?_;refine gt (aW (sR hE D.hl D.li _ hg D.al D.hc (k:=0) rfl h0 h3 p0) (.cons (.tmp rfl) (.cons (.const _) (cC rfl))) rfl rfl rfl) ?_;refine gD ?_ (9,0);refine gW (Wk.of (sl:=[(0,some (.ptr 1000 0)),(6,some (.ptr 6 0)),(8,some (.ptr 8 0)),(9,some (.ptr 9 0)),(10,some (.ptr 10 0)),(11,some (.ptr 52 0))]) (hp:=[(1000,some (cf l ⟨0,[i],[z0],d⟩ a)),(6,some (.box [bl (rt (dF x.half x.t.q)).neg,ws (rt (dF x.half x.t.q)).num,ws (rt (dF x.half x.t.q)).den])),(8,some (.box [bl (rt (dD x.half x.t.q)).neg,ws (rt (dD x.half x.t.q)).num,ws (rt (dD x.half x.t.q)).den])),(9,some (.box (qC (ao l j0 i)))),(10,some (.box [nA (sX (aC l a j0 i).1),nA (sX (aC l a j0 i).2)])),(52,some (bg (llq a.rs)))]) a8 (.k (.k (.k (.k (.k (.cons rfl (BlkSub.bL (.cons (.of (nG etw)) (.cons (.refl _) .nil)) rfl) .nil))))))) ?_
 refine gc (kv 1 oz) ?_;refine gc (vd (qc.qs oz) (qs.qs oz)) ?_;refine gt (aW (Con.rB 52 rfl rfl rfl rfl (Con.sA (.cons (.refl _) (.cons TC (.cons (.refl _) (.cons (.refl _) (.cons (.refl _) .nil))))) hb)) (.cons (.tmp rfl) (.cons (.tmp rfl) (.cons (.tmp rfl) (.cons (.tmp rfl) (.cons (.tmp rfl) .nil))))) rfl rfl rfl) ?_;refine gD ?_;refine gC (fun t67=>?_) (fun t67=>?_) (st1:=(12,0));cases t67;refine gc hcl2 ?_;refine gD ?_;refine gR ?_;exact az.keep (bm rfl)
theorem KA{E:Nat}(hE:E<=20000000000){l:Li}{a:As}(D:DyW l a)(h3:(llq a.rs).length<=2){i z0 d:Int}{j0:Jt}(hg:GrOk l ⟨0,[i],[z0],d⟩)(h0:l.jo[z0.toNat]?=some j0)(p0:PinP E l a j0 i){x:Tn}(hx:x.t.ok)(hq:Qb 1000 x.t.q) :
  Con prog 64 [.ptr 1000 0,x.av] [(1000,some (cf l ⟨0,[i],[z0],d⟩ a))] (pX (lX l a i j0 x)) [(1000,some (cf l ⟨0,[i],[z0],d⟩ a))]:=by
 by_cases he:x.err=0
 ·have h:=RE hE D h3 hg h0 p0 hx hq he;unfold lX;rw[XJ oz];exact h
 ·have h:=OR (l:=l) (g:=⟨0,[i],[z0],d⟩) (a:=a) hx hq he;unfold lX;rw[XK he];exact h
def jp(l:Li)(a:As)(g:Gr)(x:Tn):List AV×Nat :=
  if g.kind=0 then lX l a (aN g 0) (am l g 0) x
  else if g.kind=1 then kP l a (aN g 0) (aN g 1) (am l g 0) (am l g 1) (am l g 2)
  else if g.kind=2 then ku l a (aN g 0) (am l g 0) (am l g 1)
  else jC l a (aN g 0) (am l g 0) (am l g 1)
theorem xT{E:Nat}{l:Li}{k:Int}{a:As}{own:Bool}{n:Nat}{g:Gr}(h:DyOk E l k a own n g)(hk:g.kind=0):∃i z0 d j0,g=⟨0,[i],[z0],d⟩/\l.jo[z0.toNat]?=some j0/\PinP E l a j0 i:=by
 have hd:=h.dy;cases hd with
 |rrr _ _ _ _ _ _ _=>exact absurd hk (by simp)
 |pr _ _ _=>exact absurd hk (by simp)
 |rp _ _ _=>exact absurd hk (by simp)
 | @drv b z d j x t d0 hd hb=>exact⟨b,z,d,j,rfl,t.hj,h.pin rfl t (by simp) (by simp)⟩
theorem L8{l:Li}{k:Int}{x:Tn}{a:As}{E:Nat}(hop:FP 63 [l.av,i64 k,a.av,bl false] (.tup [.v (.pointer none),bq E]))(h0:E≠0) :
  FP 18 [l.av,i64 k,x.av,a.av] (.tup [.lst 3 [],bq E]):=by
 refine aj func18 ?_;refine gc hop ?_;refine gC (fun t20=>?_) (fun t20=>?_) (st2:=(77777,0))
 ·refine gR ?_;exact dZ (Sub.tup (.cons (.nil _ _ _) (.cons (.refl _) .nil)))
 exact absurd (cZ t20) h0
theorem Lx{E:Nat}(hE:E<=20000000000){l:Li}{k:Int}{a:As}{n:Nat}{g:Gr}{x:Tn}(hx:x.t.ok)(hq:Qb 1000 x.t.q)(h3:(llq a.rs).length<=2)(hR:g.kind≠0->E=3900000/\DyS a)(hop:Con prog 63 [l.av,i64 k,a.av,bl false] [] (.tup [.ptr 900 0,.v .nilIface]) [(900,some (cf l g a))])(D:DyW l a)(ok:DyOk E l k a false n g) :
  FP 18 [l.av,i64 k,x.av,a.av] (pX (jp l a g x)):=by
 have hgo:=ok.ok;refine aj func18 ?_;refine gt (aE hop (.cons (.tmp rfl) (.cons (.tmp rfl) (.cons (.tmp rfl) (.cons (.const _) .nil)))) aH rfl rfl) ?_ (2,0);refine gW (Wk.o (sl:=[(6,some (.ptr 6 0)),(10,some (.ptr 900 0)),(11,some (.v .nilIface))]) (hp:=[(6,some (.box x.av.cells)),(900,some (cf l g a))])) ?_;refine gC (fun t20=>?_) (fun t20=>?_) (st1:=(3,0));cases t20;refine gC (fun t27=>?_) (fun t27=>?_)
 ·have hk:g.kind = 0:=cK t27;obtain ⟨i,z0,d,j0,e,hj0,p0⟩:=xT ok hk;have eR:jp l a g x = lX l a i j0 x:=by unfold jp; rw [XK hk,e]; show lX l a i (l.jo.getD z0.toNat default) x = _; rw [au hj0]
  subst e;refine gt (aW (Con.rB 900 rfl rfl rfl rfl (KA hE D h3 hgo hj0 p0 hx hq)) (bD rfl rfl) rfl rfl rfl) ?_;refine gR ?_;exact dZ (Sub.of (by rw[eR];rfl))
 have hk0:g.kind≠0:=dq t27;obtain⟨hE9,S⟩:=hR hk0;subst hE9;have D:DyR l a:=⟨D,S⟩
 have hn:=S.one D.hc;refine gC (fun t34=>?_) (fun t34=>?_)
 ·have hk:g.kind = 1:=cK t34;obtain ⟨i,k2,z0,z1,z2,j0,j1,j2,P⟩:=ok.rrr hk;obtain ⟨e0,e1,e2,b0,b1,_⟩:=P.at;have eR:jp l a g x = kP l a i k2 j0 j1 j2:=by unfold jp; rw [XJ hk0,XK hk,e0,e1,e2,b0,b1]
  have e:=P.eq;subst e;refine gt (aW (Con.rB 900 rfl rfl rfl rfl (Rj D hn hgo P)) (cC rfl) rfl rfl rfl) ?_;refine gR ?_;exact dZ (Sub.of (by rw[eR];rfl))
 have hk1:g.kind≠1:=dq t34;refine gC (fun t40=>?_) (fun t40=>?_)
 ·have hk:g.kind = 2:=cK t40;obtain ⟨i,z0,z1,j0,j,P,ha,hb⟩:=ok.pr hk;obtain ⟨e0,e1,b0,_⟩:=P.at;have eR:jp l a g x = ku l a i j0 j:=by unfold jp; rw [XJ hk0,XJ hk1,XK hk,e0,e1,b0]
  have e:=P.eq;subst e;refine gt (aW (Con.rB 900 rfl rfl rfl rfl (P6 D hn hgo P ha hb)) (cC rfl) rfl rfl rfl) ?_;refine gR ?_;exact dZ (Sub.of (by rw[eR];rfl))
 have hk2:g.kind≠2:=dq t40;obtain⟨i,z0,z1,j0,j,P,_,hj,hb⟩:=ok.rp hk0 hk1 hk2;obtain⟨e0,e1,b0,_⟩:=P.at;have eR:jp l a g x=jC l a i j0 j:=by unfold jp;rw[XJ hk0,XJ hk1,XJ hk2,e0,e1,b0]
 have e:=P.eq;subst e;refine gt (aW (Con.rB 900 rfl rfl rfl rfl (Oi D hn hgo P hj hb)) (cC rfl) rfl rfl rfl) ?_;refine gR ?_;exact dZ (Sub.of (by rw[eR];rfl))
def wM(l:Li)(k:Int)(x:Tn)(a:As):List AV×Nat:=if fH l k a false=0 then jp l a (ik l k) x else([],fH l k a false)
theorem O0(l:Li)(hl:l.ok)(k:Int){x:Tn}(hx:x.t.ok)(hq:Qb 1000 x.t.q)(a:As)(al:AB a)(h3:bF a.rs=0->(llq a.rs).length<=2){E:Nat}(hE:E<=20000000000)(hs:ta E l k a false)(hR:fH l k a false=0->(ik l k).kind≠0->E=3900000/\DyS a) :
  FP 18 [l.av,i64 k,x.av,a.av] (pX (wM l k x a)):=by
 have hop:=DU l hl k a al false;unfold wM
 by_cases h0:fH l k a false=0
 ·obtain ⟨n, g, ok⟩:=uI hs h0;have hgA:ik l k = g:=by unfold ik; rw [ok.hk,Xk]; exact au ok.hg
  have hR:=hR h0;rw[hgA]at hR;rw[h0,hgA]at hop;rw[XK h0,hgA];exact Lx hE hx hq (h3 ok.chk) hR hop ⟨hl,ok.li,al,ok.chk⟩ ok
 ·rw[k8 h0,ra h0]at hop;rw[XJ h0];exact L8 hop h0
structure SvOk(s:Sv):Prop where
  tw:∃r,Tw s.ts r
  two:s.ts.length<=2
  ps:∀p∈s.ps,Pq.ok s.ts.length 80000000000 p
  ln:s.ps.length<=2
theorem wJ(ts:LL)(x:T ts.length):ia ts x x=true:=by
 unfold ia subT;rw[T.add_neg,T.sgn_zero];rfl
structure SolP(S:List Sv)(kd:Int)(n b:Nat):Prop where
  two:S.length<=2
  ok:∀s∈S,SvOk s
  md:∀(i:Nat)(s:Sv),S[i]?=some s->s.mode=(if kd=0 then 1 else if S.length=2 then 1-2*(i:Int)else 0)/\s.ts.length=n+(if S.length=2 then 1 else 0)/\s.ps.length=b
theorem oV(kd:Int)(n b:Nat):SolP [] kd n b:=⟨by simp,by simp,by simp⟩
theorem wz(f:Nat->Sv)(n:Nat):((List.range n).map fun i=>(f i).av)=((List.range n).map f).map Sv.av:=by rw[map_map];rfl
theorem Rm{ts:LL}(p q:P2 ts)(z z2:Et ts)(h0:fg p q z z2=0):(dY p q z z2).ts.length=ts.length+(if(dY p q z z2).ps.length=2 then 1 else 0):=by
 unfold fg kR at h0;unfold dY lG;split
 ·rename_i hd;rw[XK hd]at h0;split
  ·simp
  ·rename_i hz;split
   ·rename_i hp;rw[XK ⟨Decidable.not_not.1 hz,hp⟩]at h0;cases h0
   ·simp
 ·split
  ·simp
  ·split
   ·simp
   ·simp[dC]
theorem SX{ts:LL}(p q o:P2 ts)(z:Et ts)(h0:eZ p q=0):(dX p q o z).ts.length=ts.length+(if(dX p q o z).ps.length=2 then 1 else 0):=by
 unfold eZ at h0;unfold dX;split
 ·rename_i hd;rw[XK hd]at h0;cases h0
 ·split
  ·simp
  ·split
   ·simp
   ·simp[dC]
def jI(m:Mt)(hs:List Hd):List Sv:=(List.range m.ps.length).map (jx m hs)
def jH(l:Li)(a:As)(i k:Int)(j0 j1 j2:Jt):List Sv :=
  if gK [cg (ao l j2 i) (ao l j0 i),cg (ao l j2 k) (ao l j1 k)]=true then[]
  else if fg (aC l a j0 i) (aC l a j1 k) (qE (bE (ao l j2 i) (ao l j0 i))) (qE (bE (ao l j2 k) (ao l j1 k)))≠0 then[]
  else jI (dY (aC l a j0 i) (aC l a j1 k) (qE (bE (ao l j2 i) (ao l j0 i))) (qE (bE (ao l j2 k) (ao l j1 k)))) [⟨ao l j0 i,P2.l (aC l a j0 i),ao l j2 i⟩,⟨ao l j1 k,P2.l (aC l a j1 k),ao l j2 k⟩]
def jb(l:Li)(a:As)(i:Int)(j0 j:Jt):List Sv :=
  if gK [cg (aQ l i j.point) (ao l j0 i)]=true then[]
  else if eZ (ba l a j.b j.on) (ba l a j.b j.to)≠0 then[]
  else jI (dX (ba l a j.b j.on) (ba l a j.b j.to) (aC l a j0 i) (qE (bE (aQ l i j.point) (ao l j0 i)))) [⟨ao l j0 i,P2.l (aC l a j0 i),aQ l i j.point⟩]
def jD(ts:LL)(R:Rp)(qs:LL):List Sv:=(List.range qs.length).map (iV ts R qs)
def je(l:Li)(a:As)(i:Int)(j0 j:Jt):List Sv :=
  if ak (cc l a i j0 j)=0/\ak (qE (cq l i j0 j):Et (llq a.rs))=0 then[]
  else if ak (bp l a i j0 j)<0 then[]
  else if 0<ak (bp l a i j0 j)then jD (aS (llq a.rs) (sX (bp l a i j0 j))) (dk l a i j0 j) [cr (llq a.rs).length,sX (-bu (bp l a i j0 j))]
  else jD (llq a.rs) (dk l a i j0 j) [[]]
def ka(l:Li)(a:As)(i:Int)(j0:Jt)(x:Tn):List Sv:=if x.err≠0 then[]else[⟨llq a.rs,[kW l a i j0 x],1⟩]
def ez(l:Li)(a:As)(g:Gr)(x:Tn):List Sv :=
  if g.kind=0 then ka l a (aN g 0) (am l g 0) x
  else if g.kind=1 then jH l a (aN g 0) (aN g 1) (am l g 0) (am l g 1) (am l g 2)
  else if g.kind=2 then jb l a (aN g 0) (am l g 0) (am l g 1)
  else je l a (aN g 0) (am l g 0) (am l g 1)
theorem QW(l:Li)(a:As)(i k:Int)(j0 j1 j2:Jt):(kP l a i k j0 j1 j2).1=(jH l a i k j0 j1 j2).map Sv.av:=by
 unfold kP jH;split
 ·rfl
 ·split
  ·rfl
  ·exact wz _ _
theorem O8(l:Li)(a:As)(i:Int)(j0 j:Jt):(ku l a i j0 j).1=(jb l a i j0 j).map Sv.av:=by
 unfold ku jb;split
 ·rfl
 ·split
  ·rfl
  ·exact wz _ _
theorem SL(l:Li)(a:As)(i:Int)(j0 j:Jt):(jC l a i j0 j).1=(je l a i j0 j).map Sv.av:=by
 unfold jC je;split
 ·rfl
 ·split
  ·rfl
  ·split
   ·exact wz _ _
   ·exact wz _ _
theorem Ol(l:Li)(a:As)(g:Gr)(x:Tn):(jp l a g x).1=(ez l a g x).map Sv.av:=by
 unfold jp ez;split
 ·unfold lX ka;split <;> rfl
 ·split
  ·exact QW ..
  ·split
   ·exact O8 ..
   ·exact SL ..
theorem Ed{ts:LL}{m:Mt}(ok:MtOk ts m){hs:List Hd}(hl:hs.length<=2)(H:∀x∈m.ps,∀h∈hs,HdP m.ts x h){kd:Int}(hk:kd≠0)(lv:m.ts.length=ts.length+(if m.ps.length=2 then 1 else 0)) :
  SolP (jI m hs) kd ts.length hs.length:=by
 have hln:=ok.ln;refine⟨by simpa[jI]using hln,?_,?_⟩
 ·intro s hs2;obtain⟨i,hi,rfl⟩:=List.mem_map.1 hs2;obtain⟨x,hx⟩:=ax (List.mem_range.1 hi);obtain⟨r,tw,_⟩:=ok.tw;refine⟨⟨r,tw⟩,ok.two,?_,by simpa[jx]using hl⟩;intro p hp;unfold jx at hp;rw[au hx]at hp;obtain⟨h,hh,rfl⟩:=List.mem_map.1 hp;exact(H x (WU hx) h hh).b.ok
 ·intro i s hi;unfold jI at hi;have hin:i < m.ps.length:=by have:=(List.getElem?_eq_some_iff.1 hi).1; simpa using this
  have e:s=jx m hs i:=by simp[hin]at hi;exact hi.symm
  subst e;have hlen:(jI m hs).length=m.ps.length:=by simp[jI]
  rw[hlen,XJ hk];refine⟨?_,lv,by simp[jx]⟩;show(if m.ps.length=1 then 0 else 1-2*(i:Int))=_
  by_cases h2:m.ps.length=2
  ·rw[XJ oz,XK h2]
  ·rw[XK oz,XJ h2]
theorem O9{l:Li}{a:As}(D:DyR l a)(hn:(llq a.rs).length<=1){g:Gr}{i k z0 z1 z2:Int}{j0 j1 j2:Jt}(P:RrrP 3900000 l a g i k z0 z1 z2 j0 j1 j2):SolP (jH l a i k j0 j1 j2) 1 (llq a.rs).length 2:=by
 have c:=D.s.ct D.hc;obtain⟨tw,etw⟩:=de D.s.tr D.hc;have hq0:=fQ D.hl D.li P.h0 P.p0.or;have hq1:=fQ D.hl D.li P.h1 P.p1.or;have hq2:=fQ D.hl D.li P.h2 P.t1;have hq3:=fQ D.hl D.li P.h2 P.t2;obtain⟨y1,y2⟩:=l8 D.hl D.li D.al D.s D.hc P.h0 P.p0;obtain⟨y3,y4⟩:=l8 D.hl D.li D.al D.s D.hc P.h1 P.p1;haveI:=c;haveI q1:=qW hq2 hq0;haveI q2:=qW hq3 hq1;have z1:Zu 310000 65000 (qE (bE (ao l j2 i) (ao l j0 i)):Et (llq a.rs)) 3 0:=inferInstance;have z2:Zu 310000 65000 (qE (bE (ao l j2 k) (ao l j1 k)):Et (llq a.rs)) 3 0:=inferInstance;unfold jH
 by_cases h1:gK [cg (ao l j2 i) (ao l j0 i),cg (ao l j2 k) (ao l j1 k)]=true
 ·rw[XK h1];exact oV _ _ _
 ·rw[XJ h1];obtain⟨w1,w2⟩:=rY (Bool.eq_false_iff.2 h1)
  by_cases h2:fg (aC l a j0 i) (aC l a j1 k) (qE (bE (ao l j2 i) (ao l j0 i))) (qE (bE (ao l j2 k) (ao l j1 k)))≠0
  ·rw[XK h2];exact oV _ _ _
  ·rw[XJ h2];have h3:=Decidable.not_not.1 h2;have ok:=Eg (x:=(aC l a j0 i).1) (y:=(aC l a j0 i).2) (x2:=(aC l a j1 k).1) (y2:=(aC l a j1 k).2) tw hn c y1 y2 z1 y3 y4 z2 h3;exact Ed ok (by simp) (fun x hx=>lK (pL ok hx (y1.nm.mono (by decide)) (y2.nm.mono (by decide)) hq0 hq2 w1) (pL ok hx (y3.nm.mono (by decide)) (y4.nm.mono (by decide)) hq1 hq3 w2)) (by decide) (Rm _ _ _ _ h3)
theorem TG{l:Li}{a:As}(D:DyR l a)(hn:(llq a.rs).length<=1){g:Gr}{i z0 z1:Int}{j0 j:Jt}(P:SlP 3900000 l a g 2 i z0 z1 j0 j)(ha:j.a=i)(hb:Pd 3900000 a j.b):SolP (jb l a i j0 j) 2 (llq a.rs).length 1:=by
 have c:=D.s.ct D.hc;obtain⟨tw,etw⟩:=de D.s.tr D.hc;obtain⟨i1,i2,i3,i4,i5⟩:=cA D.li P.h1;have hq2:Sm 1000 (aQ l i j.point):=by rw[<- ha];exact jw D.hl D.li i1 i3
 have hq0:=fQ D.hl D.li P.h0 P.p0.or;obtain⟨y1,y2⟩:=l8 D.hl D.li D.al D.s D.hc P.h0 P.p0;obtain⟨y3,y4⟩:=nI D.hl D.li D.al D.s D.hc i2 i4 hb;obtain⟨y5,y6⟩:=nI D.hl D.li D.al D.s D.hc i2 (i5 P.hk) hb;haveI:=c;haveI q1:=qW hq2 hq0;have z1:Zu 310000 65000 (qE (bE (aQ l i j.point) (ao l j0 i)):Et (llq a.rs)) 3 0:=inferInstance;unfold jb
 by_cases h1:gK [cg (aQ l i j.point) (ao l j0 i)]=true
 ·rw[XK h1];exact oV _ _ _
 ·rw[XJ h1];have w1:=uu (Bool.eq_false_iff.2 h1)
  by_cases h2:eZ (ba l a j.b j.on) (ba l a j.b j.to)≠0
  ·rw[XK h2];exact oV _ _ _
  ·rw[XJ h2];have h3:=Decidable.not_not.1 h2;have ok:=G8 (o:=aC l a j0 i) (p:=ba l a j.b j.on) (q:=ba l a j.b j.to) (z:=qE (bE (aQ l i j.point) (ao l j0 i))) tw hn c y1 y2 y3 y4 y5 y6 z1 h3;exact Ed ok (by simp) (fun x hx=>it (pL ok hx (y1.nm.mono (by decide)) (y2.nm.mono (by decide)) hq0 hq2 w1)) (by decide) (SX _ _ _ _ h3)
theorem IT{ts T:LL}{R:Rp}{qs:LL}(ct:Cy T 773000000 1101400000)(hl:qs.length<=2)(h1:1<=qs.length)(H:∀q∈qs,RqP T R q)(lv:T.length=ts.length+(if qs.length=2 then 1 else 0)):SolP (jD T R qs) 3 ts.length 1:=by
 refine⟨by simpa[jD]using hl,?_,?_⟩
 ·intro s hs2;obtain⟨i,hi,rfl⟩:=List.mem_map.1 hs2;obtain⟨x,hx⟩:=ax (List.mem_range.1 hi);obtain⟨r,tw,_⟩:=ct.ex;refine⟨⟨r,tw⟩,ct.two,?_,by simp[iV]⟩;intro p hp;unfold iV at hp;rw[au hx]at hp;rw[List.mem_singleton.1 hp];exact(H x (WU hx)).b.ok
 ·intro i s hi;unfold jD at hi;have hin:i < qs.length:=by have:=(List.getElem?_eq_some_iff.1 hi).1; simpa using this
  have e:s=iV T R qs i:=by simp[hin]at hi;exact hi.symm
  subst e;have hlen:(jD T R qs).length=qs.length:=by simp[jD]
  rw[hlen,XJ (by decide)];refine⟨?_,lv,by simp[iV]⟩;show(if qs.length=1 then 0 else 1-2*(i:Int))=_
  by_cases h2:qs.length=2
  ·rw[XJ oz,XK h2]
  ·rw[XK oz,XJ h2]
theorem LS{l:Li}{a:As}(D:DyR l a)(hn:(llq a.rs).length<=1){g:Gr}{i z0 z1:Int}{j0 j:Jt}(P:SlP 3900000 l a g 3 i z0 z1 j0 j)(hj:j.b=i)(hb:Pd 3900000 a j.a):SolP (je l a i j0 j) 3 (llq a.rs).length 1:=by
 obtain⟨tw,etw⟩:=de D.s.tr D.hc;have F:=CR D hn P hj hb;unfold je
 by_cases h1:ak (cc l a i j0 j)=0/\ak (qE (cq l i j0 j):Et (llq a.rs))=0
 ·rw[XK h1];exact oV _ _ _
 ·rw[XJ h1]
  by_cases h2:ak (bp l a i j0 j)<0
  ·rw[XK h2];exact oV _ _ _
  ·rw[XJ h2];have hd0:ak (cc l a i j0 j)≠0:=sM tw h2 h1
   by_cases h3:0<ak (bp l a i j0 j)
   ·rw[XK h3];obtain⟨E,R1,R2,_⟩:=EI F tw hn hd0 oz;exact IT (ts:=llq a.rs) (qs:=[cr (llq a.rs).length,sX (-bu (bp l a i j0 j))]) E.cy (WZ 2) (by show 1<=2;omega) (lK R1 R2) (dC (llq a.rs) (sX (bp l a i j0 j)))
   ·rw[XJ h3];obtain⟨cs,R0⟩:=Gu F tw hn hd0;exact IT (ts:=llq a.rs) (qs:=[[]]) cs (by show 1<=2;omega) (WZ 1) (it R0) rfl
theorem Me{E:Nat}(hE:E<=20000000000){l:Li}{a:As}(D:DyW l a)(h3:(llq a.rs).length<=2){i z0:Int}{j0:Jt}(h0:l.jo[z0.toNat]?=some j0)(p0:PinP E l a j0 i){x:Tn}(hq:Qb 1000 x.t.q):SolP (ka l a i j0 x) 0 (llq a.rs).length 1:=by
 obtain⟨tw,etw⟩:=de D.al.tr D.hc;unfold ka
 by_cases he:x.err≠0
 ·rw[XK he];exact oV _ _ _
 ·rw [XJ he];refine ⟨by simp,it ⟨⟨_,tw⟩,h3,it (Je hE D h3 h0 p0 hq).ok,by show 1 <= 2; omega⟩,?_⟩;intro n s hs
  match n,hs with
  |0,hs=>cases hs;exact⟨rfl,rfl,rfl⟩
theorem GH{E:Nat}(hE:E<=20000000000){l:Li}{k:Int}{a:As}{n:Nat}{g:Gr}{x:Tn}(D:DyW l a)(h3:(llq a.rs).length<=2)(ok:DyOk E l k a false n g)(hR:g.kind≠0->E=3900000/\DyS a)(hq:Qb 1000 x.t.q):SolP (ez l a g x) g.kind (llq a.rs).length g.bo.length:=by
 unfold ez
 by_cases hk0:g.kind=0
 ·obtain⟨i,z0,d,j0,e,hj0,p0⟩:=xT ok hk0;rw[XK hk0,e];show SolP (ka l a i (l.jo.getD z0.toNat default) x) _ _ _;rw[au hj0];exact Me hE D h3 hj0 p0 hq
 ·rw[XJ hk0];obtain⟨hE9,S⟩:=hR hk0;subst hE9;have D:DyR l a:=⟨D,S⟩
  have hn:=S.one D.hc
  by_cases hk1:g.kind=1
  ·obtain⟨i,k2,z0,z1,z2,j0,j1,j2,P⟩:=ok.rrr hk1;obtain⟨e0,e1,e2,b0,b1,_⟩:=P.at;rw[XK hk1,e0,e1,e2,b0,b1,hk1,P.eq];exact O9 D hn P
  ·rw[XJ hk1]
   by_cases hk2:g.kind=2
   ·obtain⟨i,z0,z1,j0,j,P,ha,hb⟩:=ok.pr hk2;obtain⟨e0,e1,b0,_⟩:=P.at;rw[XK hk2,e0,e1,b0,hk2,P.eq];exact TG D hn P ha hb
   ·obtain⟨i,z0,z1,j0,j,P,_,hj,hb⟩:=ok.rp hk0 hk1 hk2;obtain⟨e0,e1,b0,hk3⟩:=P.at;rw[XJ hk2,e0,e1,b0,hk3,P.eq];exact LS D hn P hj hb
open Lean.Grind (CommRing)
structure Hm{ts:LL}{R:Type}[CommRing R](f:Et ts->R):Prop where
  add:∀x y,f (x+y)=f x+f y
  mul:∀x y,f (x*y)=f x*f y
  neg:∀x,f (-x)=-f x
  one:f 1=1
  inv:∀x,ak x≠0->f (iE x)*f x=1
  zero:∀x,f x=0↔ak x=0
section
variable{ts:LL}{R:Type}[CommRing R]{f:Et ts->R}(h:Hm f)
include h
theorem Hm.sub(x y:Et ts):f (x-y)=f x-f y:=by
 rw[show x-y=x+-y by grind,h.add,h.neg];grind
theorem Hm.nul:f 0=0:=by
 have e:=h.add 0 0;rw[show(0:Et ts)+0=0 by grind]at e;grind
theorem Hm.q1:f (qE ((1:Int):Rat))=1:=by rw[lI];exact h.one
theorem Hm.q4:f (qE 4)=4:=by
 have e:(qE 4:Et ts)=1+1+1+1:=by
  have e1:=no (r:=ay ts) (n:=ts.length) 1 1;have e2:=no (r:=ay ts) (n:=ts.length) 2 2;rw[show(1:Rat)+1=2 by decide +kernel]at e1;rw[show(2:Rat)+2=4 by decide +kernel,e1]at e2;rw[e2];have e3:(qE 1:Et ts)=1:=rfl;rw[e3];grind
 rw[e,h.add,h.add,h.add,h.one];grind
end
abbrev dL(ts:LL):Prop:=ft (ay ts) ts.length
theorem Of{ts:LL}(hp:dL ts):Hm (ah hp:Et ts->Zq hp) :=
 ⟨fun _ _=>rfl,fun _ _=>rfl,fun _=>rfl,rfl,fun x hx=>wQ hp hx,fun x=>eU hp⟩
theorem Pr{ts:LL}(X:Et ts)(hp:dL (aS ts (sX X))):Hm (fun x:Et ts=>ah hp (aL X x)) :=
  ⟨fun x y => by rw [qo]; rfl, fun x y => by rw [fi]; rfl, fun x => by rw [F3]; rfl,
   by have e := mO X ((1 : Nat) : Rat)
      have e1:(qE ((1:Nat):Rat):Et ts)=1:=rfl;rw[e1]at e;rw[e];rfl,
   fun x hx=>by rw[oY];exact wQ hp (by show ak (aL X x)≠0;rw[ox];exact hx),
   fun x=>by rw[eU hp];show ak (aL X x)=0↔_;rw[ox]⟩
theorem Fe(k:Nat):ae (k+1) (cr k)=(T.zero k,T.ofQ k 1):=by
 have h1:(cr k).take (2^k)=List.replicate (2^k) 0:=by
  unfold cr;rw[List.take_set_of_le (WZ _),List.take_replicate];congr 1;have:=Nat.pow_lt_pow_right (a:=2) oz (Nat.lt_succ_self k);omega
 have h2:(cr k).drop (2^k)=(1:Rat)::List.replicate (2^k-1) 0:=by
  unfold cr;rw[List.drop_set,XJ oz,Nat.sub_self,List.drop_replicate]
  have e:2^(k+1)-2^k=(2^k-1)+1:=by
   have h3:0<2^k:=Nat.pow_pos oz;have h4:2^(k+1)=2^k+2^k:=by rw[Nat.pow_succ];omega
   omega
  rw[e,List.replicate_succ,List.set_cons_zero]
 show(ae k _,ae k _)=_;rw[h1,h2]
 have e1:ae k (List.replicate (2^k) (0:Rat))=T.zero k:=by
  rw[<- iA]
  exact n6 k (fun i _=>by
   rw[WV,WV,Xq];split <;> rfl)
 have e2:ae k ((1:Rat)::List.replicate (2^k-1) 0)=T.ofQ k 1:=by
  rw[<- lO]
  exact n6 k (fun i _=>by
   cases i with
   |zero=>rfl
   |succ i =>
    rw[WV,WV,List.getElem?_cons_succ,Xq];split <;> rfl)
 rw[e1,e2]
theorem TY{n N:Nat}(hN:N=n+1){r:(k:Nat)->T k}(x:T n)(hx:r n=x):T.mul r N (ae N (cr n)) (ae N (cr n))=iN x:=by
 subst hN;rw[Fe,jV];show(T.add n (T.mul r n (T.zero n) (T.zero n)) (T.mul r n (T.mul r n (T.ofQ n 1) (T.ofQ n 1)) (r n)),T.add n (T.mul r n (T.zero n) (T.ofQ n 1)) (T.mul r n (T.ofQ n 1) (T.zero n)))=_;have L:=mX r n;rw[L.one,L.one,T.zero_mul,T.zero_mul,T.zero_add,L.one,T.zero_add,hx]
theorem yy{ts:LL}(X:Et ts):bu X*bu X=aL X X:=by
 refine TY (dC _ _) X ?_;show ae ts.length ((aS ts (sX X)).getD ts.length [])=X;rw[sG,qv];exact bf _ _
section
variable{R:Type}[CommRing R]
theorem SE{p1 p2 q1 q2 z z2 i t:R}(hi:i*(((p1-q1)*(p1-q1)+(p2-q2)*(p2-q2))+((p1-q1)*(p1-q1)+(p2-q2)*(p2-q2)))=1)
  (ht:t*t=4*(z*((p1-q1)*(p1-q1)+(p2-q2)*(p2-q2)))-((z+((p1-q1)*(p1-q1)+(p2-q2)*(p2-q2)))-z2)*((z+((p1-q1)*(p1-q1)+(p2-q2)*(p2-q2)))-z2))
  {x y:R} (hx:x=p1+((z+((p1-q1)*(p1-q1)+(p2-q2)*(p2-q2)))-z2)*i*(q1-p1)+t*(i*-(q2-p2))) (hy:y=p2+((z+((p1-q1)*(p1-q1)+(p2-q2)*(p2-q2)))-z2)*i*(q2-p2)+t*(i*(q1-p1))) :
  (x-p1)*(x-p1)+(y-p2)*(y-p2)=z/\(x-q1)*(x-q1)+(y-q2)*(y-q2)=z2:=by
 obtain⟨d,hd⟩:∃d,d=(p1-q1)*(p1-q1)+(p2-q2)*(p2-q2):=⟨_,rfl⟩
 rw[<- hd]at hi ht hx hy;obtain⟨a,ha⟩:∃a,a=z+d-z2:=⟨_,rfl⟩
 rw[<- ha]at ht hx hy;have e1:(x-p1)*(x-p1)+(y-p2)*(y-p2)=(a*a+t*t)*(i*i)*d:=by rw[hx,hy,hd];grind
 have e2:(a*a+t*t)*(i*i)*d=z:=by
  rw[ht];have:(a*a+(4*(z*d)-a*a))*(i*i)*d=z*(i*(d+d))*(i*(d+d)):=by grind
  rw[this,hi];grind
 have e3:(x-q1)*(x-q1)+(y-q2)*(y-q2)=((x-p1)*(x-p1)+(y-p2)*(y-p2))-a*(i*(d+d))+d:=by rw[hx,hy,hd];grind
 refine⟨e1.trans e2,?_⟩;rw[e3,e1,e2,hi,ha];grind
theorem RW(e t i S:R):(e+t)*i*S=(e+t)*(i*S):=by grind
theorem RA(z i S W:R):i*S*z-i*(S*W)+W=z*(i*S)-(i*S)*W+W:=by grind
theorem OJ(z W:R):z*1-1*W+W=z:=by grind
theorem RH(x:R):x*1=x:=by grind
theorem UN(k e t S:R):k*k*S-(k*e+k*e)=k*(k*S)-(k*e+k*e):=by grind
theorem Ps(e t i:R):(e+t)*i*(e+t)-((e+t)*i*e+(e+t)*i*e)=i*(t*t-e*e):=by grind
theorem Kp{p1 p2 q1 q2 c1 c2 z i t k:R}(hi:i*((q1-p1)*(q1-p1)+(q2-p2)*(q2-p2))=1)
  (ht:t*t=((q1-p1)*(q1-p1)+(q2-p2)*(q2-p2))*z-((q1-p1)*(c2-p2)-(q2-p2)*(c1-p1))*((q1-p1)*(c2-p2)-(q2-p2)*(c1-p1)))
  (hk:k=((q1-p1)*(c1-p1)+(q2-p2)*(c2-p2)+t)*i)
  {x y:R} (hx:x=p1+k*(q1-p1)) (hy:y=p2+k*(q2-p2)) :
  (x-c1)*(x-c1)+(y-c2)*(y-c2)=z/\(q1-p1)*(y-p2)-(q2-p2)*(x-p1)=0:=by
 refine⟨?_,by rw[hx,hy];grind⟩;obtain⟨S,hS⟩:∃S,S=(q1-p1)*(q1-p1)+(q2-p2)*(q2-p2):=⟨_,rfl⟩
 obtain⟨e,he⟩:∃e,e=(q1-p1)*(c1-p1)+(q2-p2)*(c2-p2):=⟨_,rfl⟩
 obtain⟨C,hC⟩:∃C,C=(q1-p1)*(c2-p2)-(q2-p2)*(c1-p1):=⟨_,rfl⟩
 obtain⟨W,hW⟩:∃W,W=(c1-p1)*(c1-p1)+(c2-p2)*(c2-p2):=⟨_,rfl⟩
 rw[<- hS]at hi ht;rw[<- he]at hk;rw[<- hC]at ht;have e0:e*e+C*C=S*W:=by rw[he,hC,hS,hW];grind
 have e1:(x-c1)*(x-c1)+(y-c2)*(y-c2)=k*k*S-(k*e+k*e)+W:=by rw[hx,hy,hS,he,hW];grind
 have e2:k*S=e+t:=by rw[hk,RW,hi,RH]
 have e3:k*k*S-(k*e+k*e)+W=i*(t*t-e*e)+W:=by
  rw[UN k e t S,e2,hk,Ps]
 rw[e1,e3,ht];have:i*(S*z-C*C-e*e)+W=i*S*z-i*(e*e+C*C)+W:=by grind
 rw[this,e0,RA,hi,OJ]
theorem Uv{W1 W2 N hh i t D w1 w2:R}(hD:D=W1*W1+W2*W2)(hi:i*D=1)(ht:t*t=N*D-hh*hh)
  (h1:w1=(t*W1-hh*-W2)*i) (h2:w2=(t*W2-hh*W1)*i):w1*w1+w2*w2=N/\w1*W2-w2*W1=hh:=by
 have e1:w1*w1+w2*w2=(t*t+hh*hh)*(i*D)*i:=by rw[h1,h2,hD];grind
 have e2:w1*W2-w2*W1=hh*(i*D):=by rw[h1,h2,hD];grind
 refine⟨?_,by rw[e2,hi];grind⟩;rw[e1,ht,hi];have:(N*D-hh*hh+hh*hh)*1*i=N*(i*D):=by grind
 rw[this,hi];grind
theorem Ej{u1 u2 w1 w2 n i c s:R}(hn:n=u1*u1+u2*u2)(hi:i*n=1)(hc:c=(u1*w1+u2*w2)*i)(hs:s=(u1*w2-u2*w1)*i) :
  (c*u1-s*u2=w1/\s*u1+c*u2=w2)/\(w1*w1+w2*w2=n->c*c+s*s=1):=by
 have e1:c*u1-s*u2=w1*(i*n):=by rw[hc,hs,hn];grind
 have e2:s*u1+c*u2=w2*(i*n):=by rw[hc,hs,hn];grind
 refine⟨⟨by rw[e1,hi];grind,by rw[e2,hi];grind⟩,fun hw=>?_⟩;have e3:c*c+s*s=(w1*w1+w2*w2)*(i*n)*i:=by rw[hc,hs,hn];grind
 rw[e3,hw,hi];rw[show n*1*i=i*n by grind,hi]
end
end Go.Lw
namespace Go.Lw
open Lean.Grind (CommRing)
def aq{ts:LL}(T:LL)(y:Et ts):Et T:=dE T (sX y)
structure Lf(ts T:LL):Prop where
  pos:dL T
  hm:Hm (fun y:Et ts=>ah pos (aq T y))
  low:∀l:List Rat,l.length<=2^ts.length->aq T (dE ts l)=dE T l
  q:∀q:Rat,aq T (qE q:Et ts)=qE q
  len:ts.length<=T.length
  sg:∀y:Et ts,ak (aq T y)=ak y
  ad:∀x y:Et ts,aq T (x+y)=aq T x+aq T y
  mu:∀x y:Et ts,aq T (x*y)=aq T x*aq T y
theorem dc{ts:LL}(y:Et ts):aq ts y=y:=bf _ _
theorem mV{ts:LL}(hp:dL ts):Lf ts ts:=by
 refine⟨hp,?_,fun l _=>dc _,fun q=>dc _,WZ _,fun y=>by rw[dc],fun x y=>by rw[dc,dc,dc],fun x y=>by rw[dc,dc,dc]⟩;have e:(fun y:Et ts=>ah hp (aq ts y))=ah hp:=funext fun y=>by rw[dc]
 rw[e];exact Of hp
theorem L4{n N:Nat}(hN:N=n+1){l:List Rat}(h:l.length<=2^n):ae N (sh n (ae n l))=ae N l:=by
 subst hN;rw[ic (eH n _).le,bf,ic h]
theorem rq{ts:LL}(X:Et ts)(hp:dL (aS ts (sX X))):Lf ts (aS ts (sX X)) :=
 ⟨hp,Pr X hp,fun l h=>L4 (dC _ _) h,fun q=>mO X q,by rw[dC];omega,fun y=>ox,fun x y=>qo X x y,fun x y=>fi X x y⟩
structure CirG(ts T:LL)(x:List Rat×List Rat)(p q:P2 ts)(z z2:Et ts):Prop where
  lf:Lf ts T
  c1:ak ((dE T x.1-aq T p.1)*(dE T x.1-aq T p.1)+(dE T x.2-aq T p.2)*(dE T x.2-aq T p.2)-aq T z)=0
  c2:ak ((dE T x.1-aq T q.1)*(dE T x.1-aq T q.1)+(dE T x.2-aq T q.2)*(dE T x.2-aq T q.2)-aq T z2)=0
section
variable{ts:LL}
theorem IE{R:Type}[CommRing R]{f:Et ts->R}(h:Hm f)(p q:P2 ts):f (aB p q)=(f p.1-f q.1)*(f p.1-f q.1)+(f p.2-f q.2)*(f p.2-f q.2):=by
 show f ((p.1-q.1)*(p.1-q.1)+(p.2-q.2)*(p.2-q.2))=_;rw[h.add,h.mul,h.mul,h.sub,h.sub]
theorem PC{R:Type}[CommRing R]{f:Et ts->R}(h:Hm f)(p q:P2 ts)(z z2:Et ts){D:R}(hD:f (aB p q)=D):f (bn p z q z2)=4*(f z*D)-((f z+D)-f z2)*((f z+D)-f z2):=by
 subst hD;unfold bn;rw[h.sub,h.mul,h.mul,h.mul,h.sub,h.add,h.q4]
theorem ON{R:Type}[CommRing R]{f:Et ts->R}(h:Hm f){p q:P2 ts}{z z2:Et ts}(hd2:ak (aB p q+aB p q)≠0){t:R}(ht:t*t=f (bn p z q z2)){x y:R}
  (hx:x=f (cV p q z z2).1+t*f (gB p q).1) (hy:y=f (cV p q z z2).2+t*f (gB p q).2) :
  (x-f p.1)*(x-f p.1)+(y-f p.2)*(y-f p.2)=f z/\(x-f q.1)*(x-f q.1)+(y-f q.2)*(y-f q.2)=f z2:=by
 have d:=IE h p q;have hi:=h.inv _ hd2;rw[h.add,d]at hi;rw[PC h p q z z2 d]at ht;refine SE hi ht ?_ ?_
 ·rw[hx,wC];unfold cR gB;dsimp only;show f (p.1+qE ((1:Int):Rat)*iE (aB p q+aB p q)*(z+aB p q-z2)*(q.1-p.1))+t*f (qE ((1:Int):Rat)*iE (aB p q+aB p q)*(0-(q.2-p.2)))=_;simp only[h.add,h.mul,h.sub,h.q1,h.nul,d];generalize(f p.1-f q.1)*(f p.1-f q.1)+(f p.2-f q.2)*(f p.2-f q.2)=D;generalize f (iE (aB p q+aB p q))=i;clear ht hi hx hy;grind
 ·rw[hy,wC];unfold cR gB;dsimp only;show f (p.2+qE ((1:Int):Rat)*iE (aB p q+aB p q)*(z+aB p q-z2)*(q.2-p.2))+t*f (qE ((1:Int):Rat)*iE (aB p q+aB p q)*(q.1-p.1))=_;simp only[h.add,h.mul,h.sub,h.q1,d];generalize(f p.1-f q.1)*(f p.1-f q.1)+(f p.2-f q.2)*(f p.2-f q.2)=D;generalize f (iE (aB p q+aB p q))=i;clear ht hi hx hy;grind
theorem ID{r:Nat}(tw:Tw ts r){d:Et ts}(hd:ak d≠0):ak (d+d)≠0:=by
 rw[<- xO,xl tw];exact hd
theorem yS{T:LL}(L:Lf ts T){x:List Rat×List Rat}{p q:P2 ts}{z z2:Et ts}(hd2:ak (aB p q+aB p q)≠0){t:Et T}(ht:ah L.pos (t*t)=ah L.pos (aq T (bn p z q z2)))
  (hx:dE T x.1=aq T (cV p q z z2).1+t*aq T (gB p q).1) (hy:dE T x.2=aq T (cV p q z z2).2+t*aq T (gB p q).2):CirG ts T x p q z z2:=by
 have g:=ON L.hm hd2 (t:=ah L.pos t) ht (x:=ah L.pos (dE T x.1)) (y:=ah L.pos (dE T x.2)) (by rw[hx];rfl) (by rw[hy];rfl);refine⟨L,?_,?_⟩
 ·refine(eU L.pos).1 ?_;rw[bJ,eP,bB,bB,bJ,bJ];have:=g.1;generalize ah L.pos (aq T z)=Z at *;generalize ah L.pos (aq T p.1)=P1 at *;generalize ah L.pos (aq T p.2)=P2 at *;rw[this];grind
 ·refine(eU L.pos).1 ?_;rw[bJ,eP,bB,bB,bJ,bJ];have:=g.2;rw[this];grind
theorem d9{T:LL}(y:Et T):dE T (sX y)=y:=bf _ _
theorem Ra{r:Nat}(tw:Tw ts r)(hx4:∀X:Et ts,0<ak X->dL (aS ts (sX X))){p q:P2 ts}{z z2:Et ts}(h0:fg p q z z2=0)(hz:0<ak z) :
  ∀x∈(dY p q z z2).ps,CirG ts (dY p q z z2).ts x p q z z2:=by
 intro x;unfold fg kR at h0;unfold dY;split
 ·rename_i hd;rw[XK hd]at h0;unfold lG;split
  ·intro hx;cases hx
  ·intro hx;cases hx
 ·rename_i hd;have hd2:=ID tw hd;split
  ·intro hx;cases hx
  ·rename_i hn;split
   ·rename_i hX;intro hx;rw[List.mem_singleton.1 hx];have hp:dL ts:=tw.pos;refine yS (mV hp) hd2 (t:=0) ?_ ?_ ?_
    ·refine((eU hp).2 ?_).trans ((eU hp).2 ?_).symm
     ·rw[show(0:Et ts)*0=0 by grind];exact(da _ _ hp).zero
     ·rw[dc];exact hX
    ·rw[dc,dc,d9];grind
    ·rw[dc,dc,d9];grind
   ·rename_i hX;have hX1:0 < ak (bn p z q z2):=by omega
    have hp:=hx4 _ hX1;intro hx;have L:=rq (bn p z q z2) hp;have e:=yy (bn p z q z2);rcases List.mem_cons.1 hx with rfl |hx
    ·refine yS L hd2 (t := bu (bn p z q z2)) (by rw [e]; rfl) ?_ ?_
     ·rw[d9];exact congrArg Prod.fst (tu (bn p z q z2) (cV p q z z2) p q)
     ·rw[d9];exact congrArg Prod.snd (tu (bn p z q z2) (cV p q z z2) p q)
    ·rw [List.mem_singleton.1 hx];refine yS L hd2 (t:=-bu (bn p z q z2)) (by rw [show -bu (bn p z q z2) * -bu (bn p z q z2) = bu (bn p z q z2) * bu (bn p z q z2) by grind,e]; rfl) ?_ ?_
     ·rw[d9,congrArg Prod.fst (uZ (bn p z q z2) (cV p q z z2) p q)];show aL _ _-_*aL _ _=aL _ _+-_*aL _ _;grind
     ·rw[d9,congrArg Prod.snd (uZ (bn p z q z2) (cV p q z z2) p q)];show aL _ _-_*aL _ _=aL _ _+-_*aL _ _;grind
structure LinG(ts T:LL)(x:List Rat×List Rat)(p q c:P2 ts)(z:Et ts):Prop where
  lf:Lf ts T
  c:ak ((dE T x.1-aq T c.1)*(dE T x.1-aq T c.1)+(dE T x.2-aq T c.2)*(dE T x.2-aq T c.2)-aq T z)=0
  l:ak ((aq T q.1-aq T p.1)*(dE T x.2-aq T p.2)-(aq T q.2-aq T p.2)*(dE T x.1-aq T p.1))=0
theorem R3{R:Type}[CommRing R]{f:Et ts->R}(h:Hm f){p q c:P2 ts}{z:Et ts}(hd:ak (bh p q)≠0){t:R}(ht:t*t=f (aU p q c z)){x y:R}
  (hx:x=f (cR p (bH p q c*iE (bh p q)) (aR q p)).1+t*f (f7 p q).1) (hy:y=f (cR p (bH p q c*iE (bh p q)) (aR q p)).2+t*f (f7 p q).2) :
  (x-f c.1)*(x-f c.1)+(y-f c.2)*(y-f c.2)=f z/\(f q.1-f p.1)*(y-f p.2)-(f q.2-f p.2)*(x-f p.1)=0:=by
 have hi:=h.inv _ hd
 have eS:f (bh p q)=(f q.1-f p.1)*(f q.1-f p.1)+(f q.2-f p.2)*(f q.2-f p.2):=by
  show f ((q.1-p.1)*(q.1-p.1)+(q.2-p.2)*(q.2-p.2))=_;simp only[h.add,h.mul,h.sub]
 have eE:f (bH p q c)=(f q.1-f p.1)*(f c.1-f p.1)+(f q.2-f p.2)*(f c.2-f p.2):=by
  show f ((q.1-p.1)*(c.1-p.1)+(q.2-p.2)*(c.2-p.2))=_;simp only[h.add,h.mul,h.sub]
 have eC:f (ip p q c)=(f q.1-f p.1)*(f c.2-f p.2)-(f q.2-f p.2)*(f c.1-f p.1):=by
  show f ((q.1-p.1)*(c.2-p.2)-(q.2-p.2)*(c.1-p.1))=_;simp only[h.mul,h.sub]
 have eX:f (aU p q c z)=f (bh p q)*f z-f (ip p q c)*f (ip p q c):=by
  show f (bh p q*z-ip p q c*ip p q c)=_;simp only[h.mul,h.sub]
 rw[eX,eC,eS]at ht;rw[eS]at hi;refine Kp hi ht (k:=(f (bH p q c)+t)*f (iE (bh p q))) (by rw[eE]) ?_ ?_
 ·rw[hx];unfold cR f7;show f (p.1+bH p q c*iE (bh p q)*(q.1-p.1))+t*f (qE ((1:Int):Rat)*iE (bh p q)*(q.1-p.1))=_;simp only[h.add,h.mul,h.sub,h.q1];generalize f (iE (bh p q))=i;generalize f (bH p q c)=e;clear ht hi hx hy eS eE eC eX;grind
 ·rw[hy];unfold cR f7;show f (p.2+bH p q c*iE (bh p q)*(q.2-p.2))+t*f (qE ((1:Int):Rat)*iE (bh p q)*(q.2-p.2))=_;simp only[h.add,h.mul,h.sub,h.q1];generalize f (iE (bh p q))=i;generalize f (bH p q c)=e;clear ht hi hx hy eS eE eC eX;grind
theorem BC{T:LL}(L:Lf ts T){x:List Rat×List Rat}{p q c:P2 ts}{z:Et ts}(hd:ak (bh p q)≠0){t:Et T}(ht:ah L.pos (t*t)=ah L.pos (aq T (aU p q c z)))
  (hx:dE T x.1=aq T (cR p (bH p q c*iE (bh p q)) (aR q p)).1+t*aq T (f7 p q).1) (hy:dE T x.2=aq T (cR p (bH p q c*iE (bh p q)) (aR q p)).2+t*aq T (f7 p q).2):LinG ts T x p q c z:=by
 have g:=R3 L.hm hd (t:=ah L.pos t) ht (x:=ah L.pos (dE T x.1)) (y:=ah L.pos (dE T x.2)) (by rw[hx];rfl) (by rw[hy];rfl);refine⟨L,?_,?_⟩
 ·refine(eU L.pos).1 ?_;rw[bJ,eP,bB,bB,bJ,bJ];have:=g.1;rw[this];grind
 ·refine(eU L.pos).1 ?_;rw[bJ,bB,bB,bJ,bJ,bJ,bJ];exact g.2
theorem JA{r:Nat}(tw:Tw ts r)(hx4:∀X:Et ts,0<ak X->dL (aS ts (sX X))){p q c:P2 ts}{z:Et ts}(h0:eZ p q=0) :
  ∀x∈(dX p q c z).ps,LinG ts (dX p q c z).ts x p q c z:=by
 intro x;unfold eZ at h0;unfold dX;split
 ·intro hx;cases hx
 ·rename_i hd;split
  ·intro hx;cases hx
  ·rename_i hn;split
   ·rename_i hX;intro hx;rw[List.mem_singleton.1 hx];have hp:dL ts:=tw.pos;refine BC (mV hp) hd (t:=0) ?_ ?_ ?_
    ·refine((eU hp).2 ?_).trans ((eU hp).2 ?_).symm
     ·rw[show(0:Et ts)*0=0 by grind];exact(da _ _ hp).zero
     ·rw[dc];exact hX
    ·rw[dc,dc,d9];grind
    ·rw[dc,dc,d9];grind
   ·rename_i hX
    have hX1:0<ak (aU p q c z):=by
     rcases(da _ _ tw.pos).cs (aU p q c z)with g |g |g
     ·exact absurd g hn
     ·exact absurd g hX
     ·show 0<sg _ _ _;rw[g];decide
    have hp:=hx4 _ hX1;intro hx;have L:=rq (aU p q c z) hp;have e:=yy (aU p q c z);rcases List.mem_cons.1 hx with rfl |hx
    ·refine BC L hd (t := bu (aU p q c z)) (by rw [e]; rfl) ?_ ?_
     ·rw[d9];exact congrArg Prod.fst (vi (aU p q c z) p q c)
     ·rw[d9];exact congrArg Prod.snd (vi (aU p q c z) p q c)
    ·rw [List.mem_singleton.1 hx];refine BC L hd (t:=-bu (aU p q c z)) (by rw [show -bu (aU p q c z) * -bu (aU p q c z) = bu (aU p q c z) * bu (aU p q c z) by grind,e]; rfl) ?_ ?_
     ·rw[d9,congrArg Prod.fst (vA (aU p q c z) p q c)];show aL _ _-_*aL _ _=aL _ _+-_*aL _ _;grind
     ·rw[d9,congrArg Prod.snd (vA (aU p q c z) p q c)];show aL _ _-_*aL _ _=aL _ _+-_*aL _ _;grind
end
end Go.Lw
