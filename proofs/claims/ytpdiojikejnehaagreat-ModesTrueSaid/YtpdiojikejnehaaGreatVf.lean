/- ModesTrue: for any linkage and any turns the law returns true and leaves its arguments as they were. No other condition. Part 6 of 8: what the later parts need -/
import Derived.Test.YtpdiojikejnehaaGreatVe
import Derived.Laws.Cover3
set_option linter.unusedVariables false
open List (mem_of_getElem? mem_append map_cons mem_cons all_cons length_cons length_append length_nil getD_eq_getElem?_getD getElem?_append_left all_eq_true getElem?_map getElem?_append_right nil_append getElem?_replicate map_append length_take length_map take_length map_nil not_mem_nil map_map)
open Nat (le_refl lt_or_ge le_trans zero_le pow_add)
open Option (map_eq_some_iff)
open Bool (and_eq_true)
open Int (toNat_natCast)
open Go.Proofs.Tryz
namespace Go.Lw
open Go.Proofs
abbrev Lm(l:Li)(g:Gr)(a:As):List AV:=[.v (.string l.name),.lst 2 (l.bo.map Bd.av),.lst 7 (l.jo.map Jt.av),.lst 2 (l.dv.map Dr.av),i64 g.kind,.lst 1 (g.bo.map i64),.lst 1 (g.jo.map i64),i64 g.driver,
  .lst 1 (a.rs.map nR),.lst 4 (a.bs.map Pl.av),.lst 1 (a.ms.map i64),.v .nilIface]
abbrev cg(l:Li)(g:Gr)(a:As):Blk:=.box (Lm l g a)
def qG(e:Nat):AV:=if e=0 then .ptr 900 0 else .v (.pointer none)
def H4(e:Nat)(l:Li)(g:Gr)(a:As):Hp:=if e=0 then[(900,some (cg l g a))]else[]
theorem kR{e:Nat}(h:e≠0):qG e=.v (.pointer none):=if_neg h
theorem qk{e:Nat}{l:Li}{g:Gr}{a:As}(h:e≠0):H4 e l g a=[]:=if_neg h
theorem F4(l:Li)(g:Gr):cR l g true=fJ l g++g.bo:=rfl
theorem GO(l:Li)(g:Gr):cR l g false=fJ l g:=by unfold cR;simp
theorem Rx{rs:List (List Rt)}{b:Pl}{i:Nat}{x:List Rt}(h:bD rs=0)(hx:b.l[i]?=some x)(hb:∀y∈b.l.take i,cE rs.length y=0)(hn:cE rs.length x≠0):bN rs b.l=cE rs.length x:=GD h hx hb hn
theorem Mj{l:Li}{g:Gr}{a:As}{own:Bool}{j:Nat}{b:Int}(hb:(eA (cR l g own))[j]?=some b)(hj:∀c∈(eA (cR l g own)).take j,gq a c=0)(hn:gq a b≠0):eH ((eA (cR l g own)).map (gq a))=gq a b:=by
 have h1:eA (cR l g own)=(eA (cR l g own)).take j++b::(eA (cR l g own)).drop (j+1):=by
  obtain⟨hi,e⟩:=List.getElem?_eq_some_iff.1 hb;rw[<- e,<- List.drop_eq_getElem_cons hi,List.take_append_drop]
 generalize eA (cR l g own)=xs at *;rw[h1,map_append,sZ _ _ (qD hj),map_cons,BO,if_pos hn]
theorem Fv(l:Li)(hl:l.ok)(k:Int)(a:As)(al:AB a)(own:Bool) :
  Con prog 63 [l.av,i64 k,a.av,bl own] [] (.tup [qG (fy l k a own),br (fy l k a own)]) (H4 (fy l k a own) l (iF l k) a):=by
 have hbl:=al.bl;refine gF func63 (fun k z h=>by cases h) ?_;refine gc (Ae l hl) ?_;refine gC (fun t27=>?_) (fun t27=>?_)
 ·have h1:=df t27;refine gR ?_;rw[OA rfl h1,kR h1,qk h1];exact kq rfl
 have h1:=cZ t27;obtain⟨hli,hsp⟩:=GG h1;rw[show(if aD l=0 then splitG l else[])=splitG l from if_pos hli];have hbs:=(cV hli).2.2.2.1;have hgl:=(tB hli).2;have hsg:splitG l=findG l:=by unfold splitG;rw[if_pos hsp]
 refine bZ ?_;refine gC (fun t36=>?_) (fun t36=>?_)
 ·have h2:=N9 t36;have he:fy l k a own=9:=(qU hli).trans (Wf hsp h2);refine gR ?_;rw[he,kR (by decide),qk (by decide)];exact kq rfl
 have h2:=UC t36;refine gl ?_;refine gl ?_;refine gC (fun t44=>?_) (fun t44=>?_)
 ·have h3:=yn t44;have he:fy l k a own=10:=(qU hli).trans (Oq hsp h2 h3);refine gR ?_;rw[he,kR (by decide),qk (by decide)];exact kq rfl
 have h3:=A9 t44;refine gc (qT a.rs 400000000 al.tr) ?_;refine gC (fun t50=>?_) (fun t50=>?_)
 ·have h4:=df t50;refine gR ?_;rw[(qU hli).trans (P6 hsp h2 h3 h4),kR h4,qk h4];exact kq rfl
 have h4:=cZ t50;obtain⟨i,rfl,hi⟩:=RN h2;obtain⟨g,hg⟩:=aw hi;obtain⟨hgd,hgo⟩:=s8 hli (mem_of_getElem? hg);have hgA:iF l (i:Nat)=g:=ao hg;rw[hgA];have he5:fy l (i:Nat) a own=eH ((eA (cR l g own)).map (gq a)):=by rw[<- hgA];exact(qU hli).trans (DL hsp h2 h3 h4)
 have hnl:(cR l g own).length<=5:=O6 hgo;have hgb:=hgo.lb;have hgj:=hgo.lj;refine gi (aA hg) ?_;refine gt (aG (VD l hl hli g hgo) (bC rfl rfl) aH rfl rfl) ?_;refine gD ?_;refine gC (fun t62=>?_) (fun t62=>?_) (st1:=(13,0));cases t62;refine AE [1,4,6,10] [4,6] [(13,some (.ms 900 1 0 (cR l g own).length))] [(900,some (.row 1 ((cR l g own).map i64)))] (True) ?_ ?_
 ·intro K1 J1;refine gC (fun t64=>?_) (fun t64=>?_)
  ·have ho:own=true:=t64;subst ho;refine gi (aA hg) ?_;refine gs (cz (.tmp rfl) rfl (by rw[length_map,pH]) (.tmp rfl) T39 rfl T3 rfl rfl (by simp only[length_map];omega) rfl rfl) ?_;exact oF J1 trivial (hw:=(Wk.of (sl:=[(1,some (i64 i)),(4,some (.ptr 4 0)),(6,some (.ptr 6 0)),(10,some (.lst 4 ((splitG l).map Gr.av))),(13,some (.ms 71 1 0 (cR l g true).length))]) (hp:=[(4,some (.box l.av.cells)),(6,some (.box a.av.cells)),(71,some (.row 1 ((cR l g true).map i64)))]) (.k (.k (.k (.k (.cons rfl (Sub.of (by rw[F4,length_append,pH,length_map])) .nil))))) (.k (.k (.cons rfl (BlkSub.of (by rw[F4,map_append])) .nil)))).trans<|(Wk.rk (k:=71) (d:=900) rfl rfl).trans<|Wk.o)
  have ho:own=false:=t64;subst ho;exact oF J1 trivial (hw:=Wk.of (.cons rfl (Sub.of (by rw[GO,pH])) (.k (.k (.k (.k .nil))))) (.cons rfl (BlkSub.of (by rw[GO])) (.k (.k .nil))))
 rintro -;refine gt (aG (Con.rk 900 rfl rfl (U2 (cR l g own) oz)) (cA rfl) aH rfl rfl) ?_ (17,0);refine gW ((Wk.freeze (k:=900) rfl).trans<|Wk.of (sl:=[(1,some (i64 i)),(4,some (.ptr 4 0)),(6,some (.ptr 6 0)),(10,some (.lst 4 ((splitG l).map Gr.av))),(13,some (.lst 1 ((eA (cR l g own)).map i64)))]) (hp:=[(4,some (.box l.av.cells)),(6,some (.box a.av.cells))]) (.k (.k (.k (.k (.cons rfl (Sub.of (bQ (by rw[length_map,CX]))) .nil))))) (.k (.k .nil))) ?_;refine gl ?_;refine aU [1,4,6,10,74,75] [4,6] (fun(j:Nat)=>[(76,some (i64 j))]) (fun _=>[]) (fun j=>j<=(eA (cR l g own)).length/\∀b∈(eA (cR l g own)).take j,gq a b=0) (fun j=>(eA (cR l g own)).length-j) 0 ⟨zero_le _,fun b hb=>by simp at hb⟩ ?_;rintro j ⟨hj,hjz⟩ K2 J2;refine gC (fun t77=>?_) (fun t77=>?_)
 ·have hjn:=a5 t77;obtain ⟨b,hb⟩:=aw hjn;have hbm:=yO.1 (mem_of_getElem? hb);have hbr:=AR hli hgo b hbm;have hsl:(eA (cR l g own)).length <= 5:=by rw [CX]; exact hnl
  refine gi (aA hb) ?_;refine gC (fun t81=>?_) (fun t81=>?_)
  ·have hz : gq a b = 0 := by unfold gq; rw [if_pos (by simpa [aa] using t81)]
   refine ga aN ?_;exact aP J2 (j+1) ⟨hjn,fun c hc=>by rw[ef hb]at hc;rcases List.mem_append.1 hc with h9 |h9;exact hjz c h9;(rw[List.mem_singleton.1 h9];exact hz)⟩
  have hb0:0<=b:=by have:=of_decide_eq_false (p:=b<0) t81;omega
  obtain⟨p,hp⟩:=aw (l:=a.bs) (i:=b.toNat) oz;have hpn:=al.nr p (mem_of_getElem? hp);have hnd:gq a b=bN a.rs p.l:=by unfold gq;rw[if_neg oz,ao hp]
  refine gi (gh (n:=b.toNat) oz hp) ?_;refine ge rfl ?_;refine aU [1,4,6,10,74,75,76,95,96] [4,6] (fun(q:Nat)=>[(97,some (i64 q))]) (fun _=>[]) (fun q=>q<=4/\∀x∈p.l.take q,cE a.rs.length x=0) (fun q=>4-q) 0 ⟨zero_le _,fun x hx=>by simp at hx⟩ ?_;rintro q ⟨hq,hqz⟩ K3 J3;refine gC (fun t98=>?_) (fun t98=>?_)
  ·have hqn:q<4:=a5 (b:=4) t98;obtain⟨x,hx⟩:∃x,p.l[q]?=some x:=aw (show q<p.l.length from hqn);have hxn:=hpn x (mem_of_getElem? hx);have hone:bN a.rs [x]=cE a.rs.length x:=TB h4;refine gi (aA hx) ?_;refine gc (Ho a.rs 400000000 al.tr x 50000000000 hxn (U1 _)) ?_;refine gC (fun t109=>?_) (fun t109=>?_)
   ·have h5:=df t109;rw [hone] at h5 ⊢;have h6:gq a b = cE a.rs.length x:=hnd.trans (Rx h4 hx hqz h5);have h7:fy l (i:Nat) a own = cE a.rs.length x:=by rw [he5,Mj hb hjz (by rw [h6]; exact h5),h6]
    refine gR ?_;rw[h7,kR h5,qk h5];exact kq rfl
   have h5:=cZ t109;rw[hone]at h5;refine ga aN ?_;exact aP J3 (q+1) ⟨hqn,fun z hz=>by rw[ef hx]at hz;rcases List.mem_append.1 hz with h9 |h9;exact hqz z h9;(rw[List.mem_singleton.1 h9];exact h5)⟩
  have hqn:q=4:=bh (b:=4) hq t98;subst hqn;have hqz:∀x∈p.l,cE a.rs.length x=0:=hqz;refine ga aN ?_;exact aP J2 (j+1) ⟨hjn,fun c hc=>by rw[ef hb]at hc;rcases List.mem_append.1 hc with h9 |h9;exact hjz c h9;(rw[List.mem_singleton.1 h9,hnd];exact wg h4 hqz)⟩
 have hjn:=bh hj t77
 have h8:fy l (i:Nat) a own=0:=by
  rw[he5];exact qD (fun b hb=>hjz b (by rw[hjn,take_length];exact hb))
 refine gi (aA hg) ?_;refine gD ?_ (77777,0);refine gW (Wk.o (sl:=[(8,some (.ptr 120 0)),(9,some (.v .nilIface))]) (hp:=[(120,some (cg l g a))])) ?_ (77777,0);refine gW (Wk.rk (k:=120) (d:=900) rfl rfl) ?_;refine gR ?_;rw[h8];exact ay.keep (bq rfl)
theorem A0{ts:LL}{r e:Nat}(tw:Tw ts r){a b c d:List Rat}(ha:Nm ts.length e a)(hb:Nm ts.length e b)(hc:Nm ts.length e c)(hd:Nm ts.length e d)(he:2*e<=lm ts.length) :
  FP 76 [aV ts,aM a b,aM c d] (.tup [aM (sh ts.length (subT ts (ae ts.length a) (ae ts.length c))) (sh ts.length (subT ts (ae ts.length b) (ae ts.length d))),.v .nilIface]):=by
 refine aj func76 ?_;refine gc (nZ (e:=e) tw [(a,b),(c,d)] (by simp only[mem_cons,not_mem_nil,or_false];rintro p (rfl |rfl);exact⟨ha,hb⟩;exact⟨hc,hd⟩) oz (by simp)) ?_;refine gC (fun t16=>?_) (fun t16=>?_) (st1:=(3,0));cases t16;refine gt (aG (Con.rB 21 rfl rfl rfl rfl (uK tw ha hb hc hd he)) (aK rfl rfl rfl) aH rfl rfl) ?_;refine gt (aG (Con.rB 21 rfl rfl rfl rfl (xd _ _ _)) (bC rfl rfl) aH rfl rfl) ?_;refine bF ?_;rfl
theorem yT{ts:LL}{r e:Nat}(tw:Tw ts r){a b c d:List Rat}(ha:Nm ts.length e a)(hb:Nm ts.length e b)(hc:Nm ts.length e c)(hd:Nm ts.length e d)(he:2*(e+e+kB r ts.length)<=lm ts.length) :
  FP 77 [aV ts,aM a b,aM c d] (.tup [nA (sh ts.length (mN ts (ae ts.length a) (ae ts.length b) (ae ts.length c) (ae ts.length d))),.v .nilIface]):=by
 refine aj func77 ?_;refine gc (Con.sA (.cons (.refl _) (.cons (.refl _) (.cons (.refl _) (.cons (Sub.fn0 _) .nil)))) (FD tw ha hb hc hd oz _ _ (EN tw ha hb hc hd he))) ?_;refine bF ?_
 first |rfl |(simp;done)
section
variable{ts:LL}{u k:Nat}{a b a2 b2:List Rat}{x y x2 y2:Et ts}{w v w' v' w2 v2 w3 v3:Nat}
theorem LD [c : Ct ts u k] [ha : Zl ts u k a x w v] [hb : Zl ts u k b y w' v'] [ha2 : Zl ts u k a2 x2 w2 v2] [hb2 : Zl ts u k b2 y2 w3 v3] (h : w + v + (w' + v') + (w2 + v2 + (w3 + v3)) <= 2500 := by decide) :
  FP 76 [aV ts,aM a b,aM a2 b2] (.tup [aM (sX (x-x2)) (sX (y-y2)),.v .nilIface]):=by
 obtain⟨R,tw,hk⟩:=c.ex;have h0:=IM c hk;have h1:=A0 (e:=2500*1000000) tw (ha.up c oz) (hb.up c oz) (ha2.up c oz) (hb2.up c oz) oz;rw[ha.eq,hb.eq,ha2.eq,hb2.eq]at h1;exact h1
end
variable{P:Program}{N:Nat}{R:Array Oper}{s:AS}{pos:String}{after:Array Edge}
theorem aX{d f k:Nat}{bx:Blk}{args:Array Operand}{ts:Array TypeId}{xs:List AV}{r:AV}{t:TypeId}
  (hcon:Con P f xs [(k,some bx)] r [(k,some bx)]) (ha:EvL s args.toList xs) (hk:s.blk k=some bx) (hok:iP s [(k,some bx)] [(k,some bx)] r=true) (hN:Nat.blt d N=true) :
  Step P N R s ⟨some d,.call ⟨.value (.func f),args,ts⟩,t,pos,after,none⟩ ⟨some r,[],eG args.toList,[k]⟩:=by
 refine Step.weaken (aG (d:=d) hcon ha (fun k' z h=>by
  obtain⟨rfl,h9⟩:=fu h;cases h9;exact hk) hok hN) (fun s' h=>h) (fun s' h k' hk'=>?_) (fun s' h=>?_)
 ·left;simp only[map_append,dl,map_cons,map_nil,mem_append,mem_cons,not_mem_nil,or_false]at hk' ⊢;rcases hk' with h9 |h9 <;> exact h9
 ·intro C m a w hr;refine⟨m,hr.weak (fun t x hx=>⟨x,hx,.refl _⟩) (fun k' x hx=>⟨x,?_,.refl _⟩)⟩;have hb:lk s'.hp k=some bx:=(h.2 k (List.mem_singleton.2 rfl)).trans hk;show lk ([(k,some bx)]++dl [(k,some bx)]++s'.hp) k'=some x;have hx':lk s'.hp k'=some x:=hx;simp only[dl,map_cons,map_nil,List.cons_append,nil_append,aT]
  by_cases e:k'=k
  ·rw[if_pos e];rw[e,hb]at hx';exact hx'
  ·rw[if_neg e,if_neg e];exact hx'
theorem mQ{k1 k2 k':Nat}{x y:Option Blk}{z:Blk}(h:lk [(k1,x),(k2,y)] k'=some z):(k'=k1/\x=some z)\/(k'≠k1/\k'=k2/\y=some z):=by
 rw[aT]at h
 by_cases e:k'=k1
 ·rw[if_pos e]at h;exact .inl ⟨e,h⟩
 ·rw[if_neg e]at h;obtain⟨h1,h2⟩:=fu h;exact .inr ⟨e,h1,h2⟩
theorem mW{k1 k2:Nat}{x y:Option Blk}:lk [(k1,x),(k2,y)] k1=x:=by rw[aT,if_pos rfl]
theorem ns{k1 k2:Nat}{x y:Option Blk}(h:k1≠k2):lk [(k1,x),(k2,y)] k2=y:=by rw[aT,if_neg (fun e=>h e.symm),aT,if_pos rfl]
theorem FZ{k1 k2:Nat}(hne:k1≠k2){x y:Blk}{m:Nat->Option Nat}{b:Nat}:a8 [(k1,some x),(k2,some y)] m b↔m k1=some b\/m k2=some b:=by
 constructor
 ·rintro⟨k',z,hz,hb⟩;rcases mQ hz with⟨e,_⟩ |⟨_,e,_⟩
  ·exact .inl (e▸hb)
  ·exact .inr (e▸hb)
 ·rintro(h |h)
  ·exact⟨k1,x,mW,h⟩
  ·exact⟨k2,y,ns hne,h⟩
theorem Cr{k1 k2 d1 d2:Nat}(hk:k1≠k2)(hd:d1≠d2){x y x' y':Blk}{m m2:Nat->Option Nat}(h1:m2 d1=m k1)(h2:m2 d2=m k2):a8 [(d1,some x'),(d2,some y')] m2=a8 [(k1,some x),(k2,some y)] m:=by
 funext b;apply propext;rw[FZ hk,FZ hd,h1,h2]
theorem A7{ext:Nat->Prop}{k1 k2 d1 d2:Nat}(hk:k1≠k2)(hd:d1≠d2){x y x' y':Blk}{m m2:Nat->Option Nat}{w:World}(h1:m2 d1=m k1)(h2:m2 d2=m k2):Im ext [(d1,some x'),(d2,some y')] m2 w=Im ext [(k1,some x),(k2,some y)] m w:=by
 funext b cs;simp only[Im,Cr hk hd (x:=x) (y:=y) (x':=x') (y':=y') h1 h2]
theorem CT{ext:Nat->Prop}{k1 k2 d1 d2:Nat}(hk:k1≠k2)(hd:d1≠d2){x y:Blk}{m m2:Nat->Option Nat}{w:World}(hx:x.nm=[])(hy:y.nm=[])(h1:m2 d1=m k1)(h2:m2 d2=m k2)
  (hr:HeapRel ext [(k1,some x),(k2,some y)] m w):HeapRel ext [(d1,some x),(d2,some y)] m2 w:=by
 refine⟨?_,?_,?_⟩
 ·intro k' z hz;rw[A7 hk hd (x:=x) (y:=y) h1 h2];rcases mQ hz with⟨rfl,h9⟩ |⟨_,rfl,h9⟩
  ·cases h9;exact BlkRep.mono (w:=w) (fun _ _ h=>h) (fun _ _ h=>h) (fun _ _ hn=>(yD hx hn).elim) h1 (fun _ _=>rfl) (hr.blk k1 _ mW)
  ·cases h9;exact BlkRep.mono (w:=w) (fun _ _ h=>h) (fun _ _ h=>h) (fun _ _ hn=>(yD hy hn).elim) h2 (fun _ _=>rfl) (hr.blk k2 _ (ns hk))
 ·intro k k' z z' b hz hz' hb hb';rcases mQ hz with⟨rfl,_⟩ |⟨_,rfl,_⟩ <;> rcases mQ hz' with⟨rfl,_⟩ |⟨_,rfl,_⟩
  ·rfl
  ·exact absurd (hr.inj k1 k2 _ _ b mW (ns hk) (h1▸hb) (h2▸hb')) hk
  ·exact absurd (hr.inj k1 k2 _ _ b mW (ns hk) (h1▸hb') (h2▸hb)) hk
  ·rfl
 ·intro k' z b hz hb;rcases mQ hz with⟨rfl,h9⟩ |⟨_,rfl,h9⟩
  ·exact hr.sep k1 _ b mW (h1▸hb)
  ·exact hr.sep k2 _ b (ns hk) (h2▸hb)
theorem Con.rekeyBB{P:Program}{f:FuncId}{k1 k2 o1 o2:Nat}{x y x' y':Blk}{xs:List AV}{r:AV}(d1 d2:Nat)(hk:k1≠k2)(hd:d1≠d2)(hx:x.nm=[])(hy:y.nm=[])(hx':x'.nm=[])(hy':y'.nm=[])(hxs:(xs.all fun x=>x.nm.isEmpty)=true)(hr:r.nm=[])
  (h:Con P f (.ptr k1 o1 :: .ptr k2 o2::xs) [(k1,some x),(k2,some y)] r [(k1,some x'),(k2,some y')]):Con P f (.ptr d1 o1 :: .ptr d2 o2::xs) [(d1,some x),(d2,some y)] r [(d1,some x'),(d2,some y')]:=by
 refine⟨h.ok,?_⟩;intro ext m w vs hext hheap hvs hrep;obtain⟨m2,e1,e2⟩:∃m2:Nat->Option Nat,m2 k1=m d1/\m2 k2=m d2:=⟨fun k=>if k=k1 then m d1 else m d2,if_pos rfl,if_neg (fun e=>hk e.symm)⟩
 have h1 := h.ret ext m2 w vs hext (CT hd hk hx hy e1 e2 hheap) (by simpa using hvs) (by
  intro j v z hv hz;rw[A7 hd hk (x:=x) (y:=y) e1 e2]
  match j,hz with
  |0,hz =>
   cases hz;have h2:=hrep 0 v _ hv rfl;cases h2 with
   |ptr hm=>exact .ptr (e1.trans hm)
  |1,hz =>
   cases hz;have h2:=hrep 1 v _ hv rfl;cases h2 with
   |ptr hm=>exact .ptr (e2.trans hm)
  |j+2,hz =>
   have h2:=hrep (j+2) v z hv hz;refine iK ?_ h2;have:=List.all_eq_true.1 hxs z (mem_of_getElem? hz);simpa using this)
 refine Calls.mono h1 ?_;rintro e w' ⟨v,m',rfl,hf,hh,hn,hkp,hrr⟩;have ho:=Cr hd hk (x:=x) (y:=y) (x':=x) (y':=y) e1 e2;obtain⟨m3,f1,f2⟩:∃m3:Nat->Option Nat,m3 d1=m' k1/\m3 d2=m' k2:=⟨fun k=>if k=d1 then m' k1 else m' k2,if_pos rfl,if_neg (fun e=>hd e.symm)⟩
 refine⟨v,m3,rfl,ho▸hf,CT hk hd hx' hy' f1 f2 hh,?_,?_,?_⟩
 ·intro k' z b hz hb;rw[<- ho];rcases mQ hz with⟨rfl,_⟩ |⟨_,rfl,_⟩
  ·exact hn k1 _ b mW (f1▸hb)
  ·exact hn k2 _ b (ns hk) (f2▸hb)
 ·intro k' z z' hz hz';rcases mQ hz with⟨rfl,_⟩ |⟨_,rfl,_⟩
  ·rw[f1,<- e1];exact hkp k1 _ _ mW mW
  ·rw[f2,<- e2];exact hkp k2 _ _ (ns hk) (ns hk)
 ·rw[A7 hk hd (x:=x') (y:=y') f1 f2];exact iK hr hrr
end Go.Lw
namespace Go.Lw
open Go.Proofs
theorem Dw{l:Li}{body pt:Int}{n k:Nat}{bd:Bd}{m:Mk}(h:MkP l body pt n k bd m):qP (aS l body pt)=.agg [bl m.x.neg,ws m.x.num,ws m.x.den,bl m.y.neg,ws m.y.num,ws m.y.den]:=by
 rw[h.ex,h.ey]
theorem nv{p q:Rat×Rat}{e f:Nat}(hp:Sm e p)(hq:Sm f q)(he:e<=1000000)(hf:f<=1000000):FP 156 [qP p,qP q] (qP (co p q)):=by
 refine aj func156 ?_;refine gc (wT (hp.x.qs oz) (hq.x.qs oz)) ?_;refine gc (wT (hp.y.qs oz) (hq.y.qs oz)) ?_;refine gD ?_;refine af ?_
 first |rfl |(simp;done)
theorem C6{p q:Rat×Rat}{e f:Nat}(hp:Sm e p)(hq:Sm f q)(he:e<=1000000)(hf:f<=1000000):FP 261 [qP p,qP q] (qA (bX p q)):=by
 refine aj func261 ?_;refine gc (rN (hp.x.qs oz) (hq.x.qs oz)) ?_;refine gc (rN (hp.y.qs oz) (hq.y.qs oz)) ?_;refine gc (Ac ((hp.x.mul hq.x).qs oz) ((hp.y.mul hq.y).qs oz)) ?_;refine gD ?_;refine af ?_
 first |rfl |(simp;done)
theorem Jd{p q:Rat×Rat}{e f:Nat}(hp:Sm e p)(hq:Sm f q)(he:e<=1000000)(hf:f<=1000000):FP 178 [qP p,qP q] (qA (zP p q)):=by
 refine aj func178 ?_;refine gc (rN (hp.x.qs oz) (hq.y.qs oz)) ?_;refine gc (rN (hp.y.qs oz) (hq.x.qs oz)) ?_;refine gc (wT ((hp.x.mul hq.y).qs oz) ((hp.y.mul hq.x).qs oz)) ?_;refine gD ?_;refine af ?_
 first |rfl |(simp;done)
theorem xV{p:Rat×Rat}{e:Nat}(hp:Sm e p)(he:e<=1000000):FP 169 [qP p] (nA (sh 0 (bX p p:Rat))):=by
 refine aj func169 ?_;refine gc (C6 hp hp he he) ?_;refine gc (lY ((hp.dot hp).qs oz)) ?_;refine af ?_
 first |rfl |(simp;done)
theorem S0:FP 69 [] (nA (sh 0 ((1:Int):Rat))):=by
 refine aj func69 ?_;refine gc (kv 1 oz) ?_;refine gc (lY (tp oz)) ?_;refine af ?_
 first |rfl |(simp;done)
theorem mw{l:Li}(hl:l.ok)(hli:aD l=0)(g:Gr)(a:As){body pt:Int}(h1:bA body l.bo.length=true)(h2:bA pt (cJ l body).length=true) :
  Con prog 170 [.ptr 1000 0,i64 body,i64 pt] [(1000,some (cg l g a))] (qP (aS l body pt)) [(1000,some (cg l g a))]:=by
 obtain⟨n,k,bd,m,mp⟩:=qv hl hli h1 h2;rw[Dw mp];have hn:=mp.hn;have hk:=mp.hk;have hlb:=hl.lb;subst hn;subst hk;refine gF func170 (fun k z h=>bE h) ?_;refine gi (aA mp.gbd) ?_;refine gi (aA mp.gm) ?_;refine gR ?_;exact ay.keep (bq rfl)
theorem oM{E:Nat}{l:Li}(hl:l.ok)(hli:aD l=0)(g:Gr){a:As}(al:AB a)(hc:bD a.rs=0){body pt:Int}(h1:bA body l.bo.length=true)(h2:bA pt (cJ l body).length=true)(hE:E<=20000000000)(h3:(llq a.rs).length<=2)(hb:Pd E a body) :
  Con prog 91 [.ptr 1000 0,i64 body,i64 pt] [(1000,some (cg l g a))] (aM (sX (bf l a body pt).1) (sX (bf l a body pt).2)) [(1000,some (cg l g a))]:=by
 obtain⟨n,k,bd,m,b,hp⟩:=tM hl hli al hc h1 h2 hb;obtain⟨tw,hta⟩:=de al.tr hc
 have kb:kB 400000000 (llq a.rs).length<=1200000006:=by
  have h9:=ip 400000000 h3;have h8:eB 400000000 2=1200000006:=by decide
  show eB 400000000 _<=_;omega
 have hlm:lm (llq a.rs).length=200000000000:=by unfold lm;rw[if_pos h3]
 have hlb:=hl.lb;have hbl:=al.bl;have hmk:=mw hl hli g a h1 h2;show Con prog _ _ _ (aM (sh (llq a.rs).length (tL l a body pt).1) (sh (llq a.rs).length (tL l a body pt).2)) _;rw[hp.eq];have hn:=hp.mp.hn;rw[Dw hp.mp]at hmk
 have hat:FP 89 [dG a.rs,b.av,m.x.av,m.y.av] (.tup [aM (sh (llq a.rs).length (oL (llq a.rs) b m).1) (sh (llq a.rs).length (oL (llq a.rs) b m).2),.v .nilIface]):=by
  rw[hta,hp.av,hp.mp.ex,hp.mp.ey];have h9:=Bm tw (hp.ok.c.mono (f:=E+1000) oz) (hp.ok.s.mono oz) (hp.ok.x.mono oz) (hp.ok.y.mono oz) (hp.mp.sm.x.mono (f:=E+1000) oz) (hp.mp.sm.y.mono (f:=E+1000) oz) oz;unfold oL;rw[hp.mp.ex,hp.mp.ey,cf,cf];exact h9
 refine gF func91 (fun k z h=>bE h) ?_;refine gt (aG hmk (aK rfl rfl rfl) aH rfl rfl) ?_;refine gi (gh (n:=n) hn hp.gb) ?_;refine gc hat ?_;refine gD ?_;refine gC (fun t39=>?_) (fun t39=>?_) (st2:=(77777,0))
 ·refine gR ?_;exact ay.keep (bq rfl)
 cases t39
theorem rG{E:Nat}(hE:E<=20000000000){l:Li}(hl:l.ok)(hli:aD l=0)(g:Gr)(hg:GrOk l g){a:As}(al:AB a)(hc:bD a.rs=0){k:Nat}{z b:Int}{j:Jt}(hz:g.jo[k]?=some z)(hj:l.jo[z.toNat]?=some j)(h3:(llq a.rs).length<=2)(h:PinP E l a j b) :
  Con prog 150 [.ptr 1000 0,i64 k,i64 b] [(1000,some (cg l g a))] (.tup [qP (am l j b),aM (sX (aB l a j b).1) (sX (aB l a j b).2)]) [(1000,some (cg l g a))]:=by
 obtain⟨z0,z1⟩:=hg.j z (mem_of_getElem? hz);obtain⟨i1,i2,i3,i4,_⟩:=cU hli hj;have hgj:=hg.lj;have hlj:=hl.lj;refine gF func150 (fun k z h=>bE h) ?_;refine gi (aA hz) ?_;refine gi (gh (n:=z.toNat) oz hj) ?_;refine gD ?_;refine gC (fun t27=>?_) (fun t27=>?_)
 ·have e:j.a = b:=cP t27;have hb:Pd E a j.b:=by rcases h.tie with h9 | h9; exact h9.2; exact absurd e h9.1
  have eq1:am l j b=aS l b j.point:=if_pos e;have eq2:aB l a j b=bf l a j.b j.on:=if_pos e;rw[eq1,eq2];subst e;refine gt (aG (mw hl hli g a i1 i3) (aK rfl rfl rfl) aH rfl rfl) ?_;refine gt (aG (oM hl hli g al hc i2 i4 hE h3 hb) (aK rfl rfl rfl) aH rfl rfl) ?_;refine gD ?_;refine gR ?_;exact ay.keep (bq rfl)
 have e:j.a≠b:=dA t27;have e2:j.b=b/\Pd E a j.a:=by rcases h.tie with h9 |h9;exact absurd h9.1 e;exact h9.2
 have eq1:am l j b=aS l b j.on:=if_neg e;have eq2:aB l a j b=bf l a j.a j.point:=if_neg e;rw[eq1,eq2];obtain⟨e2,hb⟩:=e2;subst e2;refine gt (aG (mw hl hli g a i2 i4) (aK rfl rfl rfl) aH rfl rfl) ?_;refine gt (aG (oM hl hli g al hc i1 i3 hE h3 hb) (aK rfl rfl rfl) aH rfl rfl) ?_;refine gD ?_;refine gR ?_;exact ay.keep (bq rfl)
theorem Gp{l:Li}(hl:l.ok)(hli:aD l=0)(g:Gr)(hg:GrOk l g)(a:As){z b:Int}{j:Jt}(hz:g.jo[2]?=some z)(hj:l.jo[z.toNat]?=some j)(h:j.a=b\/j.b=b) :
  Con prog 166 [.ptr 1000 0,i64 b] [(1000,some (cg l g a))] (qP (am l j b)) [(1000,some (cg l g a))]:=by
 obtain⟨z0,z1⟩:=hg.j z (mem_of_getElem? hz);obtain⟨i1,i2,i3,i4,_⟩:=cU hli hj;have hgj:=hg.lj;have hlj:=hl.lj;have h2:=(List.getElem?_eq_some_iff.1 hz).1;refine gF func166 (fun k z h=>bE h) ?_;refine gi (aA hz) ?_;refine gi (gh (n:=z.toNat) oz hj) ?_;refine gD ?_;refine gC (fun t23=>?_) (fun t23=>?_)
 ·have e:j.a=b:=cP t23;have eq1:am l j b=aS l b j.point:=if_pos e;rw[eq1];subst e;refine gt (aG (mw hl hli g a i1 i3) (aK rfl rfl rfl) aH rfl rfl) ?_;refine gR ?_;exact ay.keep (bq rfl)
 have e:j.a≠b:=dA t23;have e2:j.b=b:=by rcases h with h9 |h9;exact absurd h9 e;exact h9
 have eq1:am l j b=aS l b j.on:=if_neg e;rw[eq1];subst e2;refine gt (aG (mw hl hli g a i2 i4) (aK rfl rfl rfl) aH rfl rfl) ?_;refine gR ?_;exact ay.keep (bq rfl)
theorem z7{l:Li}(hl:l.ok)(g:Gr)(hg:GrOk l g)(a:As){z:Int}{j:Jt}(hz:g.jo[1]?=some z)(hj:l.jo[z.toNat]?=some j) :
  Con prog 90 [.ptr 1000 0] [(1000,some (cg l g a))] j.av [(1000,some (cg l g a))]:=by
 obtain⟨z0,z1⟩:=hg.j z (mem_of_getElem? hz);have hgj:=hg.lj;have hlj:=hl.lj;have h2:=(List.getElem?_eq_some_iff.1 hz).1;refine gF func90 (fun k z h=>bE h) ?_;refine gi (aA hz) ?_;refine gi (gh (n:=z.toNat) oz hj) ?_;refine gD ?_;refine gR ?_;exact ay.keep (bq rfl)
abbrev Mf{ts:LL}(p:Rat×Rat)(at_:Et ts×Et ts)(c:Rat×Rat):List AV :=
  [bl (rt p.1).neg,ws (rt p.1).num,ws (rt p.1).den,bl (rt p.2).neg,ws (rt p.2).num,ws (rt p.2).den,nA (sX at_.1),nA (sX at_.2),bl (rt c.1).neg,ws (rt c.1).num,ws (rt c.1).den,bl (rt c.2).neg,ws (rt c.2).num,ws (rt c.2).den]
abbrev vc{ts:LL}(p:Rat×Rat)(at_:Et ts×Et ts)(c:Rat×Rat):AV:=.agg (Mf p at_ c)
abbrev Nc{ts:LL}(p:Rat×Rat)(at_:Et ts×Et ts)(c:Rat×Rat):AV:=.agg [nA (sX at_.1),nA (sX at_.2),nA (sh 0 (bt c p:Rat))]
theorem xI{ts:LL}{p c:Rat×Rat}(hp:Sm 1000 p)(hc:Sm 1000 c)(at_:Et ts×Et ts):FP 73 [vc p at_ c] (Nc p at_ c):=by
 refine aj func73 ?_;refine gc (nv hc hp oz oz) ?_;refine gc (xV (hc.sub hp) oz) ?_;refine gD ?_;refine af ?_
 first |rfl |(simp;done)
theorem DD{E:Nat}{l:Li}(hl:l.ok)(hli:aD l=0){a:As}(al:AB a)(hc:bD a.rs=0)(h3:(llq a.rs).length<=2){i k z0 z1 z2:Int}{j0 j1 j2:Jt}(hg:GrOk l ⟨1,[i,k],[z0,z1,z2],0⟩)
  (h0:l.jo[z0.toNat]?=some j0) (h1:l.jo[z1.toNat]?=some j1) (h2:l.jo[z2.toNat]?=some j2) (p0:PinP E l a j0 i) (p1:PinP E l a j1 k) (t1:j2.a=i\/j2.b=i) (t2:j2.a=k\/j2.b=k) (hE:E<=20000000000:=by omega) :
  Con prog 70 [.ptr 1000 0] [(1000,some (cg l ⟨1,[i,k],[z0,z1,z2],0⟩ a))] (.tup [vc (am l j0 i) (aB l a j0 i) (am l j2 i),vc (am l j1 k) (aB l a j1 k) (am l j2 k)]) [(1000,some (cg l ⟨1,[i,k],[z0,z1,z2],0⟩ a))]:=by
 refine gF func70 (fun k z h=>bE h) ?_;refine gi (rfl) ?_;refine gi (rfl) ?_;refine gD ?_;refine gt (aG (rG oz hl hli _ hg al hc (k:=0) rfl h0 h3 p0) (.cons (.tmp rfl) (.cons (.const _) (cA rfl))) aH rfl rfl) ?_;refine gt (aG (rG oz hl hli _ hg al hc (k:=1) rfl h1 h3 p1) (.cons (.tmp rfl) (.cons (.const _) (cA rfl))) aH rfl rfl) ?_;refine gt (aG (Gp hl hli _ hg a rfl h2 t1) (bC rfl rfl) aH rfl rfl) ?_;refine gt (aG (Gp hl hli _ hg a rfl h2 t2) (bC rfl rfl) aH rfl rfl) ?_;refine gD ?_;refine gR ?_;exact ay.keep (bq rfl)
theorem CD{E:Nat}{l:Li}(hl:l.ok)(hli:aD l=0){a:As}(al:AB a)(hc:bD a.rs=0)(h3:(llq a.rs).length<=2){i z0 z1:Int}{j0 j1:Jt}(hg:GrOk l ⟨2,[i],[z0,z1],0⟩)
  (h0:l.jo[z0.toNat]?=some j0) (h1:l.jo[z1.toNat]?=some j1) (p0:PinP E l a j0 i) (ha:j1.a=i) (hk:j1.kind≠0) (hb:Pd E a j1.b) (hE:E<=20000000000:=by omega) :
  Con prog 74 [.ptr 1000 0] [(1000,some (cg l ⟨2,[i],[z0,z1],0⟩ a))] (.tup [vc (am l j0 i) (aB l a j0 i) (aS l i j1.point),aM (sX (bf l a j1.b j1.on).1) (sX (bf l a j1.b j1.on).2),aM (sX (bf l a j1.b j1.to).1) (sX (bf l a j1.b j1.to).2)]) [(1000,some (cg l ⟨2,[i],[z0,z1],0⟩ a))]:=by
 obtain⟨i1,i2,i3,i4,i5⟩:=cU hli h1;rw[ha]at i1 i3;refine gF func74 (fun k z h=>bE h) ?_;refine gi (rfl) ?_;refine gt (aX (z7 hl _ hg a rfl h1) (cA rfl) rfl rfl rfl) ?_;refine gD ?_;refine gt (aG (rG oz hl hli _ hg al hc (k:=0) rfl h0 h3 p0) (.cons (.tmp rfl) (.cons (.const _) (cA rfl))) aH rfl rfl) ?_;refine gt (aG (mw hl hli _ a i1 i3) (aK rfl rfl rfl) aH rfl rfl) ?_;refine gt (aG (oM hl hli _ al hc i2 i4 oz h3 hb) (aK rfl rfl rfl) aH rfl rfl) ?_;refine gt (aG (oM hl hli _ al hc i2 (i5 hk) oz h3 hb) (aK rfl rfl rfl) aH rfl rfl) ?_;refine gD ?_;refine gR ?_;exact ay.keep (bq rfl)
structure Vr where
  w:List Rt
  x:List Rt
  y:List Rt
instance:Inhabited Vr:=⟨⟨[],[],[]⟩⟩
def Vr.av(v:Vr):AV:=.agg [nR v.w,nR v.x,nR v.y]
def Vr.l(v:Vr):List (List Rt):=[v.w,v.x,v.y]
abbrev dx(rs:List (List Rt)):Blk:=.box [.lst 1 (rs.map nR),.v .nilIface]
theorem oG(rs:List (List Rt))(a:List Rat):Con prog 71 [.ptr 1000 0,nA a,.v .nilIface] [(1000,some (dx rs))] (nA a) [(1000,some (dx rs))]:=by
 refine gF func71 (fun k z h=>bE h) ?_;refine gC (fun t11=>?_) (fun t11=>?_) (st2:=(77777,0))
 ·refine gR ?_;exact ay.keep (bq rfl)
 cases t11
theorem mb(rs:List (List Rt))(a b:List Rat):Con prog 75 [.ptr 1000 0,aM a b,.v .nilIface] [(1000,some (dx rs))] (aM a b) [(1000,some (dx rs))]:=by
 refine gF func75 (fun k z h=>bE h) ?_;refine gC (fun t11=>?_) (fun t11=>?_) (st2:=(77777,0))
 ·refine gR ?_;exact ay.keep (bq rfl)
 cases t11
section
variable{rs:List (List Rt)}{r u k:Nat}{a b:List Rat}{x y:Et (llq rs)}{w v w' v':Nat}
theorem D7 (h : TR rs r) (hc : bD rs = 0) [c0 : Ct (llq rs) u k] [ha : Zl (llq rs) u k a x w v] [hb : Zl (llq rs) u k b y w' v'] (hs : w + v + (w' + v') <= 10000 := by decide) :
  Con prog 79 [.ptr 1000 0,nA a,nA b] [(1000,some (dx rs))] (nA (sX (x*y))) [(1000,some (dx rs))]:=by
 have hx:=CF (ha:=ha) (hb:=hb) hs;rw[kZ h hc]at hx;refine gF func79 (fun k z h=>bE h) ?_;refine gc hx ?_;refine gt (aG (oG _ _) (aK rfl rfl rfl) aH rfl rfl) ?_;refine gR ?_;exact ay.keep (bq rfl)
theorem Uj (h : TR rs r) (hc : bD rs = 0) [c0 : Ct (llq rs) u k] [ha : Zl (llq rs) u k a x w v] [hb : Zl (llq rs) u k b y w' v'] (hs : w + v + (w' + v') <= 10000 := by decide) :
  Con prog 78 [.ptr 1000 0,nA a,nA b] [(1000,some (dx rs))] (nA (sX (x-y))) [(1000,some (dx rs))]:=by
 have hx:=CK (ha:=ha) (hb:=hb) hs;rw[kZ h hc]at hx;refine gF func78 (fun k z h=>bE h) ?_;refine gc hx ?_;refine gt (aG (oG _ _) (aK rfl rfl rfl) aH rfl rfl) ?_;refine gR ?_;exact ay.keep (bq rfl)
end
structure DyW(l:Li)(a:As):Prop where
  hl:l.ok
  li:aD l=0
  al:AB a
  hc:bD a.rs=0
structure DyR(l:Li)(a:As):Prop extends DyW l a where
  s:DyS a
theorem DyR.two{l:Li}{a:As}(D:DyR l a):(llq a.rs).length<=2:=le_trans (D.s.one D.hc) oz
theorem Bf{n:Nat}(hn:n<=1):kB 64990 n<=65000:=by
 have h1:=ip 64990 hn;have h2:eB 64990 1=64992:=by simp only[eB]
 show eB 64990 _<=_;omega
theorem n8{n:Nat}(h3:n<=2):kB 400000000 n<=1200000006:=by
 have h9:=ip 400000000 h3;have h8:eB 400000000 2=1200000006:=by decide
 show eB 400000000 _<=_;omega
abbrev sk(l:Li)(a:As)(i:Int)(j0 j:Jt):List AV :=
  qC (am l j0 i)++([nA (sX (aB l a j0 i).1),nA (sX (aB l a j0 i).2)]++(qC (cq l i j)++[nA (sh 0 (cc l i j0 j:Rat)),nA (sh 0 (gY l i j:Rat)),nA (sX (b7 l a i j0 j)),nA (sX (bS l a i j0 j).1),nA (sX (bS l a i j0 j).2)]))
theorem Ew{l:Li}{a:As}(D:DyR l a){n:Nat}{i:Int}{j0 j:Jt}(h0:l.jo[n]?=some j0)(p0:PinP 3900000 l a j0 i){m:Nat}(h1:l.jo[m]?=some j)(hb:Pd 3900000 a j.a) :
  Zu 310000 65000 (bS l a i j0 j).1 80 81/\Zu 310000 65000 (bS l a i j0 j).2 80 81:=by
 obtain⟨i1,i2,i3,i4,_⟩:=cU D.li h1;obtain⟨z1,z2⟩:=lT D.hl D.li D.al D.s D.hc h0 p0;obtain⟨y1,y2⟩:=nf D.hl D.li D.al D.s D.hc i1 i3 hb;haveI c:=D.s.ct D.hc;haveI:=z1;haveI:=z2;haveI:=y1;haveI:=y2
 exact⟨(inferInstance:Zu 310000 65000 ((bf l a j.a j.point).1-(aB l a j0 i).1) _ _),(inferInstance:Zu 310000 65000 ((bf l a j.a j.point).2-(aB l a j0 i).2) _ _)⟩
theorem HJ{E:Nat}(hE:E<=20000000000){l:Li}{a:As}(D:DyW l a)(h3:(llq a.rs).length<=2){i z0 z1:Int}{j0 j:Jt}(hg:GrOk l ⟨3,[i],[z0,z1],0⟩)
  (h0:l.jo[z0.toNat]?=some j0) (h1:l.jo[z1.toNat]?=some j) (p0:PinP E l a j0 i) (hi:j.b=i) (hk:j.kind≠0) (hb:Pd E a j.a)
  (hsub:FP 76 [.agg [.lst 1 (a.rs.map nR)],aM (sX (bf l a j.a j.point).1) (sX (bf l a j.a j.point).2),aM (sX (aB l a j0 i).1) (sX (aB l a j0 i).2)] (.tup [aM (sX (bS l a i j0 j).1) (sX (bS l a i j0 j).2),.v .nilIface]))
  (hdot:FP 80 [.agg [.lst 1 (a.rs.map nR)],aM (sX (bS l a i j0 j).1) (sX (bS l a i j0 j).2),aM (sX (bS l a i j0 j).1) (sX (bS l a i j0 j).2)] (.tup [nA (sX (b7 l a i j0 j)),.v .nilIface])) :
  Con prog 81 [.ptr 1000 0,.ptr 1001 0] [(1000,some (cg l ⟨3,[i],[z0,z1],0⟩ a)),(1001,some (dx a.rs))] (.agg (sk l a i j0 j)) [(1000,some (cg l ⟨3,[i],[z0,z1],0⟩ a)),(1001,some (dx a.rs))]:=by
 obtain⟨i1,i2,i3,i4,i5⟩:=cU D.li h1;have hs0:Sm 1000 (am l j0 i):=gj D.hl D.li h0 (by rcases p0.tie with h9 |h9;exact .inl h9.1;exact .inr h9.2.1);subst hi;have hs1:=jP D.hl D.li i2 i4;have hs2:=jP D.hl D.li i2 (i5 hk);have hv:=hs2.sub hs1;refine gF func81 (fun k z h=>VO h) ?_;refine gi (rfl) ?_;refine gt (aX (z7 D.hl _ hg a rfl h1) (cA rfl) rfl rfl rfl) ?_;refine gD ?_;refine gt (aG (rG hE D.hl D.li _ hg D.al D.hc (k:=0) rfl h0 h3 p0) (.cons (.tmp rfl) (.cons (.const _) (cA rfl))) aH rfl rfl) ?_;refine gt (aX (mw D.hl D.li _ a i2 i4) (aK rfl rfl rfl) rfl rfl rfl) ?_;refine gt (aX (mw D.hl D.li _ a i2 (i5 hk)) (aK rfl rfl rfl) rfl rfl rfl) ?_;refine gc (nv hs2 hs1 oz oz) ?_;refine gD ?_;refine gc (nv hs1 hs0 oz oz) ?_;refine gc (Jd hv (hs1.sub hs0) oz oz) ?_;refine gc (lY ((hv.cross (hs1.sub hs0)).qs oz)) ?_;refine gc (xV hv oz) ?_;refine gD ?_;refine gt (aG (oM D.hl D.li _ D.al D.hc i1 i3 hE h3 hb) (aK rfl rfl rfl) aH rfl rfl) ?_;refine gC (fun t63=>?_) (fun t63=>?_) (st2:=(77777,0))
 ·refine gc hsub ?_;refine gt (aG (Con.rB 1001 rfl rfl rfl rfl (mb _ _ _)) (aK rfl rfl rfl) aH rfl rfl) ?_;refine gD ?_;refine gc hdot ?_;refine gt (aG (Con.rB 1001 rfl rfl rfl rfl (oG _ _)) (aK rfl rfl rfl) aH rfl rfl) ?_;refine gD ?_;refine gR ?_;exact ay.keep (lL rfl rfl)
 cases t63
theorem KY{l:Li}{a:As}(D:DyR l a){i z0 z1:Int}{j0 j:Jt}(hg:GrOk l ⟨3,[i],[z0,z1],0⟩)
  (h0:l.jo[z0.toNat]?=some j0) (h1:l.jo[z1.toNat]?=some j) (p0:PinP 3900000 l a j0 i) (hi:j.b=i) (hk:j.kind≠0) (hb:Pd 3900000 a j.a) :
  Con prog 81 [.ptr 1000 0,.ptr 1001 0] [(1000,some (cg l ⟨3,[i],[z0,z1],0⟩ a)),(1001,some (dx a.rs))] (.agg (sk l a i j0 j)) [(1000,some (cg l ⟨3,[i],[z0,z1],0⟩ a)),(1001,some (dx a.rs))]:=by
 obtain⟨i1,i2,i3,i4,i5⟩:=cU D.li h1;obtain⟨z1',z2'⟩:=lT D.hl D.li D.al D.s D.hc h0 p0;obtain⟨y1,y2⟩:=nf D.hl D.li D.al D.s D.hc i1 i3 hb;obtain⟨w1,w2⟩:=Ew D h0 p0 h1 hb;haveI c:=D.s.ct D.hc;haveI:=z1';haveI:=z2';haveI:=y1;haveI:=y2;haveI:=w1;haveI:=w2
 have hsub:=LD (ts:=llq a.rs) (u:=310000) (k:=65000) (a:=sX (bf l a j.a j.point).1) (b:=sX (bf l a j.a j.point).2) (a2:=sX (aB l a j0 i).1) (b2:=sX (aB l a j0 i).2);have hdot:=RL (ts:=llq a.rs) (u:=310000) (k:=65000) (a:=sX (bS l a i j0 j).1) (b:=sX (bS l a i j0 j).2) (a2:=sX (bS l a i j0 j).1) (b2:=sX (bS l a i j0 j).2);rw[kZ D.s.tr D.hc]at hsub hdot;exact HJ oz D.toDyW D.two hg h0 h1 p0 hi hk hb hsub hdot
theorem Td{l:Li}{a:As}(D:DyR l a){i:Int}{j0 j:Jt}{w v:Nat}[z1:Zl (llq a.rs) 310000 65000 (sh 0 (cc l i j0 j:Rat)) (qE (cc l i j0 j)) 3 0][z2:Zl (llq a.rs) 310000 65000 (sh 0 (gY l i j:Rat)) (qE (gY l i j)) 3 0][z3:Zu 310000 65000 (b7 l a i j0 j) w v](hw:w+v<=2000) :
  Con prog 82 [.agg (sk l a i j0 j),.ptr 1001 0] [(1001,some (dx a.rs))] (nA (sX (qE (gY l i j)*b7 l a i j0 j-qE (cc l i j0 j)*qE (cc l i j0 j)))) [(1001,some (dx a.rs))]:=by
 haveI c:=D.s.ct D.hc;haveI:=z1.zu;haveI:=z2.zu
 have m1:=D7 (a:=sh 0 (gY l i j:Rat)) (b:=sX (b7 l a i j0 j)) D.s.tr D.hc oz;have m2:=D7 (a:=sh 0 (cc l i j0 j:Rat)) (b:=sh 0 (cc l i j0 j:Rat)) D.s.tr D.hc oz;have m3:=Uj (a:=sX (qE (gY l i j)*b7 l a i j0 j)) (b:=sX (qE (cc l i j0 j)*qE (cc l i j0 j):Et (llq a.rs))) D.s.tr D.hc oz;refine gF func82 (fun k z h=>by have:=(fu h).1;omega) ?_;refine gt (aG (Con.rB 1001 rfl rfl rfl rfl m1) (aK rfl rfl rfl) aH rfl rfl) ?_;refine gt (aG (Con.rB 1001 rfl rfl rfl rfl m2) (aK rfl rfl rfl) aH rfl rfl) ?_;refine gt (aG (Con.rB 1001 rfl rfl rfl rfl m3) (aK rfl rfl rfl) aH rfl rfl) ?_;refine gD ?_;refine gR ?_;exact ay.keep (bq rfl)
abbrev Ci:Type:=List Rat×List Rat×List Rat
abbrev EM(c:Ci):AV:=.agg [nA c.1,nA c.2.1,nA c.2.2]
structure CiZ(rs:List (List Rt))(c:Ci):Prop where
  x:Nm (llq rs).length 2500000000 c.1
  y:Nm (llq rs).length 2500000000 c.2.1
  r:Nm (llq rs).length 2500000000 c.2.2
  sg:0<=an (dE (llq rs) c.2.2)
theorem Vq{ts:LL}(p q:Et ts×Et ts):dotE (q.1-p.1) (q.2-p.2) (q.1-p.1) (q.2-p.2)=az p q:=by
 unfold az dU aQ dotE;dsimp only;grind
theorem FS{ts:LL}(c:Ct ts 310000 65000){x y x2 y2:Et ts}(h1:Zu 310000 65000 x 40 40)(h2:Zu 310000 65000 y 40 40)(h3:Zu 310000 65000 x2 40 40)(h4:Zu 310000 65000 y2 40 40):Zu 310000 65000 (az (x,y) (x2,y2)) 320 327:=by
 haveI:=c;haveI:=h1;haveI:=h2;haveI:=h3;haveI:=h4
 exact(inferInstance:Zu 310000 65000 (dotE (x-x2) (y-y2) (x-x2) (y-y2)) _ _)
section
variable{rs:List (List Rt)}{r:Nat}{a b c a2 b2 c2:List Rat}
theorem Ii(h:TR rs r)(hc:bD rs=0){e:Nat}(ha:Nm (llq rs).length e a)(hb:Nm (llq rs).length e b)(he:e<=lm (llq rs).length):FP 273 [dG rs,aM a b] (.v .nilIface):=by
 obtain⟨tw,etw⟩:=de h hc;have hca:=nZ tw [(a,b)] (fun p hp=>by rw[List.mem_singleton.1 hp];exact⟨ha,hb⟩) he (by show 1<=500;omega);rw[<- etw]at hca;refine aj func273 ?_;refine gc hca ?_;refine af ?_;rfl
theorem E6(h:TR rs r)(hc:bD rs=0){e:Nat}(ha:Nm (llq rs).length e a)(hb:Nm (llq rs).length e b)(hn:Nm (llq rs).length e c)(he:e+1<=lm (llq rs).length):FP 272 [dG rs,.agg [nA a,nA b,nA c]] (.v .nilIface):=by
 obtain⟨tw,etw⟩:=de h hc;have hneg:=yX tw hn oz;rw[<- etw]at hneg;refine aj func272 ?_;refine gc (Ii h hc ha hb oz) ?_;refine gC (fun t13=>?_) (fun t13=>?_) (st1:=(3,0));cases t13;refine gc hneg ?_;refine af ?_;rfl
theorem FW(h:TR rs r)(hc:bD rs=0)(cs:List Ci)(hz:∀c∈cs,CiZ rs c)(hl:cs.length<=100):FP 274 [dG rs,.lst 3 (cs.map EM)] (.v .nilIface):=by
 obtain⟨tw,etw⟩:=de h hc;have hlm:=ki (llq rs).length;refine aj func274 ?_;refine gl ?_;refine aU [2,9,10] [2] (fun(i:Nat)=>[(11,some (i64 i))]) (fun _=>[]) (fun i=>i<=cs.length) (fun i=>cs.length-i) 0 (zero_le _) ?_;rintro i hi K1 J1;refine gC (fun t12=>?_) (fun t12=>?_)
 ·have hin:=a5 t12;obtain⟨z,hzi⟩:=aw hin;have hz9:=hz z (mem_of_getElem? hzi);have hs:=wP tw hz9.r oz;rw[<- etw]at hs;refine gi (aA hzi) ?_;refine gc hs ?_;refine gC (fun t23=>?_) (fun t23=>?_) (st1:=(6,0));cases t23;refine gC (fun t26=>?_) (fun t26=>?_) (st1:=(8,0));exact absurd t26 (by have h9:=hz9.sg;unfold an dE at h9;simp only[aa,decide_eq_true_eq];omega);refine ga aN ?_;exact aP J1 (i+1) hin
 refine af ?_;rfl
theorem Pr(h:TR rs r)(hc:bD rs=0)(cs:List Ci)(hz:∀c∈cs,CiZ rs c)(hl:cs.length<=100):FP 167 [dG rs,.lst 3 (cs.map EM)] (.v .nilIface):=by
 have hlm:=ki (llq rs).length;have hck:=qT rs r h;rw[hc]at hck;refine aj func167 ?_;refine gc hck ?_;refine gC (fun t12=>?_) (fun t12=>?_) (st1:=(3,0));cases t12;refine gl ?_;refine aU [1,2,14,15] [2] (fun(i:Nat)=>[(16,some (i64 i))]) (fun _=>[]) (fun i=>i<=cs.length) (fun i=>cs.length-i) 0 (zero_le _) ?_;rintro i hi K1 J1;refine gC (fun t17=>?_) (fun t17=>?_)
 ·have hin:=a5 t17;obtain⟨z,hzi⟩:=aw hin;have hz9:=hz z (mem_of_getElem? hzi);refine gi (aA hzi) ?_;refine gc (E6 h hc hz9.x hz9.y hz9.r oz) ?_;refine gC (fun t24=>?_) (fun t24=>?_) (st1:=(9,0));cases t24;refine ga aN ?_;exact aP J1 (i+1) hin
 refine gc (FW h hc cs hz hl) ?_;refine af ?_;rfl
theorem KB(h:TR rs r)(hc:bD rs=0){x y x2 y2:Et (llq rs)}[c0:Ct (llq rs) 310000 65000][i1:Zl (llq rs) 310000 65000 a x 40 40][i2:Zl (llq rs) 310000 65000 b y 40 40][i4:Zl (llq rs) 310000 65000 a2 x2 40 40][i5:Zl (llq rs) 310000 65000 b2 y2 40 40] :
  FP 282 [dG rs,aM a b,aM a2 b2] (.tup [nA (sX (az (x,y) (x2,y2))),.v .nilIface]):=by
 obtain⟨_,etw⟩:=de h hc;obtain⟨R,tw,hk⟩:=c0.ex;have kk:=c0.kk hk;obtain⟨K,hK⟩:∃K,40*310000+40*65000=K:=⟨_,rfl⟩
 have hlm:=ki (llq rs).length;have n1:=i1.nm;have n2:=i2.nm;have n4:=i4.nm;have n5:=i5.nm
 have hca:=nZ tw [(a,b),(a2,b2)] (e:=40*310000+40*65000) (fun p hp=>by
  simp only[mem_cons,not_mem_nil,or_false]at hp;rcases hp with rfl |rfl
  ·exact⟨n1,n2⟩
  ·exact⟨n4,n5⟩) oz (by show 2<=500;omega)
 rw[<- etw]at hca;have hle:=uK tw n4 n5 n1 n2 oz;have m1:=n4.sub n1;have m2:=n5.sub n2;have hdo:=G3 tw m1 m2 m1 m2 oz;rw[i1.eq,i2.eq,i4.eq,i5.eq]at hle;rw[i1.eq,i2.eq,i4.eq,i5.eq,bn,bn]at hdo;have hd2:=Vq (x,y) (x2,y2);refine aj func282 ?_;refine gc hca ?_;refine gC (fun t17=>?_) (fun t17=>?_) (st1:=(3,0)) (st2:=(5,0));cases t17;refine gW (Wk.of (sl:=[(4,some (.ptr 4 0)),(5,some (.ptr 5 0)),(9,some (.ptr 21 0))]) (hp:=[(4,some (.box [nA a,nA b])),(5,some (.box [nA a2,nA b2])),(21,some (.box [.lst 1 ((llq rs).map nA),.v .nilIface]))]) a7 (.k (.k (.cons rfl (BlkSub.bL (.cons (.of (mS etw)) (.cons (.refl _) .nil)) rfl) .nil)))) ?_;refine gt (aG (Con.rB 21 rfl rfl rfl rfl hle) (aK rfl rfl rfl) aH rfl rfl) ?_;refine gt (aG (Con.rB 21 rfl rfl rfl rfl hdo) (aK rfl rfl rfl) aH rfl rfl) ?_;refine gt (aG (Con.rB 21 rfl rfl rfl rfl (A8 _ _)) (bC rfl rfl) aH rfl rfl) ?_;refine bF ?_;rw[<- hd2];rfl
theorem tP(rs:List (List Rt))(a:List Rat):Con prog 275 [.ptr 1000 0,nA a,.v .nilIface] [(1000,some (dx rs))] (nA a) [(1000,some (dx rs))]:=by
 refine gF func275 (fun k z h=>bE h) ?_;refine gC (fun t11=>?_) (fun t11=>?_) (st2:=(77777,0))
 ·refine gR ?_;exact ay.keep (bq rfl)
 cases t11
end
section
variable{rs:List (List Rt)}{r u k:Nat}{a b:List Rat}{x y:Et (llq rs)}{w v w' v':Nat}
theorem Nu (h : TR rs r) (hc : bD rs = 0) [c0 : Ct (llq rs) u k] [ha : Zl (llq rs) u k a x w v] [hb : Zl (llq rs) u k b y w' v'] (hs : w + v + (w' + v') <= 10000 := by decide) :
  Con prog 270 [.ptr 1000 0,nA a,nA b] [(1000,some (dx rs))] (nA (sX (x+y))) [(1000,some (dx rs))]:=by
 have hx:=JP (ha:=ha) (hb:=hb) hs;rw[kZ h hc]at hx;refine gF func270 (fun k z h=>bE h) ?_;refine gc hx ?_;refine gt (aG (tP _ _) (aK rfl rfl rfl) aH rfl rfl) ?_;refine gR ?_;exact ay.keep (bq rfl)
theorem Hb (h : TR rs r) (hc : bD rs = 0) [c0 : Ct (llq rs) u k] [ha : Zl (llq rs) u k a x w v] [hb : Zl (llq rs) u k b y w' v'] (hs : w + v + (w' + v') <= 10000 := by decide) :
  Con prog 266 [.ptr 1000 0,nA a,nA b] [(1000,some (dx rs))] (nA (sX (x-y))) [(1000,some (dx rs))]:=by
 have hx:=CK (ha:=ha) (hb:=hb) hs;rw[kZ h hc]at hx;refine gF func266 (fun k z h=>bE h) ?_;refine gc hx ?_;refine gt (aG (tP _ _) (aK rfl rfl rfl) aH rfl rfl) ?_;refine gR ?_;exact ay.keep (bq rfl)
theorem xE (h : TR rs r) (hc : bD rs = 0) [c0 : Ct (llq rs) u k] [ha : Zl (llq rs) u k a x w v] [hb : Zl (llq rs) u k b y w' v'] (hs : w + v + (w' + v') <= 10000 := by decide) :
  Con prog 276 [.ptr 1000 0,nA a,nA b] [(1000,some (dx rs))] (nA (sX (x*y))) [(1000,some (dx rs))]:=by
 have hx:=CF (ha:=ha) (hb:=hb) hs;rw[kZ h hc]at hx;refine gF func276 (fun k z h=>bE h) ?_;refine gc hx ?_;refine gt (aG (tP _ _) (aK rfl rfl rfl) aH rfl rfl) ?_;refine gR ?_;exact ay.keep (bq rfl)
theorem NX (h : TR rs r) (hc : bD rs = 0) [c0 : Ct (llq rs) u k] (n : Int) (hn : -9223372036854775808 <= n /\ n <= 9223372036854775807) [hq : Qz u (n : Rat) w'] [ha : Zl (llq rs) u k a x w v] (hs : w' + 0 + (w + v) <= 10000 := by decide) :
  Con prog 267 [.ptr 1000 0,i64 n,nA a] [(1000,some (dx rs))] (nA (sX (qE (n:Rat)*x))) [(1000,some (dx rs))]:=by
 have hm:=xE (a:=sh 0 ((n:Rat):Rat)) (b:=a) h hc hs;refine gF func267 (fun k z h=>bE h) ?_;refine gc (kv n hn) ?_;refine gc (lY (tp hn)) ?_;refine gt (aG hm (aK rfl rfl rfl) aH rfl rfl) ?_;refine gR ?_;exact ay.keep (bq rfl)
end
section
variable{rs:List (List Rt)}{r:Nat}{a b c a2 b2 c2:List Rat}{x y z x2 y2 z2:Et (llq rs)}
theorem QQ(h:TR rs r)(hc:bD rs=0)[c0:Ct (llq rs) 310000 65000][i1:Zl (llq rs) 310000 65000 a x 40 40][i2:Zl (llq rs) 310000 65000 b y 40 40][i3:Zl (llq rs) 310000 65000 c z 3 0][i4:Zl (llq rs) 310000 65000 a2 x2 40 40][i5:Zl (llq rs) 310000 65000 b2 y2 40 40][i6:Zl (llq rs) 310000 65000 c2 z2 3 0] :
  Con prog 168 [.ptr 1000 0,.agg [nA a,nA b,nA c],.agg [nA a2,nA b2,nA c2]] [(1000,some (dx rs))] (.tup [nA (sX (bc (x,y) z (x2,y2) z2)),nA (sX (az (x,y) (x2,y2)))]) [(1000,some (dx rs))]:=by
 have hd:=KB (a:=a) (b:=b) (a2:=a2) (b2:=b2) h hc;haveI:=i3.zu;haveI:=i6.zu;haveI zd:=FS c0 i1.zu i2.zu i4.zu i5.zu;haveI q4:Qz 310000 ((4:Int):Rat) 1:=Qz.int (c:=Ct.cx (c:=c0)) (by decide);have m1:=Nu (a:=c) (b:=sX (az (x,y) (x2,y2))) h hc (by decide);have m2:=Hb (a:=sX (z+az (x,y) (x2,y2))) (b:=c2) h hc (by decide);have m3:=xE (a:=c) (b:=sX (az (x,y) (x2,y2))) h hc (by decide);have m4:=NX (a:=sX (z*az (x,y) (x2,y2))) h hc 4 oz (by decide);have m5:=xE (a:=sX (z+az (x,y) (x2,y2)-z2)) (b:=sX (z+az (x,y) (x2,y2)-z2)) h hc (by decide);have m6:=Hb (a:=sX (qE ((4:Int):Rat)*(z*az (x,y) (x2,y2)))) (b:=sX ((z+az (x,y) (x2,y2)-z2)*(z+az (x,y) (x2,y2)-z2))) h hc (by decide);refine gF func168 (fun k z h=>bE h) ?_;refine gc hd ?_;refine gt (aX (tP _ _) (aK rfl rfl rfl) rfl rfl rfl) ?_;refine gD ?_;refine gt (aX m1 (aK rfl rfl rfl) rfl rfl rfl) ?_;refine gt (aX m2 (aK rfl rfl rfl) rfl rfl rfl) ?_;refine gD ?_;refine gt (aX m3 (aK rfl rfl rfl) rfl rfl rfl) ?_;refine gt (aX m4 (.cons (.tmp rfl) (.cons (.const _) (cA rfl))) rfl rfl rfl) ?_;refine gt (aX m5 (aK rfl rfl rfl) rfl rfl rfl) ?_;refine gt (aX m6 (aK rfl rfl rfl) rfl rfl rfl) ?_;refine gR ?_;exact ay.keep (bq rfl)
end
class Cy(ts:LL)(u k:outParam Nat):Prop where
  ex:∃R,Tw ts R/\eB R ts.length<=k
  k1:1<=k
  u3:3<=u
  two:ts.length<=2
instance Cy.cx{ts:LL}{u k:Nat}[c:Cy ts u k]:Cx (ax ts) ts.length u k:=by
  obtain⟨R,tw,h⟩:=c.ex;exact⟨⟨R,Ek tw▸tw,h⟩,c.k1,c.u3⟩
theorem Cy.zq{ts:LL}{u k:Nat}[c:Cy ts u k]{q:Rat}{w:Nat}[h:Qz u q w]:Zl ts u k (sh 0 (q:Rat)) (qE q:Et ts) w 0:=⟨gE _ q,by
 obtain⟨R,tw,_⟩:=c.ex;exact(Nm.ofQ tw.five h.cb).eq oz⟩
theorem Cy.lm{ts:LL}{u k:Nat}(c:Cy ts u k):lm ts.length=200000000000:=by unfold Go.Lw.lm;rw[if_pos c.two]
def iE{ts:LL}(y:Et ts):Et ts:=T.inv (ax ts) ts.length y
abbrev bg(ts:LL):Blk:=.box [.lst 1 (ts.map nA),.v .nilIface]
theorem Aw(ts:LL):dx (ts.map (List.map rt))=bg ts:=by
 have h:=jV ts;unfold dG aV at h;have h1:=AV.agg.inj h
 injection h1 with h2
 show Blk.box [.lst 1 ((ts.map (List.map rt)).map nR),.v .nilIface]=_;rw[h2]
section
variable{ts:LL}{u k:Nat}{a b:List Rat}{x y:Et ts}{w v w' v':Nat}
theorem S6[c:Cy ts u k][ha:Zl ts u k a x w v][hb:Zl ts u k b y w' v'](hs:w*u+v*k+(w'*u+v'*k)<200000000000):FP 356 [aV ts,nA a,nA b] (.tup [nA (sX (x+y)),.v .nilIface]):=by
 obtain⟨R,tw,hk⟩:=c.ex;have h1:=Ak tw ha.nm hb.nm (by rw[c.lm];omega);rw[ha.eq,hb.eq]at h1;exact h1
theorem M5[c:Cy ts u k][ha:Zl ts u k a x w v][hb:Zl ts u k b y w' v'](hs:w*u+v*k+(w'*u+v'*k)<200000000000):FP 176 [aV ts,nA a,nA b] (.tup [nA (sX (x-y)),.v .nilIface]):=by
 obtain⟨R,tw,hk⟩:=c.ex;have h1:=od tw ha.nm hb.nm (by rw[c.lm];omega);rw[ha.eq,hb.eq]at h1;exact h1
theorem Mi[c:Cy ts u k][ha:Zl ts u k a x w v][hb:Zl ts u k b y w' v'](hs:w*u+v*k+(w'*u+v'*k)<200000000000):FP 127 [aV ts,nA a,nA b] (.tup [nA (sX (x*y)),.v .nilIface]):=by
 obtain⟨R,tw,hk⟩:=c.ex;have h1:=yV tw ha.nm hb.nm (by rw[c.lm];omega);rw[ha.eq,hb.eq]at h1;exact h1
theorem Fa[c:Cy ts u k][ha:Zl ts u k a x w v](hs:w*u+v*k<200000000000):FP 147 [aV ts,nA a] (.tup [nA (sX (-x)),.v .nilIface]):=by
 obtain⟨R,tw,hk⟩:=c.ex;have h1:=yX tw ha.nm (by rw[c.lm];omega);rw[ha.eq]at h1;exact h1
theorem Hk[c:Cy ts u k][ha:Zl ts u k a x w v](hs:w*u+v*k<200000000000):FP 116 [aV ts,nA a] (.tup [i64 (an x),.v .nilIface]):=by
 obtain⟨R,tw,hk⟩:=c.ex;have h1:=wP tw ha.nm (by rw[c.lm];omega);rw[ha.eq]at h1;exact h1
theorem TC{j m:Nat}[c:Cy ts u k][ha:Zl ts u k a x w v][hb:Zl ts u k b y w' v'](nb:Nl j b)(hj:j<=ts.length)(h0:an y≠0)(hm:∀R,eB R ts.length<=k->iB R j (w'*u+v'*k)<=m)(hf:w'*u+v'*k<200000000000)(hs:w*u+v*k+m+k<=200000000000) :
  FP 281 [aV ts,nA a,nA b] (.tup [nA (sX (x*iE y)),.v .nilIface])/\Nm ts.length (w*u+v*k+m+k) (sX (x*iE y)):=by
 obtain⟨R,tw,hk⟩:=c.ex;have hi:=hm R hk;have he:=hb.eq;have h1:T.sgn (ax ts) ts.length (ae ts.length b)≠0:=by rw[he];exact h0
 have hd:=Aj tw ha.nm hb.nm hj nb h1 (by rw[c.lm];omega) oz;have hn:=z6 tw ha.nm hb.nm hj nb h1 (by rw[c.lm];omega) oz;rw[ha.eq,he]at hd hn;exact⟨hd,hn.mono oz⟩
theorem qd{j:Nat}[c:Cy ts u k][ha:Zl ts u k a x w v][hb:Zl ts u k b y w' v'](nb:Nl j b)(hj:j<=ts.length)(hj1:j<=1)(h0:an y≠0)(hs:(w+5*w')*u+(v+5*v'+3)*k<=200000000000) :
  FP 281 [aV ts,nA a,nA b] (.tup [nA (sX (x*iE y)),.v .nilIface])/\Zu u k (x*iE y) (w+5*w') (v+5*v'+3):=by
 have e:(w+5*w')*u+(v+5*v'+3)*k=w*u+v*k+(5*(w'*u+v'*k)+2*k)+k:=by
  simp only[Nat.add_mul,Nat.mul_add,Nat.mul_assoc];omega
 rw[e]at hs
 have h:=TC (a:=a) (b:=b) (m:=5*(w'*u+v'*k)+2*k) nb hj h0 (fun R hR=>by
  have h2:=KK R (w'*u+v'*k) hj1;have h3:=ip R hj;omega) oz hs
 exact⟨h.1,⟨h.2.eq e.symm⟩⟩
theorem nE(ts:LL)(a:List Rat):Con prog 275 [.ptr 1000 0,nA a,.v .nilIface] [(1000,some (bg ts))] (nA a) [(1000,some (bg ts))]:=by
 have h:=tP (ts.map (List.map rt)) a;rw[Aw]at h;exact h
theorem p6(ts:LL)(a:List Rat):Con prog 71 [.ptr 1000 0,nA a,.v .nilIface] [(1000,some (bg ts))] (nA a) [(1000,some (bg ts))]:=by
 have h:=oG (ts.map (List.map rt)) a;rw[Aw]at h;exact h
theorem j6[c:Cy ts u k][ha:Zl ts u k a x w v][hb:Zl ts u k b y w' v'](hs:w*u+v*k+(w'*u+v'*k)<200000000000) :
  Con prog 270 [.ptr 1000 0,nA a,nA b] [(1000,some (bg ts))] (nA (sX (x+y))) [(1000,some (bg ts))]:=by
 refine gF func270 (fun k z h=>bE h) ?_;refine gc (S6 hs) ?_;refine gt (aG (nE _ _) (aK rfl rfl rfl) aH rfl rfl) ?_;refine gR ?_;exact ay.keep (bq rfl)
theorem lw[c:Cy ts u k][ha:Zl ts u k a x w v][hb:Zl ts u k b y w' v'](hs:w*u+v*k+(w'*u+v'*k)<200000000000) :
  Con prog 266 [.ptr 1000 0,nA a,nA b] [(1000,some (bg ts))] (nA (sX (x-y))) [(1000,some (bg ts))]:=by
 refine gF func266 (fun k z h=>bE h) ?_;refine gc (M5 hs) ?_;refine gt (aG (nE _ _) (aK rfl rfl rfl) aH rfl rfl) ?_;refine gR ?_;exact ay.keep (bq rfl)
theorem jk[c:Cy ts u k][ha:Zl ts u k a x w v][hb:Zl ts u k b y w' v'](hs:w*u+v*k+(w'*u+v'*k)<200000000000) :
  Con prog 276 [.ptr 1000 0,nA a,nA b] [(1000,some (bg ts))] (nA (sX (x*y))) [(1000,some (bg ts))]:=by
 refine gF func276 (fun k z h=>bE h) ?_;refine gc (Mi hs) ?_;refine gt (aG (nE _ _) (aK rfl rfl rfl) aH rfl rfl) ?_;refine gR ?_;exact ay.keep (bq rfl)
theorem ri{q:List Rat}(hd:FP 281 [aV ts,nA a,nA b] (.tup [nA q,.v .nilIface])) :
  Con prog 269 [.ptr 1000 0,nA a,nA b] [(1000,some (bg ts))] (nA q) [(1000,some (bg ts))]:=by
 refine gF func269 (fun k z h=>bE h) ?_;refine gc hd ?_;refine gt (aG (nE _ _) (aK rfl rfl rfl) aH rfl rfl) ?_;refine gR ?_;exact ay.keep (bq rfl)
theorem qu[c:Cy ts u k][ha:Zl ts u k a x w v](hs:w*u+v*k<200000000000) :
  Con prog 263 [.ptr 1000 0,nA a] [(1000,some (bg ts))] (i64 (an x)) [(1000,some (bg ts))]:=by
 refine gF func263 (fun k z h=>bE h) ?_;refine gC (fun t11=>?_) (fun t11=>?_) (st1:=(2,0));cases t11;refine gc (Hk hs) ?_;refine gR ?_;exact ay.keep (bq rfl)
theorem ua{q:List Rat}(hd:FP 281 [aV ts,nA a,nA b] (.tup [nA q,.v .nilIface])) :
  Con prog 163 [.ptr 1000 0,nA a,nA b] [(1000,some (bg ts))] (nA q) [(1000,some (bg ts))]:=by
 refine gF func163 (fun k z h=>bE h) ?_;refine gc hd ?_;refine gt (aG (p6 _ _) (aK rfl rfl rfl) aH rfl rfl) ?_;refine gR ?_;exact ay.keep (bq rfl)
theorem Bp[c:Cy ts u k][ha:Zl ts u k a x w v](hs:w*u+v*k<200000000000) :
  Con prog 160 [.ptr 1000 0,nA a] [(1000,some (bg ts))] (i64 (an x)) [(1000,some (bg ts))]:=by
 refine gF func160 (fun k z h=>bE h) ?_;refine gC (fun t11=>?_) (fun t11=>?_) (st1:=(2,0));cases t11;refine gc (Hk hs) ?_;refine gR ?_;exact ay.keep (bq rfl)
theorem Bu[c:Cy ts u k](n:Int)(hn:-9223372036854775808<=n/\n<=9223372036854775807)[hq:Qz u (n:Rat) w'][ha:Zl ts u k a x w v](hs:w'*u+0*k+(w*u+v*k)<200000000000) :
  Con prog 267 [.ptr 1000 0,i64 n,nA a] [(1000,some (bg ts))] (nA (sX (qE (n:Rat)*x))) [(1000,some (bg ts))]:=by
 haveI:=Cy.zq (ts:=ts) (u:=u) (k:=k) (q:=(n:Rat)) (w:=w');have hm:=jk (ts:=ts) (u:=u) (k:=k) (a:=sh 0 ((n:Rat):Rat)) (b:=a) (x:=qE (n:Rat)) (y:=x) hs;refine gF func267 (fun k z h=>bE h) ?_;refine gc (kv n hn) ?_;refine gc (lY (tp hn)) ?_;refine gt (aG hm (aK rfl rfl rfl) aH rfl rfl) ?_;refine gR ?_;exact ay.keep (bq rfl)
theorem tA{p1 p2 v1 v2 c m1 m2 q1 q2:List Rat}(h1:Con prog 276 [.ptr 1000 0,nA c,nA v1] [(1000,some (bg ts))] (nA m1) [(1000,some (bg ts))])
  (h2:Con prog 276 [.ptr 1000 0,nA c,nA v2] [(1000,some (bg ts))] (nA m2) [(1000,some (bg ts))])
  (h3:Con prog 270 [.ptr 1000 0,nA p1,nA m1] [(1000,some (bg ts))] (nA q1) [(1000,some (bg ts))])
  (h4:Con prog 270 [.ptr 1000 0,nA p2,nA m2] [(1000,some (bg ts))] (nA q2) [(1000,some (bg ts))]) :
  Con prog 268 [.ptr 1000 0,aM p1 p2,nA c,aM v1 v2] [(1000,some (bg ts))] (aM q1 q2) [(1000,some (bg ts))]:=by
 refine gF func268 (fun k z h=>bE h) ?_;refine gt (aG h1 (aK rfl rfl rfl) aH rfl rfl) ?_;refine gt (aG h3 (aK rfl rfl rfl) aH rfl rfl) ?_;refine gt (aG h2 (aK rfl rfl rfl) aH rfl rfl) ?_;refine gt (aG h4 (aK rfl rfl rfl) aH rfl rfl) ?_;refine gD ?_;refine gR ?_;exact ay.keep (bq rfl)
theorem Fm{r e:Nat}(tw:Tw ts r)(ha:Nm ts.length e a)(he:e<=lm ts.length)(hs:0<=T.sgn (ax ts) ts.length (ae ts.length a)) :
  Con prog 271 [.ptr 1000 0,nA a] [(1000,some (bg ts))] (nA (cr ts.length)) [(1000,some (bg (aR ts a)))]:=by
 refine gF func271 (fun k z h=>bE h) ?_;refine gC (fun t12=>?_) (fun t12=>?_) (st1:=(2,0));cases t12;refine gc (FT tw ha he hs) ?_;refine gC (fun t24=>?_) (fun t24=>?_) (st1:=(5,0));cases t24;refine gR ?_;exact ay.keep (bq rfl)
abbrev xL(ts:LL)(ps:List AV):AV:=.agg [.lst 1 (ts.map nA),.lst 2 ps]
theorem TY{r:Nat}(tw:Tw ts r):Con prog 355 [.ptr 1000 0] [(1000,some (bg ts))] (aV ts) [(1000,some (bg ts))]:=by
 have h3:=tw.three;have hqs:=tw.rb.qs tw.le;refine gF func355 (fun k z h=>bE h) ?_;refine gl ?_;refine gW (Wk.virt 900 1 rfl) ?_;refine aU [2,3,13,14] [1000,2] (fun(i:Nat)=>[(15,some (i64 i))]) (fun i=>[(3,some (.box [.ms 900 1 0 i])),(900,some (.row 1 ((ts.take i).map nA)))]) (fun i=>i<=ts.length) (fun i=>ts.length-i) 0 (zero_le _) ?_ (h2:=(.cons rfl (BlkSub.bL (.cons (.nM _ _ _) .nil) rfl) (.k .nil)));rintro i hi K1 J1;refine gC (fun t16=>?_) (fun t16=>?_) (st2:=(13,0))
 ·have hin:=a5 t16;obtain⟨d,hd⟩:=aw hin
  have hdl:d.length<=32:=by
   have h9:=tw.len i hin;rw[ao hd]at h9;have:2^i<=32:=cI (b:=5) oz;omega
  have hdq:=hqs d (mem_of_getElem? hd);refine gi (aA hd) ?_;refine gl ?_;refine gW (Wk.virt 901 3 rfl) ?_;refine aU [2,3,13,14,15,19,20] [1000,2,3,900] (fun(j:Nat)=>[(6,some (.ms 901 3 0 j)),(21,some (i64 j))]) (fun j=>[(901,some (.row 3 ((d.take j).map qA)))]) (fun j=>j<=d.length) (fun j=>d.length-j) 0 (zero_le _) ?_;rintro j hj K2 J2;refine gC (fun t22=>?_) (fun t22=>?_) (st2:=(11,0))
  ·have hjn:=a5 t22;obtain ⟨q,hq⟩:=aw hjn;have hadd:=mx (rt q) (rt 0) (hdq q (mem_of_getElem? hq)).ok Qs.zero.ok;rw [tT,cf] at hadd;refine gi (aA hq) ?_;refine gc (Con.sA (.cons (.refl _) (.cons jp .nil)) hadd) ?_;refine gs (cz (.tmp rfl) rfl (by rw [length_map,length_take]; omega) (.tmp rfl) T67 rfl T45 rfl rfl (by simp only [length_cons,length_nil]; omega) rfl rfl) ?_ (10,0);refine gW (Wk.of (sl:=[(2,some (.ptr 2 0)),(3,some (.ptr 3 0)),(13,some (.lst 1 (ts.map nA))),(14,some (i64 ts.length)),(15,some (i64 i)),(6,some (.ms 30 3 0 (j + 1))),(19,some (nA d)),(20,some (i64 d.length)),(21,some (i64 j))]) (hp:=[(1000,some (bg ts)),(2,some (.box [nS])),(3,some (.box [.ms 900 1 0 i])),(900,some (.row 1 ((ts.take i).map nA))),(30,some (.row 3 ((d.take (j + 1)).map qA)))]) a7 (.k (.k (.k (.k (.cons rfl (BlkSub.of (by rw [ef hq,map_append]; rfl)) .nil)))))) ?_ (10,0)
   refine gW (Wk.rk (k:=30) (d:=901) rfl rfl) ?_;refine ga aN ?_;exact aP J2 (j+1) hjn
  have hjn:=bh hj t22;subst hjn;refine gW ((Wk.freeze (k:=901) rfl).trans<|Wk.of (sl:=[(2,some (.ptr 2 0)),(3,some (.ptr 3 0)),(13,some (.lst 1 (ts.map nA))),(14,some (i64 ts.length)),(15,some (i64 i)),(6,some (nA d))]) (hp:=[(1000,some (bg ts)),(2,some (.box [nS])),(3,some (.box [.ms 900 1 0 i])),(900,some (.row 1 ((ts.take i).map nA)))]) (.k (.k (.k (.k (.k (.cons rfl (Sub.of (by rw[bQ (by simp)];simp[nA])) .nil)))))) (.k (.k (.k (.k .nil))))) ?_
  refine gs (cz (.tmp rfl) rfl (by rw[length_map,length_take];omega) (.tmp rfl) T35 rfl T67 rfl rfl (by simp only[length_cons,length_nil];omega) rfl rfl) ?_ (12,0);refine gW (Wk.of (sl:=[(2,some (.ptr 2 0)),(3,some (.ptr 3 0)),(13,some (.lst 1 (ts.map nA))),(14,some (i64 ts.length)),(15,some (i64 i))]) (hp:=[(1000,some (bg ts)),(2,some (.box [nS])),(3,some (.box [.ms 36 1 0 (i+1)])),(36,some (.row 1 ((ts.take (i+1)).map nA)))]) a7 (.k (.k (.k (.cons rfl (BlkSub.of (by rw[ef hd,map_append];rfl)) .nil))))) ?_ (12,0);refine gW (Wk.rk (k:=36) (d:=900) rfl rfl) ?_;refine ga aN ?_;exact aP J1 (i+1) hin
 have hin:=bh hi t16;subst hin;refine gW ((Wk.freeze (k:=900) rfl).trans<|Wk.of (sl:=[(2,some (.ptr 2 0)),(3,some (.ptr 3 0))]) (hp:=[(1000,some (bg ts)),(2,some (.box [nS])),(3,some (.box [.lst 1 (ts.map nA)]))]) a7 (.k (.k (.cons rfl (BlkSub.bL (.cons (Sub.of (by rw[bQ (by simp)];simp)) .nil) rfl) .nil)))) ?_;refine gR ?_;exact ay.keep (bq rfl)
theorem mJ{r:Nat}(tw:Tw ts r)(ps:List AV):Con prog 265 [.ptr 1000 0,.lst 2 ps] [(1000,some (bg ts))] (.tup [xL ts ps,.v .nilIface]) [(1000,some (bg ts))]:=by
 refine gF func265 (fun k z h=>bE h) ?_;refine gC (fun t10=>?_) (fun t10=>?_) (st1:=(2,0));cases t10;refine gt (aG (TY tw) (cA rfl) aH rfl rfl) ?_;refine gR ?_;exact ay.keep (bq rfl)
end
theorem dB(ts:LL)(a:List Rat):(aR ts a).length=ts.length+1:=by simp[aR]
theorem Dz{ts:LL}{a:List Rat}{j:Nat}(h:j<ts.length):(aR ts a).getD j []=ts.getD j []:=by
 unfold aR;rw[getD_eq_getElem?_getD,getD_eq_getElem?_getD,getElem?_append_left h]
theorem tG(ts:LL)(a:List Rat):(aR ts a).getD ts.length []=bT a (2^ts.length):=by
 unfold aR;rw[getD_eq_getElem?_getD,getElem?_append_right (le_refl _),Nat.sub_self];rfl
theorem uX{ts:LL}{a:List Rat}{j:Nat}(h:j<ts.length):ax (aR ts a) j=ax ts j:=by
 unfold ax;rw[Dz h]
theorem xh{ts:LL}{a:List Rat}{j:Nat}(h:j<=ts.length)(x:T j):T.sgn (ax (aR ts a)) j x=T.sgn (ax ts) j x :=
 T.sgn_congr j (fun i hi=>uX oz) x
theorem RB.ext{r e:Nat}{ts:LL}{a:List Rat}(h:RB r ts)(ha:Cb e a):RB (r+e) (aR ts a):=by
 obtain⟨D,N,h0,h1,h2,h3⟩:=h;obtain⟨D',N',k1,k2,k3⟩:=ha.wide (n:=2^ts.length);have hN:N<=2^r:=h3;refine⟨D*D',max (N*D') (N'*D),Nat.mul_pos h0 k1.1,?_,?_,?_⟩
 ·intro d hd;rcases List.mem_append.1 hd with h9 |h9
  ·exact((h1 d h9).scale k1.1).mono (Nat.le_max_left _ _)
  ·rw[List.mem_singleton.1 h9,Nat.mul_comm D];exact(k1.scale h0).mono (Nat.le_max_right _ _)
 ·rw[pow_add];exact Nat.mul_le_mul h2 k2
 ·rw[pow_add];refine Nat.max_le.2 ⟨Nat.mul_le_mul h3 k2,?_⟩;rw[Nat.mul_comm (2^r)];exact Nat.mul_le_mul k3 h2
theorem ym{r e:Nat}{ts:LL}{a:List Rat}(tw:Tw ts r)(h2:ts.length<=2)(ha:Nm ts.length e a)(he:r+e<=5000000000)(hs:0<=T.sgn (ax ts) ts.length (ae ts.length a)):Tw (aR ts a) (r+e):=by
 refine⟨by rw[dB];omega,?_,?_,tw.rb.ext ha.cb,he⟩
 ·intro j hj;rw[dB]at hj;rcases lt_or_ge j ts.length with h |h
  ·rw[Dz h];exact tw.len j h
  ·have : j = ts.length := by omega
   subst this;rw[tG];exact fW ha.nl.le
 ·intro j hj;rw[dB]at hj;rw[xh oz];rcases lt_or_ge j ts.length with h |h
  ·rw[uX h];exact tw.pos j h
  ·have : j = ts.length := by omega
   subst this
   have e1:ax (aR ts a) ts.length=ae ts.length a:=by
    show ae ts.length ((aR ts a).getD ts.length [])=_;rw[tG,o9]
   rw[e1];exact hs
theorem lZ{ts:LL}{a l:List Rat}{e:Nat}(h:Nm ts.length e l)(h4:ts.length<=4):Nm (aR ts a).length e l:=by
 rw[dB];exact⟨by omega,h.nl.mono oz,h.cb⟩
theorem Qt{ts:LL}{a l:List Rat}(h:Nl ts.length l):an (dE (aR ts a) l)=an (dE ts l):=by
 unfold an dE;rw[dB];show T.sgn (ax (aR ts a)) (ts.length+1) (ae (ts.length+1) l)=_;rw[vK (ax (aR ts a)) h.le (Nat.le_succ _),xh (le_refl _)]
theorem sW{ts:LL}{a:List Rat}(h4:ts.length<=4):Nm (aR ts a).length 1 (cr ts.length):=by
 rw[dB];refine⟨by omega,.inr ⟨_,le_refl _,yo _⟩,1,1,⟨by omega,?_⟩,by omega,by omega⟩;intro q hq;unfold cr at hq;rcases List.mem_or_eq_of_mem_set hq with h |h
 ·rw[(List.mem_replicate.1 h).2];exact⟨0,by rw[Rat.zero_mul];rfl,by simp⟩
 ·rw[h];exact⟨1,by rw[Rat.one_mul];rfl,by simp⟩
theorem Wd{r e k:Nat}{ts:LL}{a:List Rat}(tw:Tw ts r)(h1:ts.length<=1)(ha:Nm ts.length e a)(he:r+e<=5000000000)(hs:0<=T.sgn (ax ts) ts.length (ae ts.length a)){u:Nat}(hu:3<=u)(hk:3*(r+e)+6<=k):Cy (aR ts a) u k :=
 ⟨⟨r+e,ym tw oz ha he hs,by
  rw[dB];have h:=ip (r+e) (show ts.length+1<=2 by omega);have h2:eB (r+e) 2=3*(r+e)+6:=by simp only[eB];omega
  omega⟩,by omega,hu,by rw[dB];omega⟩
structure Mt where
  ts:LL
  ps:List (List Rat×List Rat)
abbrev dj(p:List Rat×List Rat):AV:=aM p.1 p.2
abbrev Mt.av(m:Mt):AV:=xL m.ts (m.ps.map dj)
abbrev P2(ts:LL):Type:=Et ts×Et ts
abbrev P2.l{ts:LL}(p:P2 ts):List Rat×List Rat:=(sX p.1,sX p.2)
abbrev aL{ts:LL}(X:Et ts)(x:Et ts):Et (aR ts (sX X)):=dE (aR ts (sX X)) (sX x)
section
variable{ts:LL}
def er(d:Et ts):Et ts:=qE ((2:Int):Rat)*d
def fA(p q:P2 ts):P2 ts:=(q.1-p.1,q.2-p.2)
def cM(p:P2 ts)(k:Et ts)(v:P2 ts):P2 ts:=(p.1+k*v.1,p.2+k*v.2)
def cW(p q:P2 ts)(z z2:Et ts):P2 ts:=cM p ((z+az p q-z2)*iE (er (az p q))) (fA p q)
def dT(X d:Et ts):Et (aR ts (sX X)):=dE _ (cr ts.length)*iE (aL X (er d))
def f8(X:Et ts)(f v:P2 ts)(c:Et (aR ts (sX X))):P2 (aR ts (sX X)):=cM (aL X f.1,aL X f.2) c (qE ((-1:Int):Rat)*aL X v.2,aL X v.1)
def kJ(p:P2 ts)(z z2:Et ts):Mt:=if an (z-z2)≠0 then⟨ts,[]⟩else if 0<an z then⟨[],[]⟩else⟨ts,[(cM p 0 p).l]⟩
def dX(p q:P2 ts)(z z2:Et ts):Mt :=
  if an (az p q)=0 then kJ p z z2
  else if an (bc p z q z2)<0 then⟨ts,[]⟩
  else if an (bc p z q z2)=0 then⟨ts,[(cW p q z z2).l]⟩
  else⟨aR ts (sX (bc p z q z2)),[(f8 (bc p z q z2) (cW p q z z2) (fA p q) (dT (bc p z q z2) (az p q))).l,
    (f8 (bc p z q z2) (cW p q z z2) (fA p q) (qE ((-1:Int):Rat)*dT (bc p z q z2) (az p q))).l]⟩
def lG(z z2:Et ts):Nat:=if an (z-z2)=0/\0<an z then 15 else 0
def fw(p q:P2 ts)(z z2:Et ts):Nat:=if an (az p q)=0 then lG z z2 else 0
theorem ED:Sub (.agg [nS,nS]) (xL [] []):=Sub.agg (.cons (.nil _ _ _) (.cons (.nil _ _ _) .nil)) rfl
end
theorem OQ {ts : LL} {u k : Nat} [c : Cy ts u k] : Zl ts u k [] (0 : Et ts) 0 0 := ⟨by rw [iR]; exact E.zero_def.symm, by
 obtain⟨R,tw,_⟩:=c.ex;exact⟨tw.five,.inl rfl,Cb.nil.mono (zero_le _)⟩⟩
section
variable{ts:LL}{a b c a2 b2 c2:List Rat}{x y z x2 y2 z2:Et ts}
theorem TF{r:Nat}(tw:Tw ts r)[c0:Cy ts 310000 65000][i1:Zl ts 310000 65000 a x 40 40][i2:Zl ts 310000 65000 b y 40 40][i3:Zl ts 310000 65000 c z 3 0][i6:Zl ts 310000 65000 c2 z2 3 0] :
  Con prog 264 [.ptr 1000 0,.agg [nA a,nA b,nA c],.agg [nA a2,nA b2,nA c2]] [(1000,some (bg ts))]
   (.tup [(kJ (x,y) z z2).av,br (lG z z2)]) [(1000,some (bg ts))]:=by
 haveI:=i1.zu;haveI:=i2.zu;haveI:=i3.zu;haveI:=i6.zu;have hm0:=Con.sA (.cons (.refl _) (.cons (Sub.nil 2 none 0) .nil)) (mJ tw []);have m1:=lw (ts:=ts) (u:=310000) (k:=65000) (a:=c) (b:=c2) (by decide);have m2:=qu (ts:=ts) (u:=310000) (k:=65000) (a:=sX (z-z2)) (by decide);have m3:=qu (ts:=ts) (u:=310000) (k:=65000) (a:=c) (by decide);haveI zn:Zl ts 310000 65000 [] (0:Et ts) 0 0:=OQ;have n1:=jk (ts:=ts) (u:=310000) (k:=65000) (a:=[]) (b:=a) (by decide);have n2:=jk (ts:=ts) (u:=310000) (k:=65000) (a:=[]) (b:=b) (by decide);have n3:=j6 (ts:=ts) (u:=310000) (k:=65000) (a:=a) (b:=sX (0*x)) (by decide);have n4:=j6 (ts:=ts) (u:=310000) (k:=65000) (a:=b) (b:=sX (0*y)) (by decide);have hal:=Con.sA (.cons (.refl _) (.cons (.refl _) (.cons (Sub.nil 3 none 0) (.cons (.refl _) .nil)))) (tA n1 n2 n3 n4);refine gF func264 (fun k z h=>bE h) ?_;refine gt (aX m1 (aK rfl rfl rfl) rfl rfl rfl) ?_;refine gt (aX m2 (bC rfl rfl) rfl rfl rfl) ?_;refine gC (fun t8=>?_) (fun t8=>?_)
 ·have h1:an (z-z2)≠0:=nJ t8;refine gt (aX hm0 (.cons (.tmp rfl) (.cons (.const _) .nil)) rfl rfl rfl) ?_;refine gR ?_;exact(ay.keep (bq rfl)).sub (Sub.of (by unfold kJ lG;rw[if_pos h1,if_neg (fun h=>h1 h.1)];rfl))
 have h1:an (z-z2)=0:=uD t8;refine gt (aX m3 (bC rfl rfl) rfl rfl rfl) ?_;refine gC (fun t22=>?_) (fun t22=>?_)
 ·have h2:0<an z:=of_decide_eq_true t22;refine gR ?_;exact(ay.keep (bq rfl)).sub (by unfold kJ lG;rw[if_neg oz,if_pos h2,if_pos ⟨h1,h2⟩];exact Sub.tup (.cons ED (.cons (.refl _) .nil)))
 have h2:¬0<an z:=of_decide_eq_false t22;refine gt (aX hal (.cons (.tmp rfl) (.cons (.tmp rfl) (.cons (.const _) (cA rfl)))) rfl rfl rfl) ?_;refine gt (aX (mJ tw [aM (sX (x+0*x)) (sX (y+0*y))]) (bC rfl rfl) rfl rfl rfl) ?_;refine gR ?_;exact(ay.keep (bq rfl)).sub (Sub.of (by unfold kJ lG;rw[if_neg oz,if_neg h2,if_neg (fun h=>h2 h.2)];rfl))
end
section
variable{rs:List (List Rt)}{r:Nat}{a b c a2 b2 c2:List Rat}{x y z x2 y2 z2:Et (llq rs)}
structure CirP(ts:LL)(p q:P2 ts)(z z2:Et ts):Prop where
  zd:Zu 310000 65000 (az p q) 320 327
  zX:Zu 310000 65000 (bc p z q z2) 976 989
  zt:Zu 310000 65000 (er (az p q)) 321 328
  z1:Zu 310000 65000 (fA p q).1 80 81
  z2:Zu 310000 65000 (fA p q).2 80 81
theorem BX{ts:LL}{x y z x2 y2 z2:Et ts}(c:Ct ts 310000 65000)(h1:Zu 310000 65000 x 40 40)(h2:Zu 310000 65000 y 40 40)(h3:Zu 310000 65000 z 3 0)(h4:Zu 310000 65000 x2 40 40)(h5:Zu 310000 65000 y2 40 40)(h6:Zu 310000 65000 z2 3 0) :
  CirP ts (x,y) (x2,y2) z z2:=by
 haveI:=c;haveI:=h1;haveI:=h2;haveI:=h3;haveI:=h4;haveI:=h5;haveI:=h6
 haveI zd:=FS c h1 h2 h4 h5;haveI q4:Qz 310000 ((4:Int):Rat) 1:=Qz.int (c:=Ct.cx (c:=c)) (by decide);haveI q2:Qz 310000 ((2:Int):Rat) 1:=Qz.int (c:=Ct.cx (c:=c)) (by decide)
 exact⟨zd,(inferInstance:Zu 310000 65000 (qE ((4:Int):Rat)*(z*az (x,y) (x2,y2))-(z+az (x,y) (x2,y2)-z2)*(z+az (x,y) (x2,y2)-z2)) _ _),
  (inferInstance:Zu 310000 65000 (qE ((2:Int):Rat)*az (x,y) (x2,y2)) _ _),(inferInstance:Zu 310000 65000 (x2-x) _ _),(inferInstance:Zu 310000 65000 (y2-y) _ _)⟩
theorem DO{ts:LL}{x y z x2 y2 z2:Et ts}[c0:Cy ts 310000 65000](hn:ts.length<=1)(h1:Zu 310000 65000 x 40 40)(h2:Zu 310000 65000 y 40 40)(h3:Zu 310000 65000 z 3 0)(h6:Zu 310000 65000 z2 3 0)(P:CirP ts (x,y) (x2,y2) z z2)
  (h0:an (er (az (x,y) (x2,y2)))≠0) :
  FP 281 [aV ts,nA (sX (z+az (x,y) (x2,y2)-z2)),nA (sX (er (az (x,y) (x2,y2))))] (.tup [nA (sX ((z+az (x,y) (x2,y2)-z2)*iE (er (az (x,y) (x2,y2))))),.v .nilIface]) /\
  Zu 310000 65000 ((z+az (x,y) (x2,y2)-z2)*iE (er (az (x,y) (x2,y2)))) 1931 1972/\Zu 310000 65000 (cW (x,y) (x2,y2) z z2).1 2051 2095/\Zu 310000 65000 (cW (x,y) (x2,y2) z z2).2 2051 2095:=by
 haveI:=h1;haveI:=h2;haveI:=h3;haveI:=h6;haveI:=P.zd;haveI:=P.zt
 have hd:=qd (ts:=ts) (u:=310000) (k:=65000) (a:=sX (z+az (x,y) (x2,y2)-z2)) (b:=sX (er (az (x,y) (x2,y2)))) (j:=ts.length) P.zt.nm.nl (le_refl _) hn h0 (by decide);haveI zk:=hd.2;haveI:=P.z1;haveI:=P.z2
 exact⟨hd.1,zk,(inferInstance:Zu 310000 65000 (x+((z+az (x,y) (x2,y2)-z2)*iE (er (az (x,y) (x2,y2))))*(fA (x,y) (x2,y2)).1) _ _),
  (inferInstance:Zu 310000 65000 (y+((z+az (x,y) (x2,y2)-z2)*iE (er (az (x,y) (x2,y2))))*(fA (x,y) (x2,y2)).2) _ _)⟩
structure ExtP{ts:LL}(X:Et ts):Prop where
  tw:Tw (aR ts (sX X)) 366909990
  cy:Cy (aR ts (sX X)) 773000000 1101400000
theorem sj{ts:LL}{X:Et ts}(tw:Tw ts 64990)(hn:ts.length<=1)(hx:Zu 310000 65000 X 976 989)(hs:0<=an X):ExtP X:=by
 have h9:0<=T.sgn (ax ts) ts.length (ae ts.length (sX X)):=by rw[show ae ts.length (sX X)=X from bn _ _];exact hs
 have hm:=hx.nm;exact⟨ym tw oz hm (by decide) h9,Wd tw hn hm (by decide) h9 oz (by decide)⟩
theorem jO{ts:LL}{X x:Et ts}{w v:Nat}(hn:ts.length<=1)(h:Zu 310000 65000 x w v)(hs:w*310000+v*65000<=773000000):Zl (aR ts (sX X)) 773000000 1101400000 (sX x) (aL X x) 1 0:=Zl.at (lZ h.nm oz) hs
theorem nP{ts:LL}{X x:Et ts}:an (aL X x)=an x:=by
 show an (dE (aR ts (sX X)) (sX x))=_;rw[Qt (l:=sX x) (eM _ _)];show an (dE ts (sX x))=_;rw[show dE ts (sX x)=x from bn _ _]
theorem wi{ts:LL}{r:Nat}(tw:Tw ts r)(d:Et ts):an (er d)=an d:=by
 have h:=dN (ax ts) ts.length tw.pos
 have h2:sg (ax ts) ts.length (qE ((2:Int):Rat):Et ts)=1:=by
  show T.sgn (ax ts) ts.length (T.ofQ ts.length ((2:Int):Rat))=1;rw[T.sgn_ofQ];rfl
 have h3:=h.mul (qE ((2:Int):Rat)) d;rw[h2,Int.one_mul]at h3;exact h3
structure SideP{ts:LL}(X d:Et ts)(f v:P2 ts):Prop where
  hd:FP 281 [aV (aR ts (sX X)),nA (cr ts.length),nA (sX (er d))] (.tup [nA (sX (dT X d)),.v .nilIface])
  ht:Con prog 267 [.ptr 1000 0,i64 (-1),nA (sX v.2)] [(1000,some (bg (aR ts (sX X))))] (nA (sX (qE ((-1:Int):Rat)*aL X v.2))) [(1000,some (bg (aR ts (sX X))))]
  hu:Con prog 267 [.ptr 1000 0,i64 (-1),nA (sX (dT X d))] [(1000,some (bg (aR ts (sX X))))] (nA (sX (qE ((-1:Int):Rat)*dT X d))) [(1000,some (bg (aR ts (sX X))))]
  a1:Con prog 268 [.ptr 1000 0,aM (sX f.1) (sX f.2),nA (sX (dT X d)),aM (sX (qE ((-1:Int):Rat)*aL X v.2)) (sX v.1)] [(1000,some (bg (aR ts (sX X))))] (dj (f8 X f v (dT X d)).l) [(1000,some (bg (aR ts (sX X))))]
  a2:Con prog 268 [.ptr 1000 0,aM (sX f.1) (sX f.2),nA (sX (qE ((-1:Int):Rat)*dT X d)),aM (sX (qE ((-1:Int):Rat)*aL X v.2)) (sX v.1)] [(1000,some (bg (aR ts (sX X))))] (dj (f8 X f v (qE ((-1:Int):Rat)*dT X d)).l) [(1000,some (bg (aR ts (sX X))))]
  n1:Zu 773000000 1101400000 (f8 X f v (dT X d)).1 9 6/\Zu 773000000 1101400000 (f8 X f v (dT X d)).2 9 6
  n2:Zu 773000000 1101400000 (f8 X f v (qE ((-1:Int):Rat)*dT X d)).1 10 7/\Zu 773000000 1101400000 (f8 X f v (qE ((-1:Int):Rat)*dT X d)).2 10 7
theorem GR{ts:LL}{X d:Et ts}{f v:P2 ts}(hn:ts.length<=1)(E:ExtP X)(hd:Zu 310000 65000 (er d) 321 328)(h0:an (er d)≠0)(f1:Zu 310000 65000 f.1 2051 2095)(f2:Zu 310000 65000 f.2 2051 2095)
  (v1:Zu 310000 65000 v.1 80 81) (v2:Zu 310000 65000 v.2 80 81):SideP X d f v:=by
 haveI cy:=E.cy;haveI zr:Zl (aR ts (sX X)) 773000000 1101400000 (cr ts.length) (dE _ (cr ts.length)) 1 0:=Zl.at (sW oz) (by decide);haveI zd:=jO (X:=X) hn hd (by decide);haveI zf1:=jO (X:=X) hn f1 (by decide);haveI zf2:=jO (X:=X) hn f2 (by decide);haveI zv1:=jO (X:=X) hn v1 (by decide);haveI zv2:=jO (X:=X) hn v2 (by decide);haveI:=zf1.zu;haveI:=zf2.zu;haveI:=zv1.zu;haveI:=zv2.zu
 have hdiv:=qd (ts:=aR ts (sX X)) (u:=773000000) (k:=1101400000) (a:=cr ts.length) (b:=sX (er d)) (j:=ts.length) hd.nm.nl (by rw[dB];omega) hn (by rw[nP];exact h0) (by decide);haveI zs:Zu 773000000 1101400000 (dT X d) 6 3:=hdiv.2;haveI qm:Qz 773000000 ((-1:Int):Rat) 1:=Qz.int (c:=Cy.cx (c:=cy)) (by decide);haveI zm:Zu 773000000 1101400000 (qE ((-1:Int):Rat)*aL X v.2) 2 1:=inferInstance;haveI zu:Zu 773000000 1101400000 (qE ((-1:Int):Rat)*dT X d) 7 4:=inferInstance;have ht:=Bu (ts:=aR ts (sX X)) (u:=773000000) (k:=1101400000) (a:=sX v.2) (-1) oz (by decide);have hu:=Bu (ts:=aR ts (sX X)) (u:=773000000) (k:=1101400000) (a:=sX (dT X d)) (-1) oz (by decide)
 have al:∀{c:Et (aR ts (sX X))}{w k:Nat}(zc:Zu 773000000 1101400000 c w k),w<=7->k<=4 ->
   Con prog 268 [.ptr 1000 0,aM (sX f.1) (sX f.2),nA (sX c),aM (sX (qE ((-1:Int):Rat)*aL X v.2)) (sX v.1)] [(1000,some (bg (aR ts (sX X))))] (dj (f8 X f v c).l) [(1000,some (bg (aR ts (sX X))))]:=by
  intro c w k zc hw hk;haveI:=zc;have m1:=jk (ts:=aR ts (sX X)) (u:=773000000) (k:=1101400000) (a:=sX c) (b:=sX (qE ((-1:Int):Rat)*aL X v.2)) oz;have m2:=jk (ts:=aR ts (sX X)) (u:=773000000) (k:=1101400000) (a:=sX c) (b:=sX v.1) oz;have m3:=j6 (ts:=aR ts (sX X)) (u:=773000000) (k:=1101400000) (a:=sX f.1) (b:=sX (c*(qE ((-1:Int):Rat)*aL X v.2))) oz;have m4:=j6 (ts:=aR ts (sX X)) (u:=773000000) (k:=1101400000) (a:=sX f.2) (b:=sX (c*aL X v.1)) oz;exact tA m1 m2 m3 m4
 exact⟨hdiv.1,ht,hu,al zs oz oz,al zu oz oz,
  ⟨(inferInstance:Zu 773000000 1101400000 (aL X f.1+dT X d*(qE ((-1:Int):Rat)*aL X v.2)) 9 6),⟨(inferInstance:Zu 773000000 1101400000 (aL X f.2+dT X d*aL X v.1) _ _).nm.mono (by decide)⟩⟩,
  ⟨(inferInstance:Zu 773000000 1101400000 (aL X f.1+qE ((-1:Int):Rat)*dT X d*(qE ((-1:Int):Rat)*aL X v.2)) 10 7),⟨(inferInstance:Zu 773000000 1101400000 (aL X f.2+qE ((-1:Int):Rat)*dT X d*aL X v.1) _ _).nm.mono (by decide)⟩⟩⟩
theorem NO(h:TR rs 64990)(hc:bD rs=0)(hn:(llq rs).length<=1)[c0:Ct (llq rs) 310000 65000][i1:Zl (llq rs) 310000 65000 a x 40 40][i2:Zl (llq rs) 310000 65000 b y 40 40][i3:Zl (llq rs) 310000 65000 c z 3 0][i4:Zl (llq rs) 310000 65000 a2 x2 40 40][i5:Zl (llq rs) 310000 65000 b2 y2 40 40][i6:Zl (llq rs) 310000 65000 c2 z2 3 0]
  (ha:a=sX x) (hb:b=sX y) (s1:0<=an z) (s2:0<=an z2):FP 157 [dG rs,.agg [nA a,nA b,nA c],.agg [nA a2,nA b2,nA c2]] (.tup [(dX (x,y) (x2,y2) z z2).av,br (fw (x,y) (x2,y2) z z2)]):=by
 have hz:∀q∈[(a,b,c),(a2,b2,c2)],CiZ rs q:=fun q hq=>by
  simp only[mem_cons,not_mem_nil,or_false]at hq;rcases hq with rfl |rfl
  ·exact⟨i1.nm.mono oz,i2.nm.mono oz,i3.nm.mono oz,by show 0<=an (dE (llq rs) c);rw[show dE (llq rs) c=z from i3.eq];exact s1⟩
  ·exact⟨i4.nm.mono oz,i5.nm.mono oz,i6.nm.mono oz,by show 0<=an (dE (llq rs) c2);rw[show dE (llq rs) c2=z2 from i6.eq];exact s2⟩
 have hck:=Pr h hc [(a,b,c),(a2,b2,c2)] hz (by show 2<=100;omega);obtain⟨tw,etw⟩:=de h hc;haveI cy:Cy (llq rs) 310000 65000:=⟨c0.ex,by omega,by omega,by omega⟩
 have P:=BX c0 i1.zu i2.zu i3.zu i4.zu i5.zu i6.zu;haveI:=P.zd;haveI:=P.zX;haveI:=i3.zu;haveI:=i6.zu;have m1:=qu (ts:=llq rs) (u:=310000) (k:=65000) (a:=sX (az (x,y) (x2,y2))) (by decide);have m2:=qu (ts:=llq rs) (u:=310000) (k:=65000) (a:=sX (bc (x,y) z (x2,y2) z2)) (by decide);have m0:=Con.sA (.cons (.refl _) (.cons (Sub.nil 2 none 0) .nil)) (mJ tw []);have w1:=lw (ts:=llq rs) (u:=310000) (k:=65000) (a:=a2) (b:=a) (by decide);have w2:=lw (ts:=llq rs) (u:=310000) (k:=65000) (a:=b2) (b:=b) (by decide);haveI q2:Qz 310000 ((2:Int):Rat) 1:=Qz.int (c:=Cy.cx (c:=cy)) (by decide);have t2:=Bu (ts:=llq rs) (u:=310000) (k:=65000) (a:=sX (az (x,y) (x2,y2))) 2 oz (by decide);have k1:=j6 (ts:=llq rs) (u:=310000) (k:=65000) (a:=c) (b:=sX (az (x,y) (x2,y2))) (by decide);have k2:=lw (ts:=llq rs) (u:=310000) (k:=65000) (a:=sX (z+az (x,y) (x2,y2))) (b:=c2) (by decide);subst ha;subst hb;refine aj func157 ?_;refine gc hck ?_;refine gC (fun t24=>?_) (fun t24=>?_) (st1:=(3,0)) (st2:=(5,0));cases t24;refine gW (Wk.o (sl:=[(4,some (.ptr 4 0)),(5,some (.ptr 5 0)),(6,some (.ptr 6 0)),(9,some (.ptr 29 0))]) (hp:=[(4,some (.box [nA (sX x),nA (sX y),nA c])),(5,some (.box [nA a2,nA b2,nA c2])),(6,some (.box [nS,nS])),(29,some (dx rs))])) ?_;refine gt (aG (Con.rB 29 rfl rfl rfl rfl (QQ h hc)) (aK rfl rfl rfl) aH rfl rfl) ?_ (6,0);refine gW (Wk.of (sl:=[(4,some (.ptr 4 0)),(5,some (.ptr 5 0)),(6,some (.ptr 6 0)),(9,some (.ptr 29 0)),(10,some (nA (sX (bc (x,y) z (x2,y2) z2)))),(11,some (nA (sX (az (x,y) (x2,y2)))))]) (hp:=[(4,some (.box [nA (sX x),nA (sX y),nA c])),(5,some (.box [nA a2,nA b2,nA c2])),(6,some (.box [nS,nS])),(29,some (bg (llq rs)))]) a7 (.k (.k (.k (.cons rfl (BlkSub.bL (.cons (.of (mS etw)) (.cons (.refl _) .nil)) rfl) .nil))))) ?_
 refine gt (aX (Con.rB 29 rfl rfl rfl rfl m1) (bC rfl rfl) rfl rfl rfl) ?_;refine gC (fun t40=>?_) (fun t40=>?_)
 ·have hd0:an (az (x,y) (x2,y2))=0:=cP t40;refine gt (aX (Con.rB 29 rfl rfl rfl rfl (TF (a:=sX x) (b:=sX y) (c:=c) (a2:=a2) (b2:=b2) (c2:=c2) tw)) (aK rfl rfl rfl) rfl rfl rfl) ?_;refine bF ?_;unfold dX fw;rw[if_pos hd0,if_pos hd0]
 have hd0:¬an (az (x,y) (x2,y2))=0:=dA t40;refine gt (aX (Con.rB 29 rfl rfl rfl rfl m2) (bC rfl rfl) rfl rfl rfl) ?_;refine gC (fun t51=>?_) (fun t51=>?_)
 ·have hx0:an (bc (x,y) z (x2,y2) z2)<0:=of_decide_eq_true t51;refine gt (aX (Con.rB 29 rfl rfl rfl rfl m0) (.cons (.tmp rfl) (.cons (.const _) .nil)) rfl rfl rfl) ?_;refine bF ?_;unfold dX fw;rw[if_neg hd0,if_neg hd0,if_pos hx0];rfl
 have hx0:¬an (bc (x,y) z (x2,y2) z2)<0:=of_decide_eq_false t51;have ht0:an (er (az (x,y) (x2,y2)))≠0:=by rw[wi tw];exact hd0
 obtain⟨fd,fk,f1,f2⟩:=DO hn i1.zu i2.zu i3.zu i6.zu P ht0;haveI:=fk;haveI:=P.z1;haveI:=P.z2;have g1:=jk (ts:=llq rs) (u:=310000) (k:=65000) (a:=sX ((z+az (x,y) (x2,y2)-z2)*iE (er (az (x,y) (x2,y2))))) (b:=sX (fA (x,y) (x2,y2)).1) (by decide);have g2:=jk (ts:=llq rs) (u:=310000) (k:=65000) (a:=sX ((z+az (x,y) (x2,y2)-z2)*iE (er (az (x,y) (x2,y2))))) (b:=sX (fA (x,y) (x2,y2)).2) (by decide);have g3:=j6 (ts:=llq rs) (u:=310000) (k:=65000) (a:=sX x) (b:=sX ((z+az (x,y) (x2,y2)-z2)*iE (er (az (x,y) (x2,y2)))*(fA (x,y) (x2,y2)).1)) (by decide);have g4:=j6 (ts:=llq rs) (u:=310000) (k:=65000) (a:=sX y) (b:=sX ((z+az (x,y) (x2,y2)-z2)*iE (er (az (x,y) (x2,y2)))*(fA (x,y) (x2,y2)).2)) (by decide);have gal:=tA g1 g2 g3 g4;refine gt (aX (Con.rB 29 rfl rfl rfl rfl w1) (aK rfl rfl rfl) rfl rfl rfl) ?_;refine gt (aX (Con.rB 29 rfl rfl rfl rfl w2) (aK rfl rfl rfl) rfl rfl rfl) ?_;refine gD ?_;refine gt (aX (Con.rB 29 rfl rfl rfl rfl t2) (.cons (.tmp rfl) (.cons (.const _) (cA rfl))) rfl rfl rfl) ?_;refine gt (aX (Con.rB 29 rfl rfl rfl rfl k1) (aK rfl rfl rfl) rfl rfl rfl) ?_;refine gt (aX (Con.rB 29 rfl rfl rfl rfl k2) (aK rfl rfl rfl) rfl rfl rfl) ?_;refine gt (aX (Con.rB 29 rfl rfl rfl rfl (ri fd)) (aK rfl rfl rfl) rfl rfl rfl) ?_;refine gt (aX (Con.rB 29 rfl rfl rfl rfl gal) (.cons (.tmp rfl) (.cons (.tmp rfl) (.cons (.tmp rfl) (.cons (.tmp rfl) .nil)))) rfl rfl rfl) ?_;refine gD ?_;refine gC (fun t94=>?_) (fun t94=>?_)
 ·have hx1:an (bc (x,y) z (x2,y2) z2)=0:=cP t94;refine gt (aX (Con.rB 29 rfl rfl rfl rfl (mJ tw [dj (cW (x,y) (x2,y2) z z2).l])) (bC rfl rfl) rfl rfl rfl) ?_;refine bF ?_;unfold dX fw;rw[if_neg hd0,if_neg hd0,if_neg hx0,if_pos hx1];rfl
 have hx1:¬an (bc (x,y) z (x2,y2) z2)=0:=dA t94;have E:ExtP (bc (x,y) z (x2,y2) z2):=sj tw hn P.zX oz;have S:=GR (X:=bc (x,y) z (x2,y2) z2) (d:=az (x,y) (x2,y2)) (f:=cW (x,y) (x2,y2) z z2) (v:=fA (x,y) (x2,y2)) hn E P.zt ht0 f1 f2 P.z1 P.z2;have hex:=Fm (a:=sX (bc (x,y) z (x2,y2) z2)) tw P.zX.nm (by rw[cy.lm];decide) (by rw[show ae (llq rs).length (sX (bc (x,y) z (x2,y2) z2))=bc (x,y) z (x2,y2) z2 from bn _ _];show 0<=an (bc (x,y) z (x2,y2) z2);omega);refine gt (aG (Con.rB 29 rfl rfl rfl rfl hex) (bC rfl rfl) aH rfl rfl) ?_;refine gt (aX (Con.rB 29 rfl rfl rfl rfl (ri S.hd)) (aK rfl rfl rfl) rfl rfl rfl) ?_;refine gt (aX (Con.rB 29 rfl rfl rfl rfl S.ht) (.cons (.tmp rfl) (.cons (.const _) (cA rfl))) rfl rfl rfl) ?_;refine gD ?_;refine gt (aX (Con.rB 29 rfl rfl rfl rfl S.a1) (.cons (.tmp rfl) (.cons (.tmp rfl) (.cons (.tmp rfl) (.cons (.tmp rfl) .nil)))) rfl rfl rfl) ?_;refine gt (aX (Con.rB 29 rfl rfl rfl rfl S.hu) (.cons (.tmp rfl) (.cons (.const _) (cA rfl))) rfl rfl rfl) ?_;refine gt (aX (Con.rB 29 rfl rfl rfl rfl S.a2) (.cons (.tmp rfl) (.cons (.tmp rfl) (.cons (.tmp rfl) (.cons (.tmp rfl) .nil)))) rfl rfl rfl) ?_;refine gt (aX (Con.rB 29 rfl rfl rfl rfl (mJ E.tw [dj (f8 (bc (x,y) z (x2,y2) z2) (cW (x,y) (x2,y2) z z2) (fA (x,y) (x2,y2)) (dT (bc (x,y) z (x2,y2) z2) (az (x,y) (x2,y2)))).l,dj (f8 (bc (x,y) z (x2,y2) z2) (cW (x,y) (x2,y2) z z2) (fA (x,y) (x2,y2)) (qE ((-1:Int):Rat)*dT (bc (x,y) z (x2,y2) z2) (az (x,y) (x2,y2)))).l])) (bC rfl rfl) rfl rfl rfl) ?_;refine gD ?_;refine bF ?_;unfold dX fw;rw[if_neg hd0,if_neg hd0,if_neg hx0,if_neg hx1];rfl
end
section
variable{ts:LL}
abbrev bi(p q:P2 ts):Et ts:=dU (aQ q p) (aQ q p)
abbrev bG(p q c:P2 ts):Et ts:=dU (aQ q p) (aQ c p)
abbrev ik(p q c:P2 ts):Et ts:=jv (aQ q p) (aQ c p)
abbrev aO(p q c:P2 ts)(z:Et ts):Et ts:=bi p q*z-ik p q c*ik p q c
def fc(X:Et ts)(S:Et ts)(k:Et (aR ts (sX X))):Et (aR ts (sX X)):=k*iE (aL X S)
def jH(X:Et ts)(p v:P2 ts)(k:Et (aR ts (sX X))):P2 (aR ts (sX X)):=cM (aL X p.1,aL X p.2) k (aL X v.1,aL X v.2)
abbrev ba(X:Et ts):Et (aR ts (sX X)):=dE _ (cr ts.length)
def dS(p q c:P2 ts)(z:Et ts):Mt :=
  if an (bi p q)=0 then⟨[],[]⟩else if an (aO p q c z)=-1 then⟨ts,[]⟩else if an (aO p q c z)=0 then⟨ts,[(cM p (bG p q c*iE (bi p q)) (aQ q p)).l]⟩
  else⟨aR ts (sX (aO p q c z)),[(jH (aO p q c z) p (aQ q p) (fc (aO p q c z) (bi p q) (aL (aO p q c z) (bG p q c)+ba (aO p q c z)))).l,
    (jH (aO p q c z) p (aQ q p) (fc (aO p q c z) (bi p q) (aL (aO p q c z) (bG p q c)-ba (aO p q c z)))).l]⟩
def fC(p q:P2 ts):Nat:=if an (bi p q)=0 then 8 else 0
structure LinP(p q c:P2 ts)(z:Et ts):Prop where
  v1:Zu 310000 65000 (aQ q p).1 80 81
  v2:Zu 310000 65000 (aQ q p).2 80 81
  w1:Zu 310000 65000 (aQ c p).1 80 81
  w2:Zu 310000 65000 (aQ c p).2 80 81
  zs:Zu 310000 65000 (bi p q) 320 327
  ze:Zu 310000 65000 (bG p q c) 320 327
  zc:Zu 310000 65000 (ik p q c) 320 327
  zX:Zu 310000 65000 (aO p q c z) 963 984
theorem Ip{p q c:P2 ts}{z:Et ts}(c0:Cy ts 310000 65000)(h1:Zu 310000 65000 p.1 40 40)(h2:Zu 310000 65000 p.2 40 40)(h3:Zu 310000 65000 q.1 40 40)(h4:Zu 310000 65000 q.2 40 40)(h5:Zu 310000 65000 c.1 40 40)(h6:Zu 310000 65000 c.2 40 40)(h7:Zu 310000 65000 z 3 0):LinP p q c z:=by
 haveI:=c0;haveI:=h1;haveI:=h2;haveI:=h3;haveI:=h4;haveI:=h5;haveI:=h6;haveI:=h7
 haveI v1:=(inferInstance:Zu 310000 65000 (q.1-p.1) 80 81)
 haveI v2:=(inferInstance:Zu 310000 65000 (q.2-p.2) 80 81)
 haveI w1:=(inferInstance:Zu 310000 65000 (c.1-p.1) 80 81)
 haveI w2:=(inferInstance:Zu 310000 65000 (c.2-p.2) 80 81)
 haveI zs:Zu 310000 65000 (bi p q) 320 327:=(inferInstance:Zu 310000 65000 ((q.1-p.1)*(q.1-p.1)+(q.2-p.2)*(q.2-p.2)) _ _)
 haveI ze:Zu 310000 65000 (bG p q c) 320 327:=(inferInstance:Zu 310000 65000 ((q.1-p.1)*(c.1-p.1)+(q.2-p.2)*(c.2-p.2)) _ _)
 haveI zc:Zu 310000 65000 (ik p q c) 320 327:=(inferInstance:Zu 310000 65000 ((q.1-p.1)*(c.2-p.2)-(q.2-p.2)*(c.1-p.1)) _ _)
 exact⟨v1,v2,w1,w2,zs,ze,zc,inferInstance⟩
structure LinQ(p q c:P2 ts):Prop where
  hd:FP 281 [aV ts,nA (sX (bG p q c)),nA (sX (bi p q))] (.tup [nA (sX (bG p q c*iE (bi p q))),.v .nilIface])
  al:Con prog 268 [.ptr 1000 0,aM (sX p.1) (sX p.2),nA (sX (bG p q c*iE (bi p q))),aM (sX (aQ q p).1) (sX (aQ q p).2)] [(1000,some (bg ts))] (dj (cM p (bG p q c*iE (bi p q)) (aQ q p)).l) [(1000,some (bg ts))]
  n1:Zu 310000 65000 (cM p (bG p q c*iE (bi p q)) (aQ q p)).1 2040 2088
  n2:Zu 310000 65000 (cM p (bG p q c*iE (bi p q)) (aQ q p)).2 2040 2088
theorem H9{p q c:P2 ts}{z:Et ts}(c0:Cy ts 310000 65000)(hn:ts.length<=1)(h1:Zu 310000 65000 p.1 40 40)(h2:Zu 310000 65000 p.2 40 40)(P:LinP p q c z)(h0:an (bi p q)≠0):LinQ p q c:=by
 haveI:=c0;haveI:=h1;haveI:=h2;haveI:=P.v1;haveI:=P.v2;haveI:=P.zs;haveI:=P.ze
 have hd:=qd (ts:=ts) (u:=310000) (k:=65000) (a:=sX (bG p q c)) (b:=sX (bi p q)) (j:=ts.length) P.zs.nm.nl (le_refl _) hn h0 (by decide);haveI:=hd.2;have m1:=jk (ts:=ts) (u:=310000) (k:=65000) (a:=sX (bG p q c*iE (bi p q))) (b:=sX (aQ q p).1) (by decide);have m2:=jk (ts:=ts) (u:=310000) (k:=65000) (a:=sX (bG p q c*iE (bi p q))) (b:=sX (aQ q p).2) (by decide);have m3:=j6 (ts:=ts) (u:=310000) (k:=65000) (a:=sX p.1) (b:=sX (bG p q c*iE (bi p q)*(aQ q p).1)) (by decide);have m4:=j6 (ts:=ts) (u:=310000) (k:=65000) (a:=sX p.2) (b:=sX (bG p q c*iE (bi p q)*(aQ q p).2)) (by decide);exact⟨hd.1,tA m1 m2 m3 m4,(inferInstance:Zu 310000 65000 (p.1+bG p q c*iE (bi p q)*(aQ q p).1) _ _),(inferInstance:Zu 310000 65000 (p.2+bG p q c*iE (bi p q)*(aQ q p).2) _ _)⟩
structure LinS(X:Et ts)(S:Et ts)(p v:P2 ts)(k:Et (aR ts (sX X))):Prop where
  hd:FP 281 [aV (aR ts (sX X)),nA (sX k),nA (sX S)] (.tup [nA (sX (fc X S k)),.v .nilIface])
  al:Con prog 268 [.ptr 1000 0,aM (sX p.1) (sX p.2),nA (sX (fc X S k)),aM (sX v.1) (sX v.2)] [(1000,some (bg (aR ts (sX X))))] (dj (jH X p v (fc X S k)).l) [(1000,some (bg (aR ts (sX X))))]
  n1:Zu 773000000 1101400000 (jH X p v (fc X S k)).1 9 6
  n2:Zu 773000000 1101400000 (jH X p v (fc X S k)).2 9 6
theorem v7{X S:Et ts}{p v:P2 ts}{k:Et (aR ts (sX X))}(hn:ts.length<=1)(E:ExtP X)(hs:Zu 310000 65000 S 320 327)(h0:an S≠0)(p1:Zu 310000 65000 p.1 40 40)(p2:Zu 310000 65000 p.2 40 40)(v1:Zu 310000 65000 v.1 80 81)(v2:Zu 310000 65000 v.2 80 81)
  (hk:Zu 773000000 1101400000 k 2 1):LinS X S p v k:=by
 haveI cy:=E.cy;haveI:=hk;haveI zs:=jO (X:=X) hn hs (by decide);haveI zp1:=jO (X:=X) hn p1 (by decide);haveI zp2:=jO (X:=X) hn p2 (by decide);haveI zv1:=jO (X:=X) hn v1 (by decide);haveI zv2:=jO (X:=X) hn v2 (by decide);haveI:=zp1.zu;haveI:=zp2.zu;haveI:=zv1.zu;haveI:=zv2.zu
 have hdiv:=qd (ts:=aR ts (sX X)) (u:=773000000) (k:=1101400000) (a:=sX k) (b:=sX S) (j:=ts.length) hs.nm.nl (by rw[dB];omega) hn (by rw[nP];exact h0) (by decide);haveI zk:Zu 773000000 1101400000 (fc X S k) 7 4:=hdiv.2;have m1:=jk (ts:=aR ts (sX X)) (u:=773000000) (k:=1101400000) (a:=sX (fc X S k)) (b:=sX v.1) (by decide);have m2:=jk (ts:=aR ts (sX X)) (u:=773000000) (k:=1101400000) (a:=sX (fc X S k)) (b:=sX v.2) (by decide);have m3:=j6 (ts:=aR ts (sX X)) (u:=773000000) (k:=1101400000) (a:=sX p.1) (b:=sX (fc X S k*aL X v.1)) (by decide);have m4:=j6 (ts:=aR ts (sX X)) (u:=773000000) (k:=1101400000) (a:=sX p.2) (b:=sX (fc X S k*aL X v.2)) (by decide);exact⟨hdiv.1,tA m1 m2 m3 m4,(inferInstance:Zu 773000000 1101400000 (aL X p.1+fc X S k*aL X v.1) 9 6),(inferInstance:Zu 773000000 1101400000 (aL X p.2+fc X S k*aL X v.2) 9 6)⟩
theorem AJ{X:Et ts}{w v w' v' u k:Nat}(h:Zu u k X w v)(hw:w<=w')(hv:v<=v'):Zu u k X w' v':=⟨h.nm.mono (AQ hw hv)⟩
theorem UB{x:Int}(h:cond (cond (eJ Value.nilIface) (aa .eql x 0) false) (eJ Value.nilIface) false=true):x=0:=by
 cases h9:aa .eql x 0
 ·rw[h9]at h;cases h
 ·exact cP h9
theorem OR{x:Int}(h:cond (cond (eJ Value.nilIface) (aa .eql x 0) false) (eJ Value.nilIface) false=false):x≠0:=by
 cases h9:aa .eql x 0
 ·exact dA h9
 ·rw[h9]at h;cases h
theorem Lk{x y:AV}{i:Nat}{Q:AV->Prop}(hi:i<2)(hx:Q x)(hy:Q y):∃z,[x,y][i]?=some z/\Q z:=by
 have h:i=0\/i=1:=by omega
 rcases h with rfl |rfl
 ·exact⟨x,rfl,hx⟩
 ·exact⟨y,rfl,hy⟩
theorem Gi{r e:Nat}{a b c d:Et ts}(tw:Tw ts r)(hl:lm ts.length=200000000000)(h1:Nm ts.length e (sX a))(h2:Nm ts.length e (sX b))(h3:Nm ts.length e (sX c))(h4:Nm ts.length e (sX d))(he:e+e+kB r ts.length<=100000000000) :
  FP 80 [aV ts,aM (sX a) (sX b),aM (sX c) (sX d)] (.tup [nA (sX (a*c+b*d)),.v .nilIface]):=by
 have h:=ry tw h1 h2 h3 h4 (by rw[hl];omega);rw[show ae ts.length (sX a)=a from bn _ _,show ae ts.length (sX b)=b from bn _ _,show ae ts.length (sX c)=c from bn _ _,show ae ts.length (sX d)=d from bn _ _]at h;exact h
theorem LX{r e:Nat}{a b c d:Et ts}(tw:Tw ts r)(hl:lm ts.length=200000000000)(h1:Nm ts.length e (sX a))(h2:Nm ts.length e (sX b))(h3:Nm ts.length e (sX c))(h4:Nm ts.length e (sX d))(he:e+e+kB r ts.length<=100000000000) :
  FP 77 [aV ts,aM (sX a) (sX b),aM (sX c) (sX d)] (.tup [nA (sX (a*d-b*c)),.v .nilIface]):=by
 have h:=yT tw h1 h2 h3 h4 (by rw[hl];omega);rw[show ae ts.length (sX a)=a from bn _ _,show ae ts.length (sX b)=b from bn _ _,show ae ts.length (sX c)=c from bn _ _,show ae ts.length (sX d)=d from bn _ _]at h;exact h
end
section
variable{rs:List (List Rt)}{c:List Rat}{o p q:P2 (llq rs)}{z:Et (llq rs)}
theorem Ji(h:TR rs 64990)(hc:bD rs=0)(hn:(llq rs).length<=1)(c0:Ct (llq rs) 310000 65000)(ho1:Zu 310000 65000 o.1 40 40)(ho2:Zu 310000 65000 o.2 40 40)(p1:Zu 310000 65000 p.1 40 40)(p2:Zu 310000 65000 p.2 40 40)(q1:Zu 310000 65000 q.1 40 40)(q2:Zu 310000 65000 q.2 40 40)
  [i3:Zl (llq rs) 310000 65000 c z 3 0] (s1:0<=an z):FP 159 [dG rs,.agg [nA (sX o.1),nA (sX o.2),nA c],dj p.l,dj q.l] (.tup [(dS p q o z).av,br (fC p q)]):=by
 obtain⟨tw,etw⟩:=de h hc;haveI cy:Cy (llq rs) 310000 65000:=⟨c0.ex,by obtain⟨_,h9,_⟩:=c0;exact h9,by obtain⟨_,_,h9,_⟩:=c0;exact h9,by omega⟩
 have hlm:=cy.lm;have hck:=qT rs 64990 h;rw[hc]at hck;have P:=Ip cy p1 p2 q1 q2 ho1 ho2 i3.zu;haveI:=ho1;haveI:=ho2;haveI:=p1;haveI:=p2;haveI:=q1;haveI:=q2;haveI:=P.v1;haveI:=P.v2;haveI:=P.w1;haveI:=P.w2;haveI:=P.zs;haveI:=P.ze;haveI:=P.zc;haveI:=P.zX
 have hci:=E6 (e:=40*310000+40*65000) h hc ho1.nm ho2.nm (i3.nm.mono (by decide)) (by rw[hlm];decide)
 have hra:=FW h hc [(sX o.1,sX o.2,c)] (fun y hy=>by
  rw[List.mem_singleton.1 hy];exact⟨ho1.nm.mono (by decide),ho2.nm.mono (by decide),i3.nm.mono (by decide),by show 0<=an (dE (llq rs) c);rw[show dE (llq rs) c=z from i3.eq];exact s1⟩) (by show 1<=100;omega)
 have a1:=lw (ts:=llq rs) (u:=310000) (k:=65000) (a:=sX q.1) (b:=sX p.1) (by decide);have a2:=lw (ts:=llq rs) (u:=310000) (k:=65000) (a:=sX q.2) (b:=sX p.2) (by decide);have a3:=lw (ts:=llq rs) (u:=310000) (k:=65000) (a:=sX o.1) (b:=sX p.1) (by decide);have a4:=lw (ts:=llq rs) (u:=310000) (k:=65000) (a:=sX o.2) (b:=sX p.2) (by decide);have hkb:80*310000+81*65000+(80*310000+81*65000)+kB 64990 (llq rs).length<=100000000000:=by have:=Bf hn;omega
 have b1:=Gi tw hlm P.v1.nm P.v2.nm P.v1.nm P.v2.nm hkb;have b2:=Gi tw hlm P.v1.nm P.v2.nm P.w1.nm P.w2.nm hkb;have b3:=LX tw hlm P.v1.nm P.v2.nm P.w1.nm P.w2.nm hkb;rw[<- etw]at b1 b2 b3;have m1:=qu (ts:=llq rs) (u:=310000) (k:=65000) (a:=sX (bi p q)) (by decide);have m2:=jk (ts:=llq rs) (u:=310000) (k:=65000) (a:=sX (bi p q)) (b:=c) (by decide);have m3:=jk (ts:=llq rs) (u:=310000) (k:=65000) (a:=sX (ik p q o)) (b:=sX (ik p q o)) (by decide);haveI zz:=i3.zu;have m4:=lw (ts:=llq rs) (u:=310000) (k:=65000) (a:=sX (bi p q*z)) (b:=sX (ik p q o*ik p q o)) (by decide);have m5:=qu (ts:=llq rs) (u:=310000) (k:=65000) (a:=sX (aO p q o z)) (by decide);have m0:=Con.sA (.cons (.refl _) (.cons (Sub.nil 2 none 0) .nil)) (mJ tw []);refine aj func159 ?_;refine gc hck ?_;refine gC (fun t27=>?_) (fun t27=>?_) (st1:=(3,0));cases t27;refine gc hci ?_;refine gC (fun t34=>?_) (fun t34=>?_) (st1:=(6,0));cases t34;refine ge rfl ?_;refine aU [4,5,6,7,8,39,40] [4,5,6,7,8] (fun(i:Nat)=>[(41,some (i64 i))]) (fun _=>[]) (fun i=>i<=2) (fun i=>2-i) 0 (zero_le _) ?_;rintro i hi K1 J1;refine gC (fun t42=>?_) (fun t42=>?_)
 ·have hin:i<2:=a5 (b:=2) t42;obtain⟨zz2,hz2,u,v,hu,hv,rfl⟩:=Lk (x:=dj p.l) (y:=dj q.l) (Q:=fun w=>∃u v,Nm (llq rs).length (40*310000+40*65000) u/\Nm (llq rs).length (40*310000+40*65000) v/\w=aM u v) hin ⟨_,_,p1.nm,p2.nm,rfl⟩ ⟨_,_,q1.nm,q2.nm,rfl⟩;refine gi hz2 ?_;refine gc (Ii h hc hu hv (by rw[hlm];decide)) ?_;refine gC (fun t49=>?_) (fun t49=>?_) (st1:=(12,0));cases t49;refine ga aN ?_;exact aP J1 (i+1) hin
 refine gc hra ?_;refine gC (fun t58=>?_) (fun t58=>?_) (st1:=(16,0)) (st2:=(18,0));cases t58;refine gW (Wk.of (sl:=[(4,some (.ptr 4 0)),(5,some (.ptr 5 0)),(6,some (.ptr 6 0)),(7,some (.ptr 7 0)),(8,some (.ptr 8 0)),(16,some (.ptr 63 0))]) (hp:=[(4,some (.box [.lst 1 (rs.map nR)])),(5,some (.box [nA (sX o.1),nA (sX o.2),nA c])),(6,some (.box [nA (sX p.1),nA (sX p.2)])),(7,some (.box [nA (sX q.1),nA (sX q.2)])),(8,some (.box [nS,nS])),(63,some (bg (llq rs)))]) a7 (.k (.k (.k (.k (.k (.cons rfl (BlkSub.bL (.cons (.of (mS etw)) (.cons (.refl _) .nil)) rfl) .nil))))))) ?_
 refine gt (aX (Con.rB 63 rfl rfl rfl rfl a1) (aK rfl rfl rfl) rfl rfl rfl) ?_;refine gt (aX (Con.rB 63 rfl rfl rfl rfl a2) (aK rfl rfl rfl) rfl rfl rfl) ?_;refine gD ?_;refine gt (aX (Con.rB 63 rfl rfl rfl rfl a3) (aK rfl rfl rfl) rfl rfl rfl) ?_;refine gt (aX (Con.rB 63 rfl rfl rfl rfl a4) (aK rfl rfl rfl) rfl rfl rfl) ?_;refine gD ?_;refine gc b1 ?_;refine gt (aX (Con.rB 63 rfl rfl rfl rfl (nE _ _)) (aK rfl rfl rfl) rfl rfl rfl) ?_;refine gu (dq rfl rfl rfl (fun h=>aX (Con.rB 63 rfl rfl rfl rfl m1) (.cons (.opt rfl (o1 h)) (.cons (.opt rfl (o1 h)) .nil)) rfl rfl rfl)) ?_;refine gC (fun t117=>?_) (fun t117=>?_)
 ·have h0:an (bi p q)=0:=UB t117;refine gR ?_;exact dF (by unfold dS fC;rw[if_pos h0,if_pos h0];exact Sub.tup (.cons ED (.cons (.refl _) .nil)))
 have h0:an (bi p q)≠0:=OR t117;have Q:=H9 cy hn p1 p2 P h0;refine gc b2 ?_;refine gt (aX (Con.rB 63 rfl rfl rfl rfl (nE _ _)) (aK rfl rfl rfl) rfl rfl rfl) ?_;refine gc b3 ?_;refine gt (aX (Con.rB 63 rfl rfl rfl rfl (nE _ _)) (aK rfl rfl rfl) rfl rfl rfl) ?_;refine gt (aX (Con.rB 63 rfl rfl rfl rfl m2) (aK rfl rfl rfl) rfl rfl rfl) ?_;refine gt (aX (Con.rB 63 rfl rfl rfl rfl m3) (aK rfl rfl rfl) rfl rfl rfl) ?_;refine gt (aX (Con.rB 63 rfl rfl rfl rfl m4) (aK rfl rfl rfl) rfl rfl rfl) ?_;refine gt (aX (Con.rB 63 rfl rfl rfl rfl m5) (bC rfl rfl) rfl rfl rfl) ?_;refine gC (fun t150=>?_) (fun t150=>?_)
 ·have h1:an (aO p q o z)=-1:=cP t150;refine gt (aX (Con.rB 63 rfl rfl rfl rfl m0) (.cons (.tmp rfl) (.cons (.const _) .nil)) rfl rfl rfl) ?_;refine bF ?_;unfold dS fC;rw[if_neg h0,if_neg h0,if_pos h1];rfl
 have h1:¬an (aO p q o z)=-1:=dA t150;refine gC (fun t156=>?_) (fun t156=>?_)
 ·have h2:an (aO p q o z)=0:=cP t156;refine gt (aX (Con.rB 63 rfl rfl rfl rfl (ri Q.hd)) (aK rfl rfl rfl) rfl rfl rfl) ?_;refine gt (aX (Con.rB 63 rfl rfl rfl rfl Q.al) (.cons (.tmp rfl) (.cons (.tmp rfl) (.cons (.tmp rfl) (.cons (.tmp rfl) .nil)))) rfl rfl rfl) ?_;refine gt (aX (Con.rB 63 rfl rfl rfl rfl (mJ tw [dj (cM p (bG p q o*iE (bi p q)) (aQ q p)).l])) (bC rfl rfl) rfl rfl rfl) ?_;refine gD ?_;refine bF ?_;unfold dS fC;rw[if_neg h0,if_neg h0,if_neg h1,if_pos h2];rfl
 have h2:¬an (aO p q o z)=0:=dA t156
 have hpos:0<=an (aO p q o z):=by
  have:=T.sgn_cases (ax (llq rs)) (llq rs).length (aO p q o z);have e:an (aO p q o z)=T.sgn (ax (llq rs)) (llq rs).length (aO p q o z):=rfl;omega
 have E:ExtP (aO p q o z):=sj tw hn (AJ P.zX oz oz) hpos;haveI ce:=E.cy;haveI zr:Zl (aR (llq rs) (sX (aO p q o z))) 773000000 1101400000 (cr (llq rs).length) (dE _ (cr (llq rs).length)) 1 0:=Zl.at (sW oz) (by decide);haveI ze':=jO (X:=aO p q o z) hn P.ze (by decide);haveI:=zr.zu;haveI:=ze'.zu
 have e1:=j6 (ts:=aR (llq rs) (sX (aO p q o z))) (u:=773000000) (k:=1101400000) (a:=sX (bG p q o)) (b:=cr (llq rs).length) (by decide);have e2:=lw (ts:=aR (llq rs) (sX (aO p q o z))) (u:=773000000) (k:=1101400000) (a:=sX (bG p q o)) (b:=cr (llq rs).length) (by decide);have S1:=v7 (p:=p) (v:=aQ q p) hn E P.zs h0 p1 p2 P.v1 P.v2 (k:=aL (aO p q o z) (bG p q o)+ba (aO p q o z)) inferInstance;have S2:=v7 (p:=p) (v:=aQ q p) hn E P.zs h0 p1 p2 P.v1 P.v2 (k:=aL (aO p q o z) (bG p q o)-ba (aO p q o z)) inferInstance;have hex:=Fm (a:=sX (aO p q o z)) tw P.zX.nm (by rw[hlm];decide) (by rw[show ae (llq rs).length (sX (aO p q o z))=aO p q o z from bn _ _];exact hpos);refine gt (aG (Con.rB 63 rfl rfl rfl rfl hex) (bC rfl rfl) aH rfl rfl) ?_;refine gt (aX (Con.rB 63 rfl rfl rfl rfl e1) (aK rfl rfl rfl) rfl rfl rfl) ?_;refine gt (aX (Con.rB 63 rfl rfl rfl rfl (ri S1.hd)) (aK rfl rfl rfl) rfl rfl rfl) ?_;refine gt (aX (Con.rB 63 rfl rfl rfl rfl S1.al) (.cons (.tmp rfl) (.cons (.tmp rfl) (.cons (.tmp rfl) (.cons (.tmp rfl) .nil)))) rfl rfl rfl) ?_;refine gt (aX (Con.rB 63 rfl rfl rfl rfl e2) (aK rfl rfl rfl) rfl rfl rfl) ?_;refine gt (aX (Con.rB 63 rfl rfl rfl rfl (ri S2.hd)) (aK rfl rfl rfl) rfl rfl rfl) ?_;refine gt (aX (Con.rB 63 rfl rfl rfl rfl S2.al) (.cons (.tmp rfl) (.cons (.tmp rfl) (.cons (.tmp rfl) (.cons (.tmp rfl) .nil)))) rfl rfl rfl) ?_;refine gt (aX (Con.rB 63 rfl rfl rfl rfl (mJ E.tw [dj (jH (aO p q o z) p (aQ q p) (fc (aO p q o z) (bi p q) (aL (aO p q o z) (bG p q o)+ba (aO p q o z)))).l,dj (jH (aO p q o z) p (aQ q p) (fc (aO p q o z) (bi p q) (aL (aO p q o z) (bG p q o)-ba (aO p q o z)))).l])) (bC rfl rfl) rfl rfl rfl) ?_;refine gD ?_;refine bF ?_;unfold dS fC;rw[if_neg h0,if_neg h0,if_neg h1,if_neg h2];rfl
end
theorem T.inv_congr{r r':(k:Nat)->T k}:∀(k:Nat),(∀j,j<k->r j=r' j)->∀x,T.inv r k x=T.inv r' k x
 |0,_,x=>rfl
 |k+1,h,x=>by
  have ih:=T.inv_congr k (fun j hj=>h j oz);have hm:=T.mul_congr k (fun j hj=>h j oz);have hs:=T.sgn_congr k (fun j hj=>h j oz)
  have hn:T.norm r k x=T.norm r' k x:=by
   unfold T.norm;rw[h k oz];simp only[hm]
  conv=>lhs;unfold T.inv
  conv=>rhs;unfold T.inv
  simp only[ih,hm,hs,hn]
def iG{n N:Nat}(x:T n):T N:=ae N (sh n x)
section
variable{n N:Nat}{r r':(k:Nat)->T k}
theorem jL(x:T n):(iG x:T (n+1))=(x,T.zero n):=by
 unfold iG;rw[ir (eM n x).le,bn]
theorem UX(hN:N=n+1)(h:∀j,j<n->r j=r' j)(x y:T n):(iG (T.mul r n x y):T N)=T.mul r' N (iG x) (iG y):=by
 subst hN;rw[jL,jL,jL,mul_low,T.zero_mul,T.mul_congr n h]
theorem V3(hN:N=n+1)(x y:T n):(iG (T.add n x y):T N)=T.add N (iG x) (iG y):=by
 subst hN;rw[jL,jL,jL];show(T.add n x y,T.zero n)=(T.add n x y,T.add n (T.zero n) (T.zero n));rw[T.zero_add]
theorem Um(hN:N=n+1)(x:T n):(iG (T.neg n x):T N)=T.neg N (iG x):=by
 subst hN;rw[jL,jL];show(T.neg n x,T.zero n)=(T.neg n x,T.neg n (T.zero n));rw[T.neg_zero]
theorem RA(hN:N=n+1)(q:Rat):(iG (T.ofQ n q):T N)=T.ofQ N q:=by
 subst hN;rw[jL];rfl
theorem SC(hN:N=n+1)(h:∀j,j<n->r j=r' j)(x:T n):(iG (T.inv r n x):T N)=T.inv r' N (iG x):=by
 subst hN;rw[jL,jL,T.inv_low,T.inv_congr n h]
end
section
variable{ts:LL}(X:Et ts)
theorem Eh{l:List Rat}(j:Nat)(hj:j<ts.length):ax ts j=ax (aR ts l) j:=(uX hj).symm
theorem fa(x y:Et ts):aL X (x*y)=aL X x*aL X y:=UX (dB _ _) Eh x y
theorem pV(x y:Et ts):aL X (x+y)=aL X x+aL X y:=V3 (dB _ _) x y
theorem EJ(x:Et ts):aL X (-x)=-aL X x:=Um (dB _ _) x
theorem mY(q:Rat):aL X (qE q)=qE q:=RA (dB _ _) q
theorem nC(x:Et ts):aL X (iE x)=iE (aL X x):=SC (dB _ _) Eh x
end
theorem kV{ts:LL}:(qE ((1:Int):Rat):Et ts)=1:=rfl
theorem EK{ts:LL}:(qE ((-1:Int):Rat):Et ts)=-1:=by
 have h:=(T.ofQ_neg ts.length ((1:Nat):Rat))
 rw[show(((-1:Int):Rat))=-((1:Nat):Rat) by rfl];exact h
theorem yK{ts:LL}(d:Et ts):er d=d+d:=by
 have h:(qE ((2:Int):Rat):Et ts)=1+1:=by
  have h:=T.ofQ_add ts.length ((1:Nat):Rat) ((1:Nat):Rat);rw[show(((2:Int):Rat))=((1:Nat):Rat)+((1:Nat):Rat) by decide +kernel];exact h
 unfold er;rw[h];grind
theorem zO{ts:LL}:(qE 0:Et ts)=0:=rfl
section
variable{ts:LL}
theorem vB(p q:P2 ts)(z z2:Et ts):cW p q z z2=cM p ((qE ((1:Int):Rat)*iE (az p q+az p q))*(z+az p q-z2)) (aQ q p):=by
 unfold cW fA cM;rw[yK,kV];refine Prod.ext ?_ ?_
 ·show p.1+(z+az p q-z2)*iE (az p q+az p q)*(q.1-p.1)=p.1+1*iE (az p q+az p q)*(z+az p q-z2)*(q.1-p.1);grind
 ·show p.2+(z+az p q-z2)*iE (az p q+az p q)*(q.2-p.2)=p.2+1*iE (az p q+az p q)*(z+az p q-z2)*(q.2-p.2);grind
def gx(p q:P2 ts):P2 ts:=(qE ((1:Int):Rat)*iE (az p q+az p q)*(0-(aQ q p).2),qE ((1:Int):Rat)*iE (az p q+az p q)*(aQ q p).1)
theorem se(X:Et ts)(f p q:P2 ts):f8 X f (fA p q) (dT X (az p q))=(aL X f.1+ba X*aL X (gx p q).1,aL X f.2+ba X*aL X (gx p q).2):=by
 unfold f8 cM dT gx;rw[yK,EK];refine Prod.ext ?_ ?_
 ·show aL X f.1+ba X*iE (aL X (az p q+az p q))*(-1*aL X (q.2-p.2))=aL X f.1+ba X*aL X (qE ((1:Int):Rat)*iE (az p q+az p q)*(0-(q.2-p.2)));rw[fa,fa,mY,nC,show(0:Et ts)-(q.2-p.2)=-(q.2-p.2) by grind,EJ,kV];grind
 ·show aL X f.2+ba X*iE (aL X (az p q+az p q))*aL X (q.1-p.1)=aL X f.2+ba X*aL X (qE ((1:Int):Rat)*iE (az p q+az p q)*(q.1-p.1));rw[fa,fa,mY,nC,kV];grind
theorem wH(X:Et ts)(f p q:P2 ts):f8 X f (fA p q) (qE ((-1:Int):Rat)*dT X (az p q))=(aL X f.1-ba X*aL X (gx p q).1,aL X f.2-ba X*aL X (gx p q).2):=by
 have h:=se X f p q;have h1:=congrArg Prod.fst h;have h2:=congrArg Prod.snd h;unfold f8 cM at h1 h2 ⊢;rw[EK]at h1 h2 ⊢;dsimp only at h1 h2;refine Prod.ext ?_ ?_
 ·dsimp only;grind
 ·dsimp only;grind
def fU(p q:P2 ts):P2 ts:=(qE ((1:Int):Rat)*iE (bi p q)*(aQ q p).1,qE ((1:Int):Rat)*iE (bi p q)*(aQ q p).2)
theorem wa(X:Et ts)(p q c:P2 ts):jH X p (aQ q p) (fc X (bi p q) (aL X (bG p q c)+ba X)) =
  (aL X (cM p (bG p q c*iE (bi p q)) (aQ q p)).1+ba X*aL X (fU p q).1,aL X (cM p (bG p q c*iE (bi p q)) (aQ q p)).2+ba X*aL X (fU p q).2):=by
 unfold jH fc fU cM;refine Prod.ext ?_ ?_
 ·dsimp only;rw[pV,fa,fa,fa,fa,nC,mY,kV];grind
 ·dsimp only;rw[pV,fa,fa,fa,fa,nC,mY,kV];grind
theorem xc(X:Et ts)(p q c:P2 ts):jH X p (aQ q p) (fc X (bi p q) (aL X (bG p q c)-ba X)) =
  (aL X (cM p (bG p q c*iE (bi p q)) (aQ q p)).1-ba X*aL X (fU p q).1,aL X (cM p (bG p q c*iE (bi p q)) (aQ q p)).2-ba X*aL X (fU p q).2):=by
 unfold jH fc fU cM;refine Prod.ext ?_ ?_
 ·dsimp only;rw[pV,fa,fa,fa,fa,nC,mY,kV];grind
 ·dsimp only;rw[pV,fa,fa,fa,fa,nC,mY,kV];grind
theorem vH(r:(k:Nat)->T k):∀(n:Nat)(q:Rat),T.inv r n (T.ofQ n q)=T.ofQ n (1/q)
 |0,q=>rfl
 |n+1,q=>by
  show T.inv r (n+1) (T.ofQ n q,T.zero n)=(T.ofQ n (1/q),T.zero n);rw[T.inv_low,vH r n q]
theorem xq:(iE (qE 1):Et ts)=1:=by
 show T.inv (ax ts) ts.length (T.ofQ ts.length 1)=_;rw[vH,show(1:Rat)/1=((1:Nat):Rat) by decide +kernel];rfl
end
open Lean.Grind (CommRing)
section
variable{r:(k:Nat)->T k}
def fE{n:Nat}(x:E r n):E r n:=T.inv r n x
theorem q6{n:Nat}(u:E r n)(h:Sg (E r n) (sg r n)):sg r (n+1) (bJ u 0)=sg r n u:=by
 rw[kr,h.zero];unfold T.sgn3;split
 ·rfl
 ·rw[if_pos (.inr rfl)]
theorem V1{n:Nat}{x y:E r n}(hz:T.isZ n y=true):fE (bJ x y:E r (n+1))=bJ (fE x) 0:=by
 have e:y=T.zero n:=(T.isZ_iff n y).1 hz;subst e;have h:=T.inv_low r n x;show T.inv r (n+1) (x,T.zero n)=_;rw[h,E.zero_def];rfl
theorem R7{n:Nat}{x y:E r n}(hz:T.isZ n y=false)(h0:sg r n (aW x y)=0):fE (bJ x y:E r (n+1))=bJ (fE (x+x)) 0:=by
 have h:=Hq r (i:=n) (x:=((x,y):T n×T n)) hz h0;show T.inv r (n+1) (x,y)=_;rw[h,E.zero_def];rfl
theorem LH{n:Nat}{x y:E r n}(hz:T.isZ n y=false)(h0:sg r n (aW x y)≠0):fE (bJ x y:E r (n+1))=bJ (x*fE (aW x y)) (-y*fE (aW x y)):=by
 have h:=D4 r (i:=n) (x:=((x,y):T n×T n)) hz h0;exact h
theorem Px{q:Rat}(hq:bK q≠0):bK ((1:Rat)/q*q+-(((1:Nat):Rat)))=0:=by
 have hq:q≠0:=by
  rintro rfl;exact hq (by decide +kernel)
 have e:(1:Rat)/q*q+-(((1:Nat):Rat))=0:=by
  rw[show(((1:Nat):Rat))=1 from rfl];grind
 rw[e];decide +kernel
theorem Hr(r:(k:Nat)->T k):∀(n:Nat),fj r n->∀x:E r n,sg r n x≠0->sg r n (fE x*x-1)=0
 |0,hp,x,hx=>Px (q:=x) hx
 |n+1,hp,z,hz=>by
  have hp':fj r n:=fun j hj=>hp j oz
  have h:=dN r n hp';have H:=dN r (n+1) hp;have ih:=Hr r n hp';obtain⟨x,y,rfl⟩:=jK z;cases hzy:T.isZ n y
  ·by_cases h0:sg r n (aW x y)=0
   ·rw[R7 hzy h0];have h2:=C3 h (hp n oz) hz h0;have e1:=ih _ h2
    have c:sg r (n+1) (bJ x (-y))=0:=by
     have m:=H.mul (bJ x y) (bJ x (-y))
     have e:(bJ x y:E r (n+1))*bJ x (-y)=bJ (aW x y) 0:=by
      rw[ku];unfold aW;congr 1 <;> grind
     rw[e,q6 _ h,h0]at m;rcases Int.mul_eq_zero.1 m.symm with g |g
     ·exact absurd g hz
     ·exact g
    have e2:bJ (fE (x+x)) 0*bJ x y-(1:E r (n+1))=-(bJ (fE (x+x)) 0*bJ x (-y))+bJ (fE (x+x)*(x+x)-1) 0:=by
     rw[vh,show ∀a b:E r (n+1),a-b=a+-b from fun a b=>by grind,ku,ku,rF,rF,nH,nH];congr 1 <;> grind
    rw[e2];have e3:sg r (n+1) (-(bJ (fE (x+x)) 0*bJ x (-y)))=0:=by rw[H.neg,H.mul,c];simp
    rw[H.zadd e3,q6 _ h];exact e1
   ·rw[LH hzy h0];have e1:=ih _ h0
    have e2:bJ (x*fE (aW x y)) (-y*fE (aW x y))*bJ x y-(1:E r (n+1))=bJ (fE (aW x y)*aW x y-1) 0:=by
     rw[vh,show ∀a b:E r (n+1),a-b=a+-b from fun a b=>by grind,ku,rF,nH];generalize fE (aW x y)=i;unfold aW;congr 1 <;> grind
    rw[e2,q6 _ h];exact e1
  ·rw [V1 hzy];have e:y = 0:=by rw [(T.isZ_iff n y).1 hzy,E.zero_def]
   subst e;rw[q6 _ h]at hz;have e1:=ih _ hz
   have e2:bJ (fE x) 0*bJ x 0-(1:E r (n+1))=bJ (fE x*x-1) 0:=by
    rw[vh,show ∀a b:E r (n+1),a-b=a+-b from fun a b=>by grind,ku,rF,nH];congr 1 <;> grind
   rw[e2,q6 _ h];exact e1
end
section
variable{r:(k:Nat)->T k}{n:Nat}
def zS(h:fj r n):Setoid (E r n) where
  r x y:=sg r n (x-y)=0
  iseqv:=by
    have H:=dN r n h;refine⟨fun x=>?_,fun {x y} e=>?_,fun {x y z} e f=>?_⟩
    · rw[show x-x=0 by grind];exact H.zero
    · rw[show y-x=-(x-y) by grind,H.neg,e];rfl
    · rw[show x-z=(x-y)+(y-z) by grind,H.zadd e];exact f
def Zq(h:fj r n):Type:=Quotient (zS h)
def ah(h:fj r n)(x:E r n):Zq h:=Quotient.mk (zS h) x
theorem jF(h:fj r n){x y:E r n}:ah h x=ah h y↔sg r n (x-y)=0 :=
 ⟨fun e=>Quotient.exact (s:=zS h) e,fun e=>Quotient.sound (s:=zS h) e⟩
instance (h:fj r n):Add (Zq h):=⟨Quotient.lift₂ (fun x y=>ah h (x+y)) (by
  intro a b c d e f;have H:=dN r n h;refine(jF h).2 ?_;rw[show a+b-(c+d)=(a-c)+(b-d) by grind,H.zadd (show sg r n (a-c)=0 from e)];exact f)⟩
instance (h:fj r n):Mul (Zq h):=⟨Quotient.lift₂ (fun x y=>ah h (x*y)) (by
  intro a b c d e f;have H:=dN r n h;refine(jF h).2 ?_;have e':sg r n (a-c)=0:=e;have f':sg r n (b-d)=0:=f;rw[show a*b-c*d=(a-c)*b+c*(b-d) by grind,H.zadd (by rw[H.mul,e'];simp),H.mul,f'];simp)⟩
instance (h:fj r n):Neg (Zq h):=⟨Quotient.lift (fun x=>ah h (-x)) (by
  intro a c e;have H:=dN r n h;refine(jF h).2 ?_;have e':sg r n (a-c)=0:=e;rw[show -a - -c=-(a-c) by grind,H.neg,e'];rfl)⟩
instance (h:fj r n):_root_.Sub (Zq h):=⟨fun x y=>x+-y⟩
instance (h:fj r n)(c:Nat):OfNat (Zq h) c:=⟨ah h (OfNat.ofNat c)⟩
instance (h:fj r n):NatCast (Zq h):=⟨fun c=>ah h (c:E r n)⟩
instance (h:fj r n):IntCast (Zq h):=⟨fun c=>ah h (c:E r n)⟩
instance (h:fj r n):SMul Nat (Zq h):=⟨fun c x=>ah h (c:E r n)*x⟩
instance (h:fj r n):SMul Int (Zq h):=⟨fun c x=>ah h (c:E r n)*x⟩
def Zq.pow{h:fj r n}(x:Zq h):Nat->Zq h
  |0=>ah h 1
  |c+1=>Zq.pow x c*x
instance (h:fj r n):HPow (Zq h) Nat (Zq h):=⟨Zq.pow⟩
variable(h:fj r n)
theorem fL(x y:E r n):ah h (x+y)=ah h x+ah h y:=rfl
theorem bB(x y:E r n):ah h (x*y)=ah h x*ah h y:=rfl
theorem B6(x:E r n):ah h (-x)=-ah h x:=rfl
theorem bP(x y:E r n):ah h (x-y)=ah h x-ah h y:=by
 rw[show x-y=x+-y by grind];rfl
theorem eQ(a:Zq h):∃x,a=ah h x:=Quotient.ind (motive:=fun a=>∃x,a=ah h x) (fun x=>⟨x,rfl⟩) a
instance zRing:CommRing (Zq h) where
  add_zero a:=by
    obtain⟨x,rfl⟩:=eQ h a;exact congrArg (ah h) (show x+0=x by grind)
  add_comm a b:=by
    obtain⟨x,rfl⟩:=eQ h a;obtain⟨y,rfl⟩:=eQ h b;exact congrArg (ah h) (show x+y=y+x by grind)
  add_assoc a b c:=by
    obtain⟨x,rfl⟩:=eQ h a;obtain⟨y,rfl⟩:=eQ h b;obtain⟨z,rfl⟩:=eQ h c;exact congrArg (ah h) (show x+y+z=x+(y+z) by grind)
  mul_assoc a b c:=by
    obtain⟨x,rfl⟩:=eQ h a;obtain⟨y,rfl⟩:=eQ h b;obtain⟨z,rfl⟩:=eQ h c;exact congrArg (ah h) (show x*y*z=x*(y*z) by grind)
  mul_one a:=by
    obtain⟨x,rfl⟩:=eQ h a;exact congrArg (ah h) (show x*1=x by grind)
  one_mul a:=by
    obtain⟨x,rfl⟩:=eQ h a;exact congrArg (ah h) (show 1*x=x by grind)
  left_distrib a b c:=by
    obtain⟨x,rfl⟩:=eQ h a;obtain⟨y,rfl⟩:=eQ h b;obtain⟨z,rfl⟩:=eQ h c;exact congrArg (ah h) (show x*(y+z)=x*y+x*z by grind)
  right_distrib a b c:=by
    obtain⟨x,rfl⟩:=eQ h a;obtain⟨y,rfl⟩:=eQ h b;obtain⟨z,rfl⟩:=eQ h c;exact congrArg (ah h) (show(x+y)*z=x*z+y*z by grind)
  zero_mul a:=by
    obtain⟨x,rfl⟩:=eQ h a;exact congrArg (ah h) (show 0*x=0 by grind)
  mul_zero a:=by
    obtain⟨x,rfl⟩:=eQ h a;exact congrArg (ah h) (show x*0=0 by grind)
  pow_zero a:=rfl
  pow_succ a c:=rfl
  ofNat_succ c:=congrArg (ah h) (Lean.Grind.Semiring.ofNat_succ (α:=E r n) c)
  ofNat_eq_natCast c:=congrArg (ah h) (Lean.Grind.Semiring.ofNat_eq_natCast (α:=E r n) c)
  nsmul_eq_natCast_mul c a:=rfl
  neg_add_cancel a:=by
    obtain⟨x,rfl⟩:=eQ h a;exact congrArg (ah h) (show -x+x=0 by grind)
  sub_eq_add_neg a b:=rfl
  neg_zsmul i a:=by
    obtain⟨x,rfl⟩:=eQ h a
    exact congrArg (ah h) (show((-i:Int):E r n)*x=-((i:E r n)*x) by
      rw[Lean.Grind.Ring.intCast_neg];grind)
  zsmul_natCast_eq_nsmul c a:=rfl
  intCast_ofNat c:=congrArg (ah h) (Lean.Grind.Ring.intCast_ofNat (α:=E r n) c)
  intCast_neg i:=congrArg (ah h) (Lean.Grind.Ring.intCast_neg (α:=E r n) i)
  mul_comm a b:=by
    obtain⟨x,rfl⟩:=eQ h a;obtain⟨y,rfl⟩:=eQ h b;exact congrArg (ah h) (show x*y=y*x by grind)
theorem dO{x:E r n}:ah h x=0↔sg r n x=0:=by
 have e:=jF h (x:=x) (y:=0);rw[show x-0=x by grind]at e;exact e
theorem vt{x:E r n}(hx:sg r n x≠0):ah h (fE x)*ah h x=1:=by
 have e:=(jF h (x:=fE x*x) (y:=1)).2 (Hr r n h x hx);exact e
theorem MN:ah h (1:E r n)=1:=rfl
end
example {r:(k:Nat)->T k} {n:Nat} (h:fj r n) (a b c:Zq h) (e:a*b=1) (f:c*a=2):c=2*b:=by grind
end Go.Lw
namespace Go.Lw
open Go.Proofs
theorem MZ(o:Option Nat):aa .geq (jr o) 0=o.isSome:=by
 cases o with
 |none=>rfl
 |some i=>exact decide_eq_true (by show(i:Int)>=0;omega)
theorem Ve(bs:List (Rat×Rat))(hl:bs.length<=281474976710656)(f:FuncId)(pre caps:List AV)(ok:Nat->Bool)
  (hf:∀(i:Nat)(b:Rat×Rat),bs[i]?=some b->(∀j,j<i->ok j=true)->FP f (pre++[qP b]++caps) (bl (!ok i))) :
  FP 354 [.lst 6 (bs.map qP),.cl f pre caps] (i64 (jr (cC bs.length ok))):=by
 refine aj func354 ?_;refine gl ?_;refine aU [0,1,7] [] (fun(i:Nat)=>[(8,some (i64 i))]) (fun _=>[]) (fun i=>i<=bs.length/\∀j,j<i->ok j=true) (fun i=>bs.length-i) 0 ⟨zero_le _,fun j h=>by omega⟩ ?_;rintro i ⟨hi,hj⟩ K1 J1;refine gC (fun t9=>?_) (fun t9=>?_)
 ·have hin:=a5 t9;obtain⟨b,hb⟩:=aw hin;refine gi (aA hb) ?_;refine gc (hf i b hb hj) ?_;refine gC (fun t16=>?_) (fun t16=>?_)
  ·have h2:=db t16;refine af ?_;rw[gG hin hj h2];rfl
  have h2:=da t16;refine ga aN ?_;exact aP J1 (i+1) ⟨hin,fun j h9=>by rcases lt_or_ge j i with g |g;exact hj j g;(have:j=i:=by omega);subst this;exact h2⟩
 have hin:=bh hi t9;subst hin;refine af ?_;rw[fH hj];rfl
theorem TL(bs:List (Rat×Rat))(hl:bs.length<=281474976710656)(f:FuncId)(pre caps:List AV)(ok:Nat->Bool)
  (hf:∀(i:Nat)(b:Rat×Rat),bs[i]?=some b->(∀j,j<i->ok j=true)->FP f (pre++[qP b]++caps) (bl (!ok i))) :
  FP 259 [.lst 6 (bs.map qP),.cl f pre caps] (bl (cC bs.length ok).isSome):=by
 refine aj func259 ?_;refine gc (Ve bs hl f pre caps ok hf) ?_;refine af ?_;rw[<- MZ];rfl
theorem Oy{v:Rat×Rat}(hv:Sm 3000 v):FP 260 [qP v] (bl (decide (bX v v=0))):=by
 refine aj func260 ?_;refine gc (C6 hv hv oz oz) ?_;refine gc (RG ((hv.dot hv).qs oz)) ?_;refine af ?_;rw[<- UF];rfl
def f6(vs:List (Rat×Rat)):Bool:=(cC vs.length fun i=>!decide (bX (vs.getD i (0,0)) (vs.getD i (0,0))=0)).isSome
theorem GF(vs:List (Rat×Rat))(hl:vs.length<=281474976710656)(hv:∀v∈vs,Sm 3000 v):FP 155 [.lst 6 (vs.map qP)] (bl (f6 vs)):=by
 refine aj func155 ?_;refine gc (Con.sA (.cons (.refl _) (.cons ((Sub.fn0 _).trans (qX rfl)) .nil)) (TL vs hl 260 [] [] (fun i=>!decide (bX (vs.getD i (0,0)) (vs.getD i (0,0))=0)) (fun i b hb _=>by rw[Bool.not_not,ao hb];exact Oy (hv b (mem_of_getElem? hb))))) ?_;refine af ?_;rfl
theorem tW{v:Rat×Rat}(h:f6 [v]=false):bX v v≠0:=by
 intro h0;have h1:cC 1 (fun i=>!decide (bX ([v].getD i (0,0)) ([v].getD i (0,0))=0))=some 0:=gG oz (fun j hj=>by omega) (by show(!decide (bX v v=0))=false;rw[h0];rfl);unfold f6 at h;rw[show[v].length=1 from rfl,h1]at h;cases h
theorem rc{v w:Rat×Rat}(h:f6 [v,w]=false):bX v v≠0/\bX w w≠0:=by
 unfold f6 at h;rw[Option.isSome_eq_false_iff,Option.isNone_iff_eq_none]at h;have h2:=US h;have h3:=h2 0 (by show 0<2;omega);have h4:=h2 1 (by show 1<2;omega);have h5:(!decide (bX v v=0))=true:=h3;have h6:(!decide (bX w w=0))=true:=h4;simp only[Bool.not_eq_true',decide_eq_false_iff_not]at h5 h6;exact⟨h5,h6⟩
theorem He(i n:Nat)(hi:i<=100):FP 164 [i64 i,i64 n] (i64 (if n=1 then 0 else 1-2*(i:Int))):=by
 refine aj func164 ?_;refine gC (fun t6=>?_) (fun t6=>?_)
 ·have h1 : n = 1 := by have := cP t6; omega
  refine af ?_;rw[if_pos h1];rfl
 have h1:¬n=1:=by have:=dA t6;omega
 refine ga (show _=2*(i:Int) by exact AP oz) ?_;refine ga (show _=1-2*(i:Int) by exact d8 oz) ?_;refine af ?_;rw[if_neg h1];rfl
section
variable{ts:LL}
abbrev jW(u:Rat×Rat):Et ts:=qE (bX u u)
def dm(u:Rat×Rat)(w:P2 ts):Et ts:=(qE u.1*w.1+qE u.2*w.2)*iE (jW u)
def dc(u:Rat×Rat)(w:P2 ts):Et ts:=(qE u.1*w.2-qE u.2*w.1)*iE (jW u)
def o5(u:Rat×Rat)(w:P2 ts)(p:Rat×Rat)(o:P2 ts):Et ts:=o.1-(dm u w*qE p.1-dc u w*qE p.2)
def qi(u:Rat×Rat)(w:P2 ts)(p:Rat×Rat)(o:P2 ts):Et ts:=o.2-(dc u w*qE p.1+dm u w*qE p.2)
def gy(u:Rat×Rat)(w:P2 ts)(p:Rat×Rat)(o:P2 ts):Pq:=⟨sX (dm u w),sX (dc u w),sX (o5 u w p o),sX (qi u w p o)⟩
theorem wm(ts:LL)(a b:List Rat):Con prog 75 [.ptr 1000 0,aM a b,.v .nilIface] [(1000,some (bg ts))] (aM a b) [(1000,some (bg ts))]:=by
 have h:=mb (ts.map (List.map rt)) a b;rw[Aw]at h;exact h
theorem p9(q:Rat):ae ts.length (sh 0 (q:Rat))=(qE q:Et ts):=gE _ q
theorem nB{e:Nat}{q:Rat}(h5:ts.length<=5)(h:Qb e q):Nm ts.length e (sh 0 (q:Rat)):=Nm.ofQ h5 (Cb.one h)
structure BdP(ts:LL)(u:Rat×Rat)(w:P2 ts)(p:Rat×Rat)(o:P2 ts):Prop where
  dot:FP 80 [aV ts,aM (sh 0 (u.1:Rat)) (sh 0 (u.2:Rat)),aM (sX w.1) (sX w.2)] (.tup [nA (sX (qE u.1*w.1+qE u.2*w.2)),.v .nilIface])
  crs:FP 77 [aV ts,aM (sh 0 (u.1:Rat)) (sh 0 (u.2:Rat)),aM (sX w.1) (sX w.2)] (.tup [nA (sX (qE u.1*w.2-qE u.2*w.1)),.v .nilIface])
  d1:FP 281 [aV ts,nA (sX (qE u.1*w.1+qE u.2*w.2)),nA (sh 0 (bX u u:Rat))] (.tup [nA (sX (dm u w)),.v .nilIface])
  d2:FP 281 [aV ts,nA (sX (qE u.1*w.2-qE u.2*w.1)),nA (sh 0 (bX u u:Rat))] (.tup [nA (sX (dc u w)),.v .nilIface])
  tn:FP 191 [aV ts,nA (sX (dm u w)),nA (sX (dc u w)),aM (sh 0 (p.1:Rat)) (sh 0 (p.2:Rat))] (.tup [aM (sX (dm u w*qE p.1-dc u w*qE p.2)) (sX (dc u w*qE p.1+dm u w*qE p.2)),.v .nilIface])
  s1:FP 176 [aV ts,nA (sX o.1),nA (sX (dm u w*qE p.1-dc u w*qE p.2))] (.tup [nA (sX (o5 u w p o)),.v .nilIface])
  s2:FP 176 [aV ts,nA (sX o.2),nA (sX (dc u w*qE p.1+dm u w*qE p.2))] (.tup [nA (sX (qi u w p o)),.v .nilIface])
  ok:Pq.ok ts.length 80000000000 (gy u w p o)
theorem Id{r W A K F:Nat}{u p:Rat×Rat}{w o:P2 ts}(tw:Tw ts r)(h2:ts.length<=2)(hk:kB r ts.length<=K)(hu:Sm 3000 u)(hp:Sm 3000 p)(h0:bX u u≠0)
  (w1:Nm ts.length W (sX w.1)) (w2:Nm ts.length W (sX w.2)) (a1:Nm ts.length A (sX o.1)) (a2:Nm ts.length A (sX o.2)) (hW:3000<=W) (hF:4*W+10*K+A+100000<=F) (hF2:F<=80000000000):BdP ts u w p o:=by
 have hl:lm ts.length=200000000000:=by unfold lm;rw[if_pos h2]
 have h5:=tw.five;have hu1:=nB (ts:=ts) h5 hu.x;have hu2:=nB (ts:=ts) h5 hu.y;have hp1:=nB (ts:=ts) h5 hp.x;have hp2:=nB (ts:=ts) h5 hp.y;have hnn:=nB (ts:=ts) h5 (hu.dot hu);have hkE:eB r ts.length<=K:=hk;have ew:∀x:Et ts,ae ts.length (sX x)=x:=fun x=>bn _ _
 have c1:=ry tw (hu1.mono (f:=W) oz) (hu2.mono oz) w1 w2 (by rw[hl];omega);have c2:=yT tw (hu1.mono (f:=W) oz) (hu2.mono oz) w1 w2 (by rw[hl];omega);have n1:=xn tw hu1 hu2 w1 w2;have n2:=zV tw hu1 hu2 w1 w2;rw[p9,p9,ew,ew]at c1 c2 n1 n2
 have hs:T.sgn (ax ts) ts.length (ae ts.length (sh 0 (bX u u:Rat)))≠0:=by
  rw[gE,T.sgn_ofQ];intro h9;exact h0 (pI h9)
 have nb:Nl 0 (sh 0 (bX u u:Rat)):=eM 0 _;have d1:=Aj tw n1 hnn (zero_le _) nb hs (by rw[hl];omega) (by simp only[iB];omega);have d2:=Aj tw n2 hnn (zero_le _) nb hs (by rw[hl];omega) (by simp only[iB];omega);have m1:=z6 tw n1 hnn (zero_le _) nb hs (by rw[hl];omega) (by simp only[iB];omega);have m2:=z6 tw n2 hnn (zero_le _) nb hs (by rw[hl];omega) (by simp only[iB];omega);have e1:∀x:Et ts,ae ts.length (sh ts.length x)=x:=fun x=>bn _ _
 have f1:ae ts.length (sh ts.length (n6 ts (qE u.1:Et ts) (qE u.2:Et ts) w.1 w.2))=(qE u.1*w.1+qE u.2*w.2:Et ts):=bn _ _;have f2:ae ts.length (sh ts.length (mN ts (qE u.1:Et ts) (qE u.2:Et ts) w.1 w.2))=(qE u.1*w.2-qE u.2*w.1:Et ts):=bn _ _;rw[f1,p9]at d1 m1;rw[f2,p9]at d2 m2;have k1:Nm ts.length (2*W+3*K+30000) (sX (dm u w)):=Nm.mono m1 (by simp only[iB];omega);have k2:Nm ts.length (2*W+3*K+30000) (sX (dc u w)):=Nm.mono m2 (by simp only[iB];omega);have c3:=HQ tw k1 k2 (hp1.mono (f:=(2*W+3*K+30000)) oz) (hp2.mono oz) (by rw[hl];omega);have n3:=vO tw k1 k2 hp1 hp2;have n4:=uQ tw k1 k2 hp1 hp2;rw[p9,p9,ew,ew]at c3 n3 n4;have s1:=od tw a1 n3 (by rw[hl];omega);have s2:=od tw a2 n4 (by rw[hl];omega);have m3:=a1.sub n3;have m4:=a2.sub n4;have f3:ae ts.length (sh ts.length (sG ts (dm u w) (dc u w) (qE p.1:Et ts) (qE p.2:Et ts)))=(dm u w*qE p.1-dc u w*qE p.2:Et ts):=bn _ _;have f4:ae ts.length (sh ts.length (sK ts (dm u w) (dc u w) (qE p.1:Et ts) (qE p.2:Et ts)))=(dc u w*qE p.1+dm u w*qE p.2:Et ts):=bn _ _;rw[ew,f3]at s1 m3;rw[ew,f4]at s2 m4;exact⟨c1,c2,d1,d2,c3,s1,s2,k1.mono oz,k2.mono oz,Nm.mono m3 oz,Nm.mono m4 oz⟩
theorem Fs{r:Nat}{u p:Rat×Rat}{w o:P2 ts}(tw:Tw ts r)(h2:ts.length<=2)(hk:kB r ts.length<=1101400000)(hu:Sm 3000 u)(hp:Sm 3000 p)(h0:bX u u≠0)
  (w1:Nm ts.length 17000000000 (sX w.1)) (w2:Nm ts.length 17000000000 (sX w.2)) (a1:Nm ts.length 773000000 (sX o.1)) (a2:Nm ts.length 773000000 (sX o.2)):BdP ts u w p o :=
 Id (F:=80000000000) tw h2 hk hu hp h0 w1 w2 a1 a2 oz oz oz
theorem vQ{a b c:List Rat}(h:FP 176 [aV ts,nA a,nA b] (.tup [nA c,.v .nilIface])):Con prog 78 [.ptr 1000 0,nA a,nA b] [(1000,some (bg ts))] (nA c) [(1000,some (bg ts))]:=by
 refine gF func78 (fun k z h=>bE h) ?_;refine gc h ?_;refine gt (aG (p6 _ _) (aK rfl rfl rfl) aH rfl rfl) ?_;refine gR ?_;exact ay.keep (bq rfl)
theorem AI{u p:Rat×Rat}{w o:P2 ts}(hu:Sm 3000 u)(hp:Sm 3000 p)(B:BdP ts u w p o) :
  Con prog 152 [.ptr 1000 0,qP u,dj w.l,qP p,dj o.l] [(1000,some (bg ts))] (gy u w p o).av [(1000,some (bg ts))]:=by
 refine gF func152 (fun k z h=>bE h) ?_;refine gc (uO (hu.x.qs oz) (hu.y.qs oz)) ?_;refine gc (xV hu oz) ?_;refine gD ?_;refine gc B.dot ?_;refine gt (aX (p6 _ _) (aK rfl rfl rfl) rfl rfl rfl) ?_;refine gt (aX (ua B.d1) (aK rfl rfl rfl) rfl rfl rfl) ?_;refine gc B.crs ?_;refine gt (aX (p6 _ _) (aK rfl rfl rfl) rfl rfl rfl) ?_;refine gt (aX (ua B.d2) (aK rfl rfl rfl) rfl rfl rfl) ?_;refine gD ?_;refine gc (uO (hp.x.qs oz) (hp.y.qs oz)) ?_;refine gc B.tn ?_;refine gt (aX (wm _ _ _) (aK rfl rfl rfl) rfl rfl rfl) ?_;refine gD ?_;refine gt (aX (vQ B.s1) (aK rfl rfl rfl) rfl rfl rfl) ?_;refine gt (aX (vQ B.s2) (aK rfl rfl rfl) rfl rfl rfl) ?_;refine gD ?_;refine gR ?_;exact ay.keep (bq rfl)
end
structure Sv where
  ts:LL
  ps:List Pq
  mode:Int
abbrev Sv.av(s:Sv):AV:=.agg [.lst 1 (s.ts.map nA),.lst 4 (s.ps.map Pq.av),i64 s.mode]
structure Hd where
  p:Rat×Rat
  a:List Rat×List Rat
  c:Rat×Rat
abbrev Hd.av(h:Hd):AV:=.agg [bl (rt h.p.1).neg,ws (rt h.p.1).num,ws (rt h.p.1).den,bl (rt h.p.2).neg,ws (rt h.p.2).num,ws (rt h.p.2).den,nA h.a.1,nA h.a.2,bl (rt h.c.1).neg,ws (rt h.c.1).num,ws (rt h.c.1).den,bl (rt h.c.2).neg,ws (rt h.c.2).num,ws (rt h.c.2).den]
def i7(ts:LL)(h:Hd)(x:List Rat×List Rat):P2 ts:=(dE ts x.1-dE ts h.a.1,dE ts x.2-dE ts h.a.2)
def kj(ts:LL)(h:Hd):P2 ts:=(dE ts h.a.1,dE ts h.a.2)
def kF(ts:LL)(x:List Rat×List Rat)(h:Hd):Pq:=gy (co h.c h.p) (i7 ts h x) h.p (kj ts h)
structure HdP(ts:LL)(x:List Rat×List Rat)(h:Hd):Prop where
  hp:Sm 1000 h.p
  hc:Sm 1000 h.c
  s1:FP 176 [aV ts,nA x.1,nA h.a.1] (.tup [nA (sX (i7 ts h x).1),.v .nilIface])
  s2:FP 176 [aV ts,nA x.2,nA h.a.2] (.tup [nA (sX (i7 ts h x).2),.v .nilIface])
  e1:sX (dE ts h.a.1)=h.a.1
  e2:sX (dE ts h.a.2)=h.a.2
  b:BdP ts (co h.c h.p) (i7 ts h x) h.p (kj ts h)
theorem HdP.body{ts:LL}{x:List Rat×List Rat}{h:Hd}(H:HdP ts x h) :
  Con prog 152 [.ptr 1000 0,qP (co h.c h.p),dj (i7 ts h x).l,qP h.p,aM h.a.1 h.a.2] [(1000,some (bg ts))] (kF ts x h).av [(1000,some (bg ts))]:=by
 have hb:=AI (Sm.mono (H.hc.sub H.hp) oz) (Sm.mono H.hp oz) H.b
 have e:dj (kj ts h).l=aM h.a.1 h.a.2:=by
  show aM (sX (dE ts h.a.1)) (sX (dE ts h.a.2))=_;rw[H.e1,H.e2]
 rw[e]at hb;exact hb
def jB(m:Mt)(hs:List Hd)(i:Nat):Sv:=⟨m.ts,hs.map (kF m.ts (m.ps.getD i ([],[]))),if m.ps.length=1 then 0 else 1-2*(i:Int)⟩
def it(m:Mt)(hs:List Hd)(n:Nat):List AV:=(List.range n).map fun i=>(jB m hs i).av
theorem ye(m:Mt)(hs:List Hd)(n:Nat):(it m hs n).length=n:=by simp[it]
theorem NQ(m:Mt)(hs:List Hd)(n:Nat):it m hs (n+1)=it m hs n++[(jB m hs n).av]:=by unfold it;rw[List.range_succ];simp
theorem Is{m:Mt}{r:Nat}(tw:Tw m.ts r)(hs:List Hd)(hl:hs.length<=2)(ml:m.ps.length<=2)(H:∀x∈m.ps,∀h∈hs,HdP m.ts x h) :
  FP 158 [m.av,.lst 14 (hs.map Hd.av)] (.tup [.lst 3 (it m hs m.ps.length),.v .nilIface]):=by
 refine aj func158 ?_;refine gl ?_;refine gW (Wk.virt 900 3 rfl) ?_;refine aU [1,2,15,16] [2] (fun(i:Nat)=>[(6,some (.ms 900 3 0 i)),(17,some (i64 i))]) (fun i=>[(900,some (.row 3 (it m hs i)))]) (fun i=>i<=m.ps.length) (fun i=>m.ps.length-i) 0 (zero_le _) ?_;rintro i hi K1 J1;refine gC (fun t18=>?_) (fun t18=>?_) (st2:=(17,0))
 ·have hin:=a5 t18;obtain⟨x,hx⟩:=aw hin;have hx9:m.ps.getD i ([],[])=x:=ao hx;have hxm:=mem_of_getElem? hx;refine gi (aA hx) ?_;refine gc (yU tw) ?_;refine gl ?_;refine gc (He i m.ps.length oz) ?_;refine gD ?_ (7,0);refine gW (Wk.o (sl:=[(1,some (.lst 14 (hs.map Hd.av))),(2,some (.ptr 2 0)),(6,some (.ms 900 3 0 i)),(8,some (.ptr 8 0)),(9,some (.ptr 25 0)),(10,some (.ptr 10 0)),(15,some (.lst 2 (m.ps.map dj))),(16,some (i64 m.ps.length)),(17,some (i64 i))]) (hp:=[(2,some (.box [.lst 1 (m.ts.map nA),.lst 2 (m.ps.map dj)])),(8,some (.box [nA x.1,nA x.2])),(10,some (.box [.lst 1 (m.ts.map nA),nS,i64 (if m.ps.length=1 then 0 else 1-2*(i:Int))])),(25,some (bg m.ts)),(900,some (.row 3 (it m hs i)))])) ?_
  refine gl ?_;refine gW (Wk.virt 901 4 rfl) ?_;refine aU [1,2,8,9,10,15,16,17,35,36] [2,8,25,900] (fun(k:Nat)=>[(6,some (.ms 900 3 0 i)),(37,some (i64 k))]) (fun k=>[(10,some (.box [.lst 1 (m.ts.map nA),.ms 901 4 0 k,i64 (if m.ps.length=1 then 0 else 1-2*(i:Int))])),(901,some (.row 4 (((hs.take k).map (kF m.ts x)).map Pq.av)))]) (fun k=>k<=hs.length) (fun k=>hs.length-k) 0 (zero_le _) ?_ (h2:=(.cons rfl (BlkSub.bL (.cons (.refl _) (.cons (.nM _ _ _) (.cons (.refl _) .nil))) rfl) (.k .nil)))
  rintro k hk K2 J2;refine gC (fun t38=>?_) (fun t38=>?_) (st2:=(13,0))
  ·have hkn:=a5 t38;obtain ⟨h,hh⟩:=aw hkn;have Hh:=H x hxm h (mem_of_getElem? hh);refine gi (aA hh) ?_;refine gt (aX (Con.rB 25 rfl rfl rfl rfl (vQ Hh.s1)) (aK rfl rfl rfl) rfl rfl rfl) ?_;refine gt (aX (Con.rB 25 rfl rfl rfl rfl (vQ Hh.s2)) (aK rfl rfl rfl) rfl rfl rfl) ?_;refine gD ?_;refine gc (nv Hh.hc Hh.hp oz oz) ?_;refine gt (aX (Con.rB 25 rfl rfl rfl rfl Hh.body) (.cons (.tmp rfl) (.cons (.tmp rfl) (.cons (.tmp rfl) (.cons (.tmp rfl) (.cons (.tmp rfl) .nil))))) rfl rfl rfl) ?_;refine gs (cz (.tmp rfl) rfl (by rw [length_map,length_map,length_take]; omega) (.tmp rfl) T38 rfl T69 rfl rfl (by dsimp only; simp only [length_cons,length_nil]; omega) rfl rfl) ?_;refine gD ?_ (12,0);refine gW (Wk.of (sl:=[(1,some (.lst 14 (hs.map Hd.av))),(2,some (.ptr 2 0)),(6,some (.ms 900 3 0 i)),(8,some (.ptr 8 0)),(9,some (.ptr 25 0)),(10,some (.ptr 10 0)),(15,some (.lst 2 (m.ps.map dj))),(16,some (i64 m.ps.length)),(17,some (i64 i)),(35,some (.lst 14 (hs.map Hd.av))),(36,some (i64 hs.length)),(37,some (i64 k))]) (hp:=[(2,some (.box [.lst 1 (m.ts.map nA),.lst 2 (m.ps.map dj)])),(8,some (.box [nA x.1,nA x.2])),(25,some (bg m.ts)),(10,some (.box [.lst 1 (m.ts.map nA),.ms 71 4 0 (k + 1),i64 (if m.ps.length = 1 then 0 else 1 - 2 * (i:Int))])),(900,some (.row 3 (it m hs i))),(71,some (.row 4 (((hs.take (k + 1)).map (kF m.ts x)).map Pq.av)))]) a7 (.k (.k (.k (.k (.k (.cons rfl (BlkSub.of (by rw [ef hh,map_append,map_append]; rfl)) .nil))))))) ?_ (12,0)
   refine gW (Wk.rk (k:=71) (d:=901) rfl rfl) ?_;refine ga aN ?_;exact aP J2 (k+1) hkn
  have hkn:=bh hk t38;subst hkn;refine gW ((Wk.freeze (k:=901) rfl).trans<|Wk.of (sl:=[(1,some (.lst 14 (hs.map Hd.av))),(2,some (.ptr 2 0)),(6,some (.ms 900 3 0 i)),(9,some (.ptr 25 0)),(10,some (.ptr 10 0)),(15,some (.lst 2 (m.ps.map dj))),(16,some (i64 m.ps.length)),(17,some (i64 i))]) (hp:=[(2,some (.box [.lst 1 (m.ts.map nA),.lst 2 (m.ps.map dj)])),(25,some (bg m.ts)),(10,some (.box [.lst 1 (m.ts.map nA),.lst 4 ((hs.map (kF m.ts x)).map Pq.av),i64 (if m.ps.length=1 then 0 else 1-2*(i:Int))])),(900,some (.row 3 (it m hs i)))]) a7 (.k (.k (.cons rfl (BlkSub.bL (.cons (.refl _) (.cons (Sub.of (by rw[bQ (by rw[length_map,length_map,length_take];omega),take_length])) (.cons (.refl _) .nil))) rfl) (.k .nil))))) ?_
  refine gC (fun t78=>?_) (fun t78=>?_) (st1:=(14,0));cases t78;refine gs (cz (.tmp rfl) rfl (ye _ _ _).symm (.tmp rfl) T54 rfl T62 rfl rfl (by dsimp only;simp only[length_cons,length_nil];omega) rfl rfl) ?_ (16,0);refine gW (Wk.of (sl:=[(1,some (.lst 14 (hs.map Hd.av))),(2,some (.ptr 2 0)),(6,some (.ms 86 3 0 (i+1))),(15,some (.lst 2 (m.ps.map dj))),(16,some (i64 m.ps.length)),(17,some (i64 i))]) (hp:=[(2,some (.box [.lst 1 (m.ts.map nA),.lst 2 (m.ps.map dj)])),(86,some (.row 3 (it m hs (i+1))))]) a7 (.k (.cons rfl (BlkSub.of (by rw[NQ];unfold jB;rw[hx9])) .nil))) ?_ (16,0);refine gW (Wk.rk (k:=86) (d:=900) rfl rfl) ?_;refine ga aN ?_;exact aP J1 (i+1) hin
 have hin:=bh hi t18;subst hin;refine gW ((Wk.freeze (k:=900) rfl).trans<|Wk.of (sl:=[(6,some (.lst 3 (it m hs m.ps.length)))]) (hp:=[]) (.cons rfl (Sub.of (by rw[bQ (ye _ _ _).symm])) .nil) .nil) ?_;refine bF ?_;rfl
variable{P:Program}{N:Nat}{R:Array Oper}{s:AS}{pos:String}{after:Array Edge}
def vk:Value->Nat
  | .int .i64 _=>1
  | .string _=>2
  |_=>0
def BC(P:Program)(t:TypeId):Bool:=match P.underlying t with |some .string=>true |_=>false
theorem Uc{t:TypeId}(h:BC P t=true):P.underlying t=some .string:=by
 unfold BC at h;split at h
 ·assumption
 ·cases h
def z9 (P : Program) (ks : List Nat) (f : Field) : Bool := f.name != "_" && (match ks[f.offset]? with | some 1 => rK P f.type | some 2 => BC P f.type | _ => false)
def BF(P:Program)(T:TypeId)(ks:List Nat):Bool:=match P.underlying T with
  |some (.struct fs)=>fs.toList.all (z9 P ks)&&!P.stoodInHeld T&&!P.eqGuardType P.depth T
  |_=>false
theorem El{cs:List Value}{ks:List Nat}(hk:cs.map vk=ks)(w:World):∀{fs:List Field},fs.all (z9 P ks)=true->(Op.eqFields 9999 cs.toArray cs.toArray fs).run P w=.ok true w
 |[],_=>rfl
 |f::fs,h=>by
  rw [all_cons,and_eq_true] at h;obtain ⟨h1,h2⟩:=h;have ih:=El hk w h2;unfold z9 at h1;rw [and_eq_true] at h1;obtain ⟨hn,h1⟩:=h1;have n1 : f.name ≠ "_" := by simpa using hn
  have hc:∀k,ks[f.offset]?=some k->∃v,cs[f.offset]?=some v/\vk v=k:=by
   intro k hk2;rw[<- hk,getElem?_map,map_eq_some_iff]at hk2;exact hk2
  split at h1
  ·rename_i e;obtain ⟨v,hv,hvk⟩:=hc 1 e;have hu:=yC h1;have e0:cs.toArray[f.offset]? = some v:=by simpa using hv
   have e1:(part f.type cs.toArray f.offset).run P w=.ok v w:=by simp[part,isAgg,run_underlying hu,e0]
   have:∃n,v=.int .i64 n:=by unfold vk at hvk;split at hvk;exact⟨_,rfl⟩;cases hvk;cases hvk
   obtain⟨n,rfl⟩:=this;have e3:(Op.equalIn 9999 f.type (.int .i64 n) (.int .i64 n)).run P w=.ok (n==n) w:=run_equalIn_int w 9998 f.type .i64 .i64 n n hu;simp only[Op.eqFields,n1,ne_eq,not_false_eq_true,if_true,Sem.run_bind,e1,e3,Result.andThen_ok,Sem.run_ite,beq_self_eq_true,Bool.not_true,Bool.false_eq_true,if_false,ih]
  ·rename_i e;obtain ⟨v,hv,hvk⟩:=hc 2 e;have hu:=Uc h1;have e0:cs.toArray[f.offset]? = some v:=by simpa using hv
   have e1:(part f.type cs.toArray f.offset).run P w=.ok v w:=by simp[part,isAgg,run_underlying hu,e0]
   have:∃n,v=.string n:=by unfold vk at hvk;split at hvk;cases hvk;exact⟨_,rfl⟩;cases hvk
   obtain⟨n,rfl⟩:=this;have e3:(Op.equalIn 9999 f.type (.string n) (.string n)).run P w=.ok (n.toList==n.toList) w:=run_equalIn_string w 9998 f.type n n hu;simp only[Op.eqFields,n1,ne_eq,not_false_eq_true,if_true,Sem.run_bind,e1,e3,Result.andThen_ok,Sem.run_ite,beq_self_eq_true,Bool.not_true,Bool.false_eq_true,if_false,ih]
  ·cases h1
theorem Nx{T:TypeId}{cs:List Value}{ks:List Nat}(hk:cs.map vk=ks)(h:BF P T ks=true)(w:World) :
  (Op.equalIn 10000 T (.agg cs.toArray) (.agg cs.toArray)).run P w=.ok true w/\P.eqGuardType P.depth T=false:=by
 unfold BF at h;split at h
 ·rename_i fs hu;rw [and_eq_true,and_eq_true] at h;obtain ⟨⟨h,h1⟩,h2⟩:=h;have hF:P.fieldsOf T = fs:=by unfold Program.fieldsOf; rw [hu]
  have hs:P.stoodInHeld T=false:=by simpa using h1
  refine⟨?_,by simpa using h2⟩;rw[run_equalIn_struct w 9999 T _ _ (by rw[hF];exact hu) hs,hF];exact El hk w h
 ·cases h
theorem GB{g:Nat->Array Value->Prop}{S:Nat->Nat->Prop}{m:Nat->Option Nat}{u:Value}{cs:List Value}(h:Rep g S m u (.agg (cs.map .v))):u=.agg cs.toArray:=by
 cases h with
 | @agg _ vs _ hn h1 hrr =>
  rw[length_map]at hn;congr 1;refine Array.ext (by simpa using hn) (fun i hi hi2=>?_);have hi3:i<cs.length:=by simpa using hi2
  have r:=hrr i vs[i] (.v cs[i]) (by simp[hi]) (by simp[hi3]);have r2:∀{y z:Value},Rep g S m y (.v z)->y=z:=fun h=>by cases h;rfl
  rw[r2 r];simp
theorem IB{d:Nat}{x y:Operand}{cs:List Value}{ks:List Nat}{S T t:TypeId}(hx:Ev s x (.agg (cs.map .v)))(hy:Ev s y (.agg (cs.map .v)))
  (hk:cs.map vk=ks) (hS:BF P S ks=true) (hN:Nat.blt d N=true) :
  Step P N R s ⟨some d,.binOp .neq S x y T,t,pos,after,none⟩ ⟨some (.v (.bool false)),[],au x++au y,[]⟩ :=
 dz rfl rfl hN fun s' hag C m ac w hr=>⟨.bool false,by
  have h:=GB ((hx.agree hag (fun _ h=>List.mem_append.2 (.inl h))).rep hr);have h':=GB ((hy.agree hag (fun _ h=>List.mem_append.2 (.inr h))).rep hr);obtain⟨r1,r2⟩:=Nx (T:=S) hk hS w;simp only[execOp,h,h',Sem.run_bind,run_eqGuard_agg w .neq S x y _ _ r2,Result.andThen_ok,run_neq_struct,r1,Sem.run_pure,Bool.not_true],.v _⟩
def vq(P:Program)(t:TypeId):Bool:=match P.underlying t with |some (.slice _)=>true |_=>false
theorem Gj{t:TypeId}(h:vq P t=true):∃e,P.underlying t=some (.slice e):=by
 unfold vq at h;split at h
 ·exact⟨_,by assumption⟩
 ·cases h
theorem Iv(w:World)(t e:TypeId)(a:Option Addr)(l c:Nat)(h:P.underlying t=some (.slice e)):(binOp .eql t (.slice a l c) (.slice none 0 0)).run P w=.ok (.bool a.isNone) w:=by
 simp only[binOp];simp[run_equal_slice_nil w t e a l c h]
theorem uu{d:Nat}{x:Operand}{sz:Nat}{e:AV}{es:List AV}{S T t:TypeId}(hx:Ev s x (.lst sz (e::es)))(hS:vq P S=true)(hN:Nat.blt d N=true) :
  Step P N R s ⟨some d,.binOp .eql S x (.const (.slice none 0 0)) T,t,pos,after,none⟩ ⟨some (.v (.bool false)),[],au x,[]⟩ :=
 dz rfl rfl hN fun s' hag C m ac w hr=>⟨.bool false,by
  have h:=(hx.agree hag (fun _ h=>h)).rep hr;obtain⟨el,hel⟩:=Gj hS;generalize hu:ac.eval x=y at h
  have hy:∃b l cap,y=.slice (some b) l cap:=by
   cases h with
   |lst u hb hc hl hs h1 hu hrr=>exact⟨_,_,_,rfl⟩
  obtain⟨b,l,cap,rfl⟩:=hy;have e1:ac.eval (.const (.slice none 0 0))=.slice none 0 0:=rfl;simp[execOp,hu,e1,eqGuard,Iv w S el (some b) l cap hel],.v _⟩
theorem vm{d:Nat}{x:Operand}{a:Option Addr}{l cap:Nat}{S T t:TypeId}(hx:Ev s x (.v (.slice a l cap)))(hS:vq P S=true)(hN:Nat.blt d N=true) :
  Step P N R s ⟨some d,.binOp .eql S x (.const (.slice none 0 0)) T,t,pos,after,none⟩ ⟨some (.v (.bool a.isNone)),[],au x,[]⟩ :=
 dz rfl rfl hN fun s' hag C m ac w hr=>⟨.bool a.isNone,by
  have h:=(hx.agree hag (fun _ h=>h)).rep hr;obtain⟨el,hel⟩:=Gj hS;generalize hu:ac.eval x=y at h;cases h;have e1:ac.eval (.const (.slice none 0 0))=.slice none 0 0:=rfl;simp[execOp,hu,e1,eqGuard,Iv w S el a l cap hel],.v _⟩
theorem CM{f:FuncId}{sz:Nat}{r:AV}(h:∀(a:Option Addr)(cap:Nat),gO P f [.v (.slice a 0 cap)] r):gO P f [.lst sz []] r :=
 ⟨(h none 0).ok,fun ext m w vs he hr hn hv=>by
  have hn1:vs.size=1:=hn;have h0:=hv 0 vs[0] (.lst sz []) (by simp[hn1]) rfl
  have hy:∃a cap,vs[0]=.slice a 0 cap:=by
   generalize vs[0]=y at h0;cases h0 with
   |lst0 a cap=>exact⟨_,_,rfl⟩
   |lst u hb hc hl hs h1 hu hrr=>exact⟨_,_,rfl⟩
  obtain⟨a,cap,hy⟩:=hy;refine(h a cap).ret ext m w vs he hr hn (fun j v x hv2 hx=>?_)
  match j,hx with
  |0,hx =>
   cases hx;have:v=.slice a 0 cap:=by rw[<- hy];have:=Array.getElem?_eq_some_iff.1 hv2;exact this.2.symm
   subst this;exact .v _⟩
end Go.Lw
namespace Go.Lw
theorem Con.rekeyB1{P:Program}{f:FuncId}{k off:Nat}{x x':Blk}{y0:AV}{xs:List AV}{r:AV}(d:Nat)(hx:x.nm=[])(hx':x'.nm=[])(hy0:y0.nm=[])(hxs:(xs.all fun x=>x.nm.isEmpty)=true)(hr:r.nm=[])
  (h:Con P f (y0 :: .ptr k off::xs) [(k,some x)] r [(k,some x')]):Con P f (y0 :: .ptr d off::xs) [(d,some x)] r [(d,some x')]:=by
 refine⟨h.ok,?_⟩;intro ext m w vs hext hheap hvs hrep
 have h1 := h.ret ext (fun _ => m d) w vs hext (vA (k := d) hx rfl hheap) (by simpa using hvs) (by
  intro j v y hv hy;rw[jU (d:=k) (k:=d) (y:=x) (x:=x) (m2:=fun _=>m d) (m:=m) rfl]
  match j,hy with
  |0,hy =>
   cases hy;exact iK hy0 (hrep 0 v _ hv rfl)
  |1,hy =>
   cases hy;have h2:=hrep 1 v _ hv rfl;cases h2 with
   |ptr hm=>exact .ptr hm
  |j+2,hy =>
   have h2:=hrep (j+2) v y hv hy;refine iK ?_ h2;have:=List.all_eq_true.1 hxs y (mem_of_getElem? hy);simpa using this)
 refine Calls.mono h1 ?_;rintro e w' ⟨v,m',rfl,hf,hh,hn,hk,hrr⟩
 have ho:a8 [(k,some x)] (fun _=>m d)=a8 [(d,some x)] m:=by
  funext b;apply propext;rw[j5,j5]
 refine⟨v,fun _=>m' k,rfl,ho▸hf,vA (k:=k) hx' rfl hh,?_,?_,?_⟩
 ·intro k' x b hx hb;rw[<- ho];exact hn k _ b (by rw[aT,if_pos rfl]) hb
 ·intro k' x y hx hy;obtain⟨rfl,_⟩:=fu hx;exact hk k _ _ (by rw[aT,if_pos rfl]) (by rw[aT,if_pos rfl])
 ·rw[jU (d:=d) (k:=k) (y:=x') (x:=x') (m2:=fun _=>m' k) (m:=m') rfl];exact iK hr hrr
open Go.Proofs
theorem qz{p q:Rat×Rat}(hp:Sm 1000 p)(hq:Sm 1000 q):Qz 310000 (bt p q) 3:=sf (SK hp hq) oz
structure MtOk(ts:LL)(m:Mt):Prop where
  tw:∃r,Tw m.ts r/\kB r m.ts.length<=1101400000
  two:m.ts.length<=2
  ln:m.ps.length<=2
  ps:∀x∈m.ps,Nm m.ts.length 15500000000 x.1/\Nm m.ts.length 15500000000 x.2
  up:∀(e:Nat)(y:Et ts),Nm ts.length e (sX y)->Nm m.ts.length e (sX y)/\sX (dE m.ts (sX y))=sX y
theorem Bg{ts:LL}(e:Nat)(y:Et ts)(h:Nm ts.length e (sX y)):Nm ts.length e (sX y)/\sX (dE ts (sX y))=sX y:=⟨h,congrArg (sh ts.length) (bn _ _)⟩
theorem w8{ts:LL}{X:Et ts}(hn:ts.length<=1)(e:Nat)(y:Et ts)(h:Nm ts.length e (sX y)):Nm (aR ts (sX X)).length e (sX y)/\sX (dE (aR ts (sX X)) (sX y))=sX y:=by
 refine⟨lZ h oz,?_⟩;show sh (aR ts (sX X)).length (ae (aR ts (sX X)).length (sX y))=sX y;rw[dB,ir h.nl.le];show(if T.isZ ts.length (T.zero ts.length)=true then sh ts.length (ae ts.length (sX y))else _)=_;rw[if_pos ((T.isZ_iff _ _).2 rfl)];exact congrArg (sh ts.length) (bn _ _)
theorem pv{ts:LL}{ps:List (List Rat×List Rat)}(tw:Tw ts 64990)(hn:ts.length<=1)(hl:ps.length<=2)(hp:∀x∈ps,Nm ts.length 15500000000 x.1/\Nm ts.length 15500000000 x.2):MtOk ts ⟨ts,ps⟩ :=
 ⟨⟨64990,tw,by have:=Bf hn;show kB 64990 ts.length<=_;omega⟩,by show ts.length<=2;omega,hl,hp,Bg⟩
theorem Iw{ts:LL}{X:Et ts}{ps:List (List Rat×List Rat)}(E:ExtP X)(hn:ts.length<=1)(hl:ps.length<=2)(hp:∀x∈ps,Nm (aR ts (sX X)).length 15500000000 x.1/\Nm (aR ts (sX X)).length 15500000000 x.2):MtOk ts ⟨aR ts (sX X),ps⟩ :=
 ⟨⟨366909990,E.tw,by
  have h:=ip 366909990 (show ts.length+1<=2 by omega);have h2:eB 366909990 2=1100729976:=by decide
  show eB 366909990 (aR ts (sX X)).length<=_;rw[dB];omega⟩,by show(aR ts (sX X)).length<=2;rw[dB];omega,hl,hp,w8 hn⟩
theorem qH{ts:LL}{m:Mt}(ok:MtOk ts m){x:List Rat×List Rat}(hx:x∈m.ps){p c:Rat×Rat}{o:P2 ts}(a1:Nm ts.length 773000000 (sX o.1))(a2:Nm ts.length 773000000 (sX o.2))(hp:Sm 1000 p)(hc:Sm 1000 c)
  (h0:bX (co c p) (co c p)≠0):HdP m.ts x ⟨p,o.l,c⟩:=by
 obtain⟨r,tw,hk⟩:=ok.tw;obtain⟨n1,n2⟩:=ok.ps x hx;obtain⟨b1,e1⟩:=ok.up _ _ a1;obtain⟨b2,e2⟩:=ok.up _ _ a2;have hl:lm m.ts.length=200000000000:=by unfold lm;rw[if_pos ok.two]
 refine⟨hp,hc,od tw n1 b1 (by rw[hl];omega),od tw n2 b2 (by rw[hl];omega),e1,e2,Fs tw ok.two hk ((hc.sub hp).mono oz) (hp.mono oz) h0 ((n1.sub b1).mono oz) ((n2.sub b2).mono oz) ?_ ?_⟩
 ·show Nm m.ts.length 773000000 (sX (dE m.ts (sX o.1)));rw[e1];exact b1
 ·show Nm m.ts.length 773000000 (sX (dE m.ts (sX o.2)));rw[e2];exact b2
theorem lD{α:Type}{P:α->Prop}{x y:α}(hx:P x)(hy:P y):∀z∈[x,y],P z:=by
 intro z hz;rcases List.mem_cons.1 hz with rfl |hz
 ·exact hx
 ·rw[List.mem_singleton.1 hz];exact hy
theorem ii{α:Type}{P:α->Prop}{x:α}(hx:P x):∀z∈[x],P z:=by
 intro z hz;rw[List.mem_singleton.1 hz];exact hx
theorem Fu{ts:LL}{x y z x2 y2 z2:Et ts}(tw:Tw ts 64990)(hn:ts.length<=1)(c:Ct ts 310000 65000)(h1:Zu 310000 65000 x 40 40)(h2:Zu 310000 65000 y 40 40)(h3:Zu 310000 65000 z 3 0)(h4:Zu 310000 65000 x2 40 40)(h5:Zu 310000 65000 y2 40 40)(h6:Zu 310000 65000 z2 3 0)
  (h0:fw (x,y) (x2,y2) z z2=0):MtOk ts (dX (x,y) (x2,y2) z z2):=by
 have P:=BX c h1 h2 h3 h4 h5 h6;have ce:=c.ex;have ck:=c.k1;have cu:=c.u3;haveI cy:Cy ts 310000 65000:=⟨ce,ck,cu,by omega⟩
 unfold fw at h0;unfold dX
 by_cases hd:an (az (x,y) (x2,y2))=0
 ·rw[if_pos hd]at h0 ⊢;unfold lG at h0;unfold kJ
  by_cases hz:an (z-z2)≠0
  ·rw[if_pos hz];exact pv tw hn (by simp) (by simp)
  ·rw[if_neg hz]
   by_cases hp:0<an z
   ·rw[if_pos ⟨Decidable.not_not.1 hz,hp⟩]at h0;cases h0
   ·rw[if_neg hp];haveI:=h1;haveI:=h2
    refine pv tw hn (by simp) (ii ⟨?_,?_⟩)
    ·exact(inferInstance:Zu 310000 65000 (x+0*x) _ _).nm.mono (by decide)
    ·exact(inferInstance:Zu 310000 65000 (y+0*y) _ _).nm.mono (by decide)
 ·rw [if_neg hd];have ht0:an (er (az (x,y) (x2,y2))) ≠ 0:=by rw [wi tw]; exact hd
  by_cases hx0:an (bc (x,y) z (x2,y2) z2)<0
  ·rw[if_pos hx0];exact pv tw hn (by simp) (by simp)
  ·rw[if_neg hx0];obtain⟨_,_,f1,f2⟩:=DO hn h1 h2 h3 h6 P ht0
   by_cases hx1:an (bc (x,y) z (x2,y2) z2)=0
   ·rw[if_pos hx1];exact pv tw hn (by simp) (ii ⟨f1.nm.mono (by decide),f2.nm.mono (by decide)⟩)
   ·rw[if_neg hx1];have E:ExtP (bc (x,y) z (x2,y2) z2):=sj tw hn P.zX oz;have S:=GR (X:=bc (x,y) z (x2,y2) z2) (d:=az (x,y) (x2,y2)) (f:=cW (x,y) (x2,y2) z z2) (v:=fA (x,y) (x2,y2)) hn E P.zt ht0 f1 f2 P.z1 P.z2;exact Iw E hn (by simp) (lD ⟨S.n1.1.nm.mono (by decide),S.n1.2.nm.mono (by decide)⟩ ⟨S.n2.1.nm.mono (by decide),S.n2.2.nm.mono (by decide)⟩)
theorem DK{ts:LL}{o p q:P2 ts}{z:Et ts}(tw:Tw ts 64990)(hn:ts.length<=1)(c:Ct ts 310000 65000)(o1:Zu 310000 65000 o.1 40 40)(o2:Zu 310000 65000 o.2 40 40)(p1:Zu 310000 65000 p.1 40 40)(p2:Zu 310000 65000 p.2 40 40)(q1:Zu 310000 65000 q.1 40 40)(q2:Zu 310000 65000 q.2 40 40)
  (i3:Zu 310000 65000 z 3 0) (h0:fC p q=0):MtOk ts (dS p q o z):=by
 have ce:=c.ex;have ck:=c.k1;have cu:=c.u3;haveI cy:Cy ts 310000 65000:=⟨ce,ck,cu,by omega⟩
 have P:=Ip cy p1 p2 q1 q2 o1 o2 i3;unfold fC at h0;unfold dS
 by_cases hs:an (bi p q)=0
 ·rw[if_pos hs]at h0;cases h0
 ·rw[if_neg hs]
  by_cases h1:an (aO p q o z)=-1
  ·rw[if_pos h1];exact pv tw hn (by simp) (by simp)
  ·rw[if_neg h1]
   by_cases h2:an (aO p q o z)=0
   ·rw[if_pos h2];have Q:=H9 cy hn p1 p2 P hs;exact pv tw hn (by simp) (ii ⟨Q.n1.nm.mono (by decide),Q.n2.nm.mono (by decide)⟩)
   ·rw[if_neg h2]
    have hpos:0<=an (aO p q o z):=by
     have:=T.sgn_cases (ax ts) ts.length (aO p q o z);have e:an (aO p q o z)=T.sgn (ax ts) ts.length (aO p q o z):=rfl;omega
    have E:ExtP (aO p q o z):=sj tw hn (AJ P.zX oz oz) hpos;haveI ce:=E.cy;haveI zr:Zl (aR ts (sX (aO p q o z))) 773000000 1101400000 (cr ts.length) (dE _ (cr ts.length)) 1 0:=Zl.at (sW oz) (by decide);haveI ze':=jO (X:=aO p q o z) hn P.ze (by decide);haveI:=zr.zu;haveI:=ze'.zu
    have S1:=v7 (p:=p) (v:=aQ q p) hn E P.zs hs p1 p2 P.v1 P.v2 (k:=aL (aO p q o z) (bG p q o)+ba (aO p q o z)) inferInstance;have S2:=v7 (p:=p) (v:=aQ q p) hn E P.zs hs p1 p2 P.v1 P.v2 (k:=aL (aO p q o z) (bG p q o)-ba (aO p q o z)) inferInstance;exact Iw E hn (by simp) (lD ⟨S1.n1.nm.mono (by decide),S1.n2.nm.mono (by decide)⟩ ⟨S2.n1.nm.mono (by decide),S2.n2.nm.mono (by decide)⟩)
abbrev pF(r:List AV×Nat):AV:=.tup [.lst 3 r.1,br r.2]
def my(l:Li)(a:As)(i k:Int)(j0 j1 j2:Jt):List AV×Nat :=
  if f6 [co (am l j2 i) (am l j0 i),co (am l j2 k) (am l j1 k)]=true then([],15)
  else if fw (aB l a j0 i) (aB l a j1 k) (qE (bt (am l j2 i) (am l j0 i))) (qE (bt (am l j2 k) (am l j1 k)))≠0 then([],fw (aB l a j0 i) (aB l a j1 k) (qE (bt (am l j2 i) (am l j0 i))) (qE (bt (am l j2 k) (am l j1 k))))
  else(it (dX (aB l a j0 i) (aB l a j1 k) (qE (bt (am l j2 i) (am l j0 i))) (qE (bt (am l j2 k) (am l j1 k)))) [⟨am l j0 i,P2.l (aB l a j0 i),am l j2 i⟩,⟨am l j1 k,P2.l (aB l a j1 k),am l j2 k⟩]
    (dX (aB l a j0 i) (aB l a j1 k) (qE (bt (am l j2 i) (am l j0 i))) (qE (bt (am l j2 k) (am l j1 k)))).ps.length,0)
theorem VE{l:Li}{a:As}(D:DyR l a)(hn:(llq a.rs).length<=1){i k z0 z1 z2:Int}{j0 j1 j2:Jt}(hg:GrOk l ⟨1,[i,k],[z0,z1,z2],0⟩)(P:RrrP 3900000 l a ⟨1,[i,k],[z0,z1,z2],0⟩ i k z0 z1 z2 j0 j1 j2) :
  Con prog 65 [.ptr 1000 0] [(1000,some (cg l ⟨1,[i,k],[z0,z1,z2],0⟩ a))] (pF (my l a i k j0 j1 j2)) [(1000,some (cg l ⟨1,[i,k],[z0,z1,z2],0⟩ a))]:=by
 haveI c:=D.s.ct D.hc;obtain⟨tw,etw⟩:=de D.s.tr D.hc;have hq0:=gj D.hl D.li P.h0 P.p0.or;have hq1:=gj D.hl D.li P.h1 P.p1.or;have hq2:=gj D.hl D.li P.h2 P.t1;have hq3:=gj D.hl D.li P.h2 P.t2;obtain⟨y1,y2⟩:=lT D.hl D.li D.al D.s D.hc P.h0 P.p0;obtain⟨y3,y4⟩:=lT D.hl D.li D.al D.s D.hc P.h1 P.p1;haveI:=y1;haveI:=y2;haveI:=y3;haveI:=y4
 haveI q1:=qz hq2 hq0;haveI q2:=qz hq3 hq1;haveI z1:Zu 310000 65000 (qE (bt (am l j2 i) (am l j0 i)):Et (llq a.rs)) 3 0:=inferInstance;haveI z2:Zu 310000 65000 (qE (bt (am l j2 k) (am l j1 k)):Et (llq a.rs)) 3 0:=inferInstance;have hr:=NO (a:=sX (aB l a j0 i).1) (b:=sX (aB l a j0 i).2) (c:=sh 0 (bt (am l j2 i) (am l j0 i):Rat)) (a2:=sX (aB l a j1 k).1) (b2:=sX (aB l a j1 k).2) (c2:=sh 0 (bt (am l j2 k) (am l j1 k):Rat)) D.s.tr D.hc hn rfl rfl (Ai _ _) (Ai _ _);have hzz:=GF [co (am l j2 i) (am l j0 i),co (am l j2 k) (am l j1 k)] (by show 2<=_;omega) (lD ((hq2.sub hq0).mono oz) ((hq3.sub hq1).mono oz));refine gF func65 (fun k z h=>bE h) ?_;refine gt (aX (DD D.hl D.li D.al D.hc D.two hg P.h0 P.h1 P.h2 P.p0 P.p1 P.t1 P.t2) (cA rfl) rfl rfl rfl) ?_;refine gC (fun t13=>?_) (fun t13=>?_) (st1:=(3,0));cases t13;refine gc (nv hq2 hq0 oz oz) ?_;refine gc (nv hq3 hq1 oz oz) ?_;refine gc hzz ?_;refine gD ?_;refine gC (fun t23=>?_) (fun t23=>?_)
 ·have h1:f6 [co (am l j2 i) (am l j0 i),co (am l j2 k) (am l j1 k)]=true:=t23;refine gR ?_;exact(ay.keep (bq rfl)).sub (by unfold my;rw[if_pos h1];exact Sub.tup (.cons (.nil _ _ _) (.cons (.refl _) .nil)))
 have h1:f6 [co (am l j2 i) (am l j0 i),co (am l j2 k) (am l j1 k)]=false:=t23;obtain⟨w1,w2⟩:=rc h1;refine gc (xI hq0 hq2 _) ?_;refine gc (xI hq1 hq3 _) ?_;refine gc hr ?_;refine gD ?_;refine gC (fun t51=>?_) (fun t51=>?_)
 ·have h2:=df t51;refine gR ?_;exact(ay.keep (bq rfl)).sub (by unfold my;rw[if_neg (by rw[h1];decide),if_pos h2];exact Sub.tup (.cons (.nil _ _ _) (.cons (.refl _) .nil)))
 have h2:=cZ t51;have ok:=Fu (x:=(aB l a j0 i).1) (y:=(aB l a j0 i).2) (x2:=(aB l a j1 k).1) (y2:=(aB l a j1 k).2) tw hn c y1 y2 z1 y3 y4 z2 h2;obtain⟨r9,tw9,_⟩:=ok.tw
 have hpl:=Is tw9 [⟨am l j0 i,P2.l (aB l a j0 i),am l j2 i⟩,⟨am l j1 k,P2.l (aB l a j1 k),am l j2 k⟩] (le_refl 2) ok.ln
  (fun x hx=>lD (qH ok hx (y1.nm.mono (by decide)) (y2.nm.mono (by decide)) hq0 hq2 w1) (qH ok hx (y3.nm.mono (by decide)) (y4.nm.mono (by decide)) hq1 hq3 w2))
 refine gc hpl ?_;refine gR ?_;exact(ay.keep (bq rfl)).sub (Sub.of (by unfold my;rw[if_neg (by rw[h1];decide),if_neg (fun h=>h h2)];rfl))
def nc(l:Li)(a:As)(i:Int)(j0 j:Jt):List AV×Nat :=
  if f6 [co (aS l i j.point) (am l j0 i)]=true then([],15)
  else if fC (bf l a j.b j.on) (bf l a j.b j.to)≠0 then([],fC (bf l a j.b j.on) (bf l a j.b j.to))
  else(it (dS (bf l a j.b j.on) (bf l a j.b j.to) (aB l a j0 i) (qE (bt (aS l i j.point) (am l j0 i)))) [⟨am l j0 i,P2.l (aB l a j0 i),aS l i j.point⟩]
    (dS (bf l a j.b j.on) (bf l a j.b j.to) (aB l a j0 i) (qE (bt (aS l i j.point) (am l j0 i)))).ps.length,0)
theorem Ro{l:Li}{a:As}(D:DyR l a)(hn:(llq a.rs).length<=1){i z0 z1:Int}{j0 j:Jt}(hg:GrOk l ⟨2,[i],[z0,z1],0⟩)(P:SlP 3900000 l a ⟨2,[i],[z0,z1],0⟩ 2 i z0 z1 j0 j)(ha:j.a=i)(hb:Pd 3900000 a j.b) :
  Con prog 66 [.ptr 1000 0] [(1000,some (cg l ⟨2,[i],[z0,z1],0⟩ a))] (pF (nc l a i j0 j)) [(1000,some (cg l ⟨2,[i],[z0,z1],0⟩ a))]:=by
 haveI c:=D.s.ct D.hc;obtain⟨tw,etw⟩:=de D.s.tr D.hc;obtain⟨i1,i2,i3,i4,i5⟩:=cU D.li P.h1;have hq2:Sm 1000 (aS l i j.point):=by rw[<- ha];exact jP D.hl D.li i1 i3
 have hq0:=gj D.hl D.li P.h0 P.p0.or;obtain⟨y1,y2⟩:=lT D.hl D.li D.al D.s D.hc P.h0 P.p0;obtain⟨y3,y4⟩:=nf D.hl D.li D.al D.s D.hc i2 i4 hb;obtain⟨y5,y6⟩:=nf D.hl D.li D.al D.s D.hc i2 (i5 P.hk) hb;haveI q1:=qz hq2 hq0;haveI z1:Zu 310000 65000 (qE (bt (aS l i j.point) (am l j0 i)):Et (llq a.rs)) 3 0:=inferInstance;have hr:=Ji (o:=aB l a j0 i) (p:=bf l a j.b j.on) (q:=bf l a j.b j.to) (c:=sh 0 (bt (aS l i j.point) (am l j0 i):Rat)) D.s.tr D.hc hn c y1 y2 y3 y4 y5 y6 (Ai _ _);have hzz:=GF [co (aS l i j.point) (am l j0 i)] (by show 1<=_;omega) (ii ((hq2.sub hq0).mono oz));refine gF func66 (fun k z h=>bE h) ?_;refine gt (aX (CD D.hl D.li D.al D.hc D.two hg P.h0 P.h1 P.p0 ha P.hk hb) (cA rfl) rfl rfl rfl) ?_;refine gC (fun t15=>?_) (fun t15=>?_) (st1:=(3,0));cases t15;refine gc (nv hq2 hq0 oz oz) ?_;refine gc hzz ?_;refine gC (fun t25=>?_) (fun t25=>?_)
 ·have h1:f6 [co (aS l i j.point) (am l j0 i)]=true:=t25;refine gR ?_;exact(ay.keep (bq rfl)).sub (by unfold nc;rw[if_pos h1];exact Sub.tup (.cons (.nil _ _ _) (.cons (.refl _) .nil)))
 have h1:f6 [co (aS l i j.point) (am l j0 i)]=false:=t25;have w1:=tW h1;refine gc (xI hq0 hq2 _) ?_;refine gc hr ?_;refine gD ?_;refine gC (fun t48=>?_) (fun t48=>?_)
 ·have h2:=df t48;refine gR ?_;exact(ay.keep (bq rfl)).sub (by unfold nc;rw[if_neg (by rw[h1];decide),if_pos h2];exact Sub.tup (.cons (.nil _ _ _) (.cons (.refl _) .nil)))
 have h2:=cZ t48;have ok:=DK (o:=aB l a j0 i) (p:=bf l a j.b j.on) (q:=bf l a j.b j.to) (z:=qE (bt (aS l i j.point) (am l j0 i))) tw hn c y1 y2 y3 y4 y5 y6 z1 h2;obtain⟨r9,tw9,_⟩:=ok.tw;have hpl:=Is tw9 [⟨am l j0 i,P2.l (aB l a j0 i),aS l i j.point⟩] (show 1<=2 by omega) ok.ln (fun x hx=>ii (qH ok hx (y1.nm.mono (by decide)) (y2.nm.mono (by decide)) hq0 hq2 w1));refine gc hpl ?_;refine gR ?_;exact(ay.keep (bq rfl)).sub (Sub.of (by unfold nc;rw[if_neg (by rw[h1];decide),if_neg (fun h=>h h2)];rfl))
theorem Ga{ts:LL}{r e:Nat}(tw:Tw ts r){a b c:List Rat}(ha:Nm ts.length e a)(hb:Nm ts.length e b)(hc:Nm ts.length e c)(he:2*(e+e+kB r ts.length)<=lm ts.length) :
  FP 162 [aV ts,nA a,aM b c] (.tup [aM (sh ts.length (T.mul (ax ts) ts.length (ae ts.length a) (ae ts.length b))) (sh ts.length (T.mul (ax ts) ts.length (ae ts.length a) (ae ts.length c))),.v .nilIface]):=by
 refine aj func162 ?_;refine gc (uz (e:=e) tw [a,b,c] (by simp only[mem_cons,not_mem_nil,or_false];rintro x (rfl |rfl |rfl) <;> assumption) oz (by simp)) ?_;refine gC (fun t19=>?_) (fun t19=>?_) (st1:=(3,0));cases t19;refine gt (aG (Con.rB 24 rfl rfl rfl rfl (lH tw ha hb oz)) (aK rfl rfl rfl) aH rfl rfl) ?_;refine gt (aG (Con.rB 24 rfl rfl rfl rfl (lH tw ha hc oz)) (aK rfl rfl rfl) aH rfl rfl) ?_;refine gt (aG (Con.rB 24 rfl rfl rfl rfl (xd _ _ _)) (bC rfl rfl) aH rfl rfl) ?_;refine gD ?_;refine bF ?_;rfl
section
variable{ts:LL}
def rv(q w1 w2 h:Et ts):Et ts:=q*w1-h*-w2
def sL(q w1 w2 h:Et ts):Et ts:=q*w2-h*w1
def mF(ts:LL)(q h d:List Rat)(w:List Rat×List Rat):P2 ts:=(rv (dE ts q) (dE ts w.1) (dE ts w.2) (dE ts h)*iE (dE ts d),sL (dE ts q) (dE ts w.1) (dE ts w.2) (dE ts h)*iE (dE ts d))
structure Rp where
  v:Rat×Rat
  p:Rat×Rat
  a:List Rat×List Rat
  h:List Rat
  d:List Rat
  w:List Rat×List Rat
def m7(ts:LL)(R:Rp)(q:List Rat):Pq:=gy R.v (mF ts q R.h R.d R.w) R.p (dE ts R.a.1,dE ts R.a.2)
structure RqP(ts:LL)(R:Rp)(q:List Rat):Prop where
  sm:Sm 3000 R.v
  sp:Sm 3000 R.p
  c1:FP 162 [aV ts,nA q,aM R.w.1 R.w.2] (.tup [aM (sX (dE ts q*dE ts R.w.1)) (sX (dE ts q*dE ts R.w.2)),.v .nilIface])
  ng:FP 147 [aV ts,nA R.w.2] (.tup [nA (sX (-dE ts R.w.2)),.v .nilIface])
  c2:FP 162 [aV ts,nA R.h,aM (sX (-dE ts R.w.2)) R.w.1] (.tup [aM (sX (dE ts R.h*-dE ts R.w.2)) (sX (dE ts R.h*dE ts R.w.1)),.v .nilIface])
  sb:FP 76 [aV ts,aM (sX (dE ts q*dE ts R.w.1)) (sX (dE ts q*dE ts R.w.2)),aM (sX (dE ts R.h*-dE ts R.w.2)) (sX (dE ts R.h*dE ts R.w.1))] (.tup [aM (sX (rv (dE ts q) (dE ts R.w.1) (dE ts R.w.2) (dE ts R.h))) (sX (sL (dE ts q) (dE ts R.w.1) (dE ts R.w.2) (dE ts R.h))),.v .nilIface])
  d1:FP 281 [aV ts,nA (sX (rv (dE ts q) (dE ts R.w.1) (dE ts R.w.2) (dE ts R.h))),nA R.d] (.tup [nA (sX (mF ts q R.h R.d R.w).1),.v .nilIface])
  d2:FP 281 [aV ts,nA (sX (sL (dE ts q) (dE ts R.w.1) (dE ts R.w.2) (dE ts R.h))),nA R.d] (.tup [nA (sX (mF ts q R.h R.d R.w).2),.v .nilIface])
  e1:sX (dE ts R.a.1)=R.a.1
  e2:sX (dE ts R.a.2)=R.a.2
  b:BdP ts R.v (mF ts q R.h R.d R.w) R.p (dE ts R.a.1,dE ts R.a.2)
theorem RqP.body{R:Rp}{q:List Rat}(H:RqP ts R q) :
  Con prog 152 [.ptr 1000 0,qP R.v,dj (mF ts q R.h R.d R.w).l,qP R.p,aM R.a.1 R.a.2] [(1000,some (bg ts))] (m7 ts R q).av [(1000,some (bg ts))]:=by
 have hb:=AI H.sm H.sp H.b
 have e:dj (P2.l ((dE ts R.a.1,dE ts R.a.2):P2 ts))=aM R.a.1 R.a.2:=by
  show aM (sX (dE ts R.a.1)) (sX (dE ts R.a.2))=_;rw[H.e1,H.e2]
 rw[e]at hb;exact hb
theorem Ei{R:Rp}{q:List Rat}{j:Nat}(cy:Cy ts 773000000 1101400000)(sm:Sm 3000 R.v)(sp:Sm 3000 R.p)(h0:bX R.v R.v≠0)(nq:Nm ts.length 773000000 q)(nh:Nm ts.length 773000000 R.h)(nd:Nm ts.length 773000000 R.d)
  (n1:Nm ts.length 773000000 R.w.1) (n2:Nm ts.length 773000000 R.w.2) (a1:Nm ts.length 773000000 R.a.1) (a2:Nm ts.length 773000000 R.a.2) (e1:sX (dE ts R.a.1)=R.a.1) (e2:sX (dE ts R.a.2)=R.a.2)
  (nj:Nl j R.d) (hj:j<=ts.length) (hj1:j<=1) (hd:an (dE ts R.d)≠0):RqP ts R q:=by
 obtain⟨r,tw,hk⟩:=cy.ex;have hl:=cy.lm;haveI:=cy;haveI zq:Zl ts 773000000 1101400000 q (dE ts q) 1 0:=Zl.at nq (le_refl _);haveI zh:Zl ts 773000000 1101400000 R.h (dE ts R.h) 1 0:=Zl.at nh (le_refl _);haveI zd:Zl ts 773000000 1101400000 R.d (dE ts R.d) 1 0:=Zl.at nd (le_refl _);haveI z1:Zl ts 773000000 1101400000 R.w.1 (dE ts R.w.1) 1 0:=Zl.at n1 (le_refl _);haveI z2:Zl ts 773000000 1101400000 R.w.2 (dE ts R.w.2) 1 0:=Zl.at n2 (le_refl _);haveI:=zq.zu;haveI:=zh.zu;haveI:=z1.zu;haveI:=z2.zu
 haveI zn:Zu 773000000 1101400000 (-dE ts R.w.2) 1 0:=inferInstance;haveI y1:Zu 773000000 1101400000 (dE ts q*dE ts R.w.1) 2 1:=inferInstance;haveI y2:Zu 773000000 1101400000 (dE ts q*dE ts R.w.2) 2 1:=inferInstance;haveI y3:Zu 773000000 1101400000 (dE ts R.h*-dE ts R.w.2) 2 1:=inferInstance;haveI y4:Zu 773000000 1101400000 (dE ts R.h*dE ts R.w.1) 2 1:=inferInstance;haveI x1:Zu 773000000 1101400000 (rv (dE ts q) (dE ts R.w.1) (dE ts R.w.2) (dE ts R.h)) 4 3:=(inferInstance:Zu 773000000 1101400000 (dE ts q*dE ts R.w.1-dE ts R.h*-dE ts R.w.2) 4 3)
 haveI x2:Zu 773000000 1101400000 (sL (dE ts q) (dE ts R.w.1) (dE ts R.w.2) (dE ts R.h)) 4 3:=(inferInstance:Zu 773000000 1101400000 (dE ts q*dE ts R.w.2-dE ts R.h*dE ts R.w.1) 4 3)
 have ew:∀x:Et ts,ae ts.length (sX x)=x:=fun x=>bn _ _
 have hkB:kB r ts.length<=1101400000:=hk;have c1:=Ga tw nq n1 n2 (by rw[hl];omega);have ng:=Fa (ts:=ts) (u:=773000000) (k:=1101400000) (a:=R.w.2) (by decide);have nn:Nm ts.length 773000000 (sX (-dE ts R.w.2)):=zn.nm.mono (by decide);have c2:=Ga tw nh nn n1 (by rw[hl];omega);rw[ew]at c2;have sb:=A0 (a:=sX (dE ts q*dE ts R.w.1)) (b:=sX (dE ts q*dE ts R.w.2)) (c:=sX (dE ts R.h*-dE ts R.w.2)) (d:=sX (dE ts R.h*dE ts R.w.1)) tw y1.nm y2.nm y3.nm y4.nm (by rw[hl];decide);rw[ew,ew,ew,ew]at sb;have d1:=qd (ts:=ts) (u:=773000000) (k:=1101400000) (a:=sX (rv (dE ts q) (dE ts R.w.1) (dE ts R.w.2) (dE ts R.h))) (b:=R.d) nj hj hj1 hd (by decide);have d2:=qd (ts:=ts) (u:=773000000) (k:=1101400000) (a:=sX (sL (dE ts q) (dE ts R.w.1) (dE ts R.w.2) (dE ts R.h))) (b:=R.d) nj hj hj1 hd (by decide);exact⟨sm,sp,c1,ng,c2,sb,d1.1,d2.1,e1,e2,Fs tw cy.two hkB sm sp h0 (d1.2.nm.mono (by decide)) (d2.2.nm.mono (by decide)) (by show Nm ts.length 773000000 (sX (dE ts R.a.1));rw[e1];exact a1) (by show Nm ts.length 773000000 (sX (dE ts R.a.2));rw[e2];exact a2)⟩
end
def iQ(ts:LL)(R:Rp)(qs:LL)(i:Nat):Sv:=⟨ts,[m7 ts R (qs.getD i [])],if qs.length=1 then 0 else 1-2*(i:Int)⟩
def kC(ts:LL)(R:Rp)(qs:LL)(n:Nat):List AV:=(List.range n).map fun i=>(iQ ts R qs i).av
theorem yM(ts:LL)(R:Rp)(qs:LL)(n:Nat):(kC ts R qs n).length=n:=by simp[kC]
theorem VW(ts:LL)(R:Rp)(qs:LL)(n:Nat):kC ts R qs (n+1)=kC ts R qs n++[(iQ ts R qs n).av]:=by unfold kC;rw[List.range_succ];simp
def dg(l:Li)(a:As)(i:Int)(j0 j:Jt):Rp:=⟨cq l i j,am l j0 i,P2.l (aB l a j0 i),sh 0 (cc l i j0 j:Rat),sX (b7 l a i j0 j),P2.l (bS l a i j0 j)⟩
def bb(l:Li)(a:As)(i:Int)(j0 j:Jt):Et (llq a.rs):=qE (gY l i j)*b7 l a i j0 j-qE (cc l i j0 j)*qE (cc l i j0 j)
def kH(l:Li)(a:As)(i:Int)(j0 j:Jt):List AV×Nat :=
  if an (b7 l a i j0 j)=0/\an (qE (cc l i j0 j):Et (llq a.rs))=0 then([],15)
  else if an (bb l a i j0 j)<0 then([],0)
  else if 0<an (bb l a i j0 j)then(kC (aR (llq a.rs) (sX (bb l a i j0 j))) (dg l a i j0 j) [cr (llq a.rs).length,sX (-ba (bb l a i j0 j))] 2,0)
  else(kC (llq a.rs) (dg l a i j0 j) [[]] 1,0)
theorem tU{ts:LL}{r:Nat}(tw:Tw ts r){n d h:Et ts}(hs:¬an (n*d-h*h)<0)(h1:¬(an d=0/\an h=0)):an d≠0:=by
 intro h0;have S:=dN (ax ts) ts.length tw.pos
 have e1:sg (ax ts) ts.length (n*d)=0:=by
  rw[S.mul];have:sg (ax ts) ts.length d=0:=h0;rw[this];exact Int.mul_zero _
 have e2:=S.zadd (y:=-(h*h)) e1;rw[show n*d+-(h*h)=n*d-h*h by grind,S.neg,S.mul]at e2;have e3:an (n*d-h*h)=sg (ax ts) ts.length (n*d-h*h):=rfl;have e4:an h=sg (ax ts) ts.length h:=rfl;have h2:sg (ax ts) ts.length h≠0:=fun h9=>h1 ⟨h0,by rw[e4];exact h9⟩
 rw[e3,e2]at hs;rcases S.cs h with g |g |g
 ·rw[g]at hs;exact hs (by decide)
 ·exact h2 g
 ·rw[g]at hs;exact hs (by decide)
theorem R8{p q:Rat}(h:p*p+q*q=0):p=0/\q=0:=by
 have h1:=oC p;have h2:=oC q;have h3:p*p=0:=by grind
 have h4:q*q=0:=by grind
 exact⟨by rcases Rat.mul_eq_zero.1 h3 with g |g <;> exact g,by rcases Rat.mul_eq_zero.1 h4 with g |g <;> exact g⟩
theorem xf{l:Li}(hli:aD l=0){n:Nat}{j:Jt}(hj:l.jo[n]?=some j)(hk:j.kind≠0){i:Int}(hi:j.b=i):bX (cq l i j) (cq l i j)≠0:=by
 intro h0;obtain⟨h1,h2⟩:=R8 h0;have h3:=GK hli hj;subst hi;have e1:(aS l j.b j.to).1-(aS l j.b j.on).1=0:=h1;have e2:(aS l j.b j.to).2-(aS l j.b j.on).2=0:=h2;have e3:((cJ l j.b).getD j.on.toNat default).x.q=((cJ l j.b).getD j.to.toNat default).x.q:=by unfold aS at e1;dsimp only at e1;grind
 have e4:((cJ l j.b).getD j.on.toNat default).y.q=((cJ l j.b).getD j.to.toNat default).y.q:=by unfold aS at e2;dsimp only at e2;grind
 unfold ep at h3;split at h3
 ·cases h3
 ·split at h3
  ·cases h3
  ·split at h3
   ·cases h3
   ·split at h3
    ·cases h3
    ·split at h3
     ·cases h3
     ·first |(rw[if_pos ⟨e3,e4⟩]at h3;cases h3) |(split at h3 <;> first |(cases h3;done) |(rename_i g;exact absurd ⟨e3,e4⟩ g))
theorem Kb:Sub (.lst 1 [nS]) (.lst 1 [nA []]):=by
 refine Sub.lst rfl (fun i x y hx hy=>?_)
 match i,hx,hy with
 |0,hx,hy =>
  cases hx;cases hy
  refine⟨rfl,fun j x y hx hy=>?_⟩
  match j,hx,hy with
  |0,hx,hy=>cases hx;cases hy;exact⟨rfl,.nil _ _ _⟩
theorem Ju{x y:Int}(h:cond (aa .eql x 0) (aa .eql y 0) false=true):x=0/\y=0:=by
 cases h1:aa .eql x 0
 ·rw[h1]at h;cases h
 ·rw[h1]at h;exact⟨cP h1,cP h⟩
theorem MH{x y:Int}(h:cond (aa .eql x 0) (aa .eql y 0) false=false):¬(x=0/\y=0):=by
 rintro⟨rfl,rfl⟩;cases h
structure RpF(l:Li)(a:As)(i:Int)(j0 j:Jt):Prop where
  hv:Sm 3000 (cq l i j)
  hp:Sm 3000 (am l j0 i)
  vv:bX (cq l i j) (cq l i j)≠0
  zl:Zl (llq a.rs) 310000 65000 (sh 0 (cc l i j0 j:Rat)) (qE (cc l i j0 j)) 3 0
  z3:Zu 310000 65000 (b7 l a i j0 j) 320 327
  zX:Zu 310000 65000 (bb l a i j0 j) 976 989
  w1:Zu 310000 65000 (bS l a i j0 j).1 80 81
  w2:Zu 310000 65000 (bS l a i j0 j).2 80 81
  y1:Zu 310000 65000 (aB l a j0 i).1 40 40
  y2:Zu 310000 65000 (aB l a j0 i).2 40 40
theorem IJ{l:Li}{a:As}(D:DyR l a)(hn:(llq a.rs).length<=1){g:Gr}{i z0 z1:Int}{j0 j:Jt}(P:SlP 3900000 l a g 3 i z0 z1 j0 j)(hj:j.b=i)(hb:Pd 3900000 a j.a):RpF l a i j0 j:=by
 haveI c:=D.s.ct D.hc;have ck:=c.k1;haveI cy:Cy (llq a.rs) 310000 65000:=⟨c.ex,c.k1,c.u3,by omega⟩
 have hs0:Sm 1000 (am l j0 i):=gj D.hl D.li P.h0 P.p0.or;obtain⟨i1,i2,i3,i4,i5⟩:=cU D.li P.h1;have hs1:Sm 1000 (aS l i j.on):=by rw[<- hj];exact jP D.hl D.li i2 i4
 have hs2:Sm 1000 (aS l i j.to):=by rw[<- hj];exact jP D.hl D.li i2 (i5 P.hk)
 have hv:Sm _ (cq l i j):=hs2.sub hs1;haveI qn:Qz 310000 (gY l i j) 3:=sf (hv.dot hv) oz;haveI qh:Qz 310000 (cc l i j0 j) 3:=sf (hv.cross (hs1.sub hs0)) oz;obtain⟨w1,w2⟩:=Ew D P.h0 P.p0 P.h1 hb;obtain⟨y1,y2⟩:=lT D.hl D.li D.al D.s D.hc P.h0 P.p0;haveI:=w1;haveI:=w2
 haveI z3:Zu 310000 65000 (b7 l a i j0 j) 320 327:=(inferInstance:Zu 310000 65000 (dotE (bS l a i j0 j).1 (bS l a i j0 j).2 (bS l a i j0 j).1 (bS l a i j0 j).2) _ _)
 exact⟨hv.mono oz,hs0.mono oz,xf D.li P.h1 P.hk hj,Cy.zq,z3,AJ (inferInstance:Zu 310000 65000 (qE (gY l i j)*b7 l a i j0 j-qE (cc l i j0 j)*qE (cc l i j0 j)) _ _) (by decide) (by decide),w1,w2,y1,y2⟩
theorem FU{l:Li}{a:As}{i:Int}{j0 j:Jt}(F:RpF l a i j0 j)(tw:Tw (llq a.rs) 64990)(hn:(llq a.rs).length<=1)(hd0:an (b7 l a i j0 j)≠0)(hp:0<=an (bb l a i j0 j)) :
  ExtP (bb l a i j0 j)/\RqP (aR (llq a.rs) (sX (bb l a i j0 j))) (dg l a i j0 j) (cr (llq a.rs).length)/\RqP (aR (llq a.rs) (sX (bb l a i j0 j))) (dg l a i j0 j) (sX (-ba (bb l a i j0 j))) /\
  FP 147 [aV (aR (llq a.rs) (sX (bb l a i j0 j))),nA (cr (llq a.rs).length)] (.tup [nA (sX (-ba (bb l a i j0 j))),.v .nilIface]):=by
 have E:ExtP (bb l a i j0 j):=sj tw hn F.zX hp;have ce:=E.cy;have zr:Nm (aR (llq a.rs) (sX (bb l a i j0 j))).length 773000000 (cr (llq a.rs).length):=(sW oz).mono (by decide);haveI zrl:Zl (aR (llq a.rs) (sX (bb l a i j0 j))) 773000000 1101400000 (cr (llq a.rs).length) (ba (bb l a i j0 j)) 1 0:=Zl.at zr (by decide);haveI:=zrl.zu;have hng:=Fa (ts:=aR (llq a.rs) (sX (bb l a i j0 j))) (u:=773000000) (k:=1101400000) (a:=cr (llq a.rs).length) (by decide);have zn:Nm (aR (llq a.rs) (sX (bb l a i j0 j))).length 773000000 (sX (-ba (bb l a i j0 j))):=(inferInstance:Zu 773000000 1101400000 (-ba (bb l a i j0 j)) 1 0).nm.mono (by decide)
 have hR:∀q,Nm (aR (llq a.rs) (sX (bb l a i j0 j))).length 773000000 q->RqP (aR (llq a.rs) (sX (bb l a i j0 j))) (dg l a i j0 j) q:=fun q nq =>
  Ei (R := dg l a i j0 j) (j := (llq a.rs).length) ce F.hv F.hp F.vv nq (lZ (F.zl.nm.mono (by decide)) oz) (lZ (F.z3.nm.mono (by decide)) oz) (lZ (F.w1.nm.mono (by decide)) oz) (lZ (F.w2.nm.mono (by decide)) oz)
   (lZ (F.y1.nm.mono (by decide)) oz) (lZ (F.y2.nm.mono (by decide)) oz) (w8 hn _ _ F.y1.nm).2 (w8 hn _ _ F.y2.nm).2 F.z3.nm.nl (by rw[dB];omega) hn (by rw[show an (dE (aR (llq a.rs) (sX (bb l a i j0 j))) (dg l a i j0 j).d)=an (b7 l a i j0 j)from nP];exact hd0)
 exact⟨E,hR _ zr,hR _ zn,hng⟩
theorem IU{l:Li}{a:As}{i:Int}{j0 j:Jt}(F:RpF l a i j0 j)(tw:Tw (llq a.rs) 64990)(hn:(llq a.rs).length<=1)(hd0:an (b7 l a i j0 j)≠0):Cy (llq a.rs) 773000000 1101400000/\RqP (llq a.rs) (dg l a i j0 j) []:=by
 have cs:Cy (llq a.rs) 773000000 1101400000:=⟨⟨64990,tw,by show kB 64990 (llq a.rs).length<=_;have:=Bf hn;omega⟩,by omega,by omega,by omega⟩
 have nil0:Nm (llq a.rs).length 773000000 []:=⟨tw.five,.inl rfl,Cb.nil.mono oz⟩
 exact ⟨cs, Ei (R := dg l a i j0 j) (j := (llq a.rs).length) cs F.hv F.hp F.vv nil0 (F.zl.nm.mono (by decide)) (F.z3.nm.mono (by decide)) (F.w1.nm.mono (by decide)) (F.w2.nm.mono (by decide))
   (F.y1.nm.mono (by decide)) (F.y2.nm.mono (by decide)) (Bg _ _ F.y1.nm).2 (Bg _ _ F.y2.nm).2 F.z3.nm.nl (le_refl _) hn (by rw[show an (dE (llq a.rs) (dg l a i j0 j).d)=an (b7 l a i j0 j)from congrArg an (bn _ _)];exact hd0)⟩
theorem Qk{l:Li}{a:As}(D:DyR l a)(hn:(llq a.rs).length<=1){i z0 z1:Int}{j0 j:Jt}(hg:GrOk l ⟨3,[i],[z0,z1],0⟩)(P:SlP 3900000 l a ⟨3,[i],[z0,z1],0⟩ 3 i z0 z1 j0 j)(hj:j.b=i)(hb:Pd 3900000 a j.a) :
  Con prog 67 [.ptr 1000 0] [(1000,some (cg l ⟨3,[i],[z0,z1],0⟩ a))] (pF (kH l a i j0 j)) [(1000,some (cg l ⟨3,[i],[z0,z1],0⟩ a))]:=by
 haveI c:=D.s.ct D.hc;obtain⟨tw,etw⟩:=de D.s.tr D.hc;haveI cy:Cy (llq a.rs) 310000 65000:=⟨c.ex,c.k1,c.u3,by omega⟩
 have hlm:=cy.lm;have F:=IJ D hn P hj hb;obtain⟨i1,i2,i3,i4,i5⟩:=cU D.li P.h1;have hs0:Sm 1000 (am l j0 i):=gj D.hl D.li P.h0 P.p0.or;have hs1:Sm 1000 (aS l i j.on):=by rw[<- hj];exact jP D.hl D.li i2 i4
 have hs2:Sm 1000 (aS l i j.to):=by rw[<- hj];exact jP D.hl D.li i2 (i5 P.hk)
 have hv:Sm _ (cq l i j):=hs2.sub hs1;haveI qn:Qz 310000 (gY l i j) 3:=sf (hv.dot hv) oz;haveI qh:Qz 310000 (cc l i j0 j) 3:=sf (hv.cross (hs1.sub hs0)) oz;haveI z3:=F.z3;haveI zX:=F.zX;haveI zl:=F.zl;have hrr:=Td D (i:=i) (j0:=j0) (j:=j) (by decide);have m1:=Bp (ts:=llq a.rs) (u:=310000) (k:=65000) (a:=sX (bb l a i j0 j)) (by decide);have m2:=Bp (ts:=llq a.rs) (u:=310000) (k:=65000) (a:=sX (b7 l a i j0 j)) (by decide);have m3:=Bp (ts:=llq a.rs) (u:=310000) (k:=65000) (a:=sh 0 (cc l i j0 j:Rat)) (by decide);refine gF func67 (fun k z h=>bE h) ?_ (2,0);refine gW (Wk.o (sl:=[(0,some (.ptr 1000 0)),(4,some (.ptr 24 0))]) (hp:=[(1000,some (cg l ⟨3,[i],[z0,z1],0⟩ a)),(24,some (dx a.rs))])) ?_;refine gt (aG (Con.rekeyBB 1000 24 (by decide) (by decide) rfl rfl rfl rfl rfl rfl (KY D hg P.h0 P.h1 P.p0 hj P.hk hb)) (bC rfl rfl) aH rfl rfl) ?_;refine gt (aG (Con.rekeyB1 24 rfl rfl rfl rfl rfl hrr) (bC rfl rfl) aH rfl rfl) ?_ (4,0);refine gW (Wk.of (sl:=[(4,some (.ptr 24 0)),(5,some (.ptr 5 0)),(6,some (nA (sX (bb l a i j0 j))))]) (hp:=[(1000,some (cg l ⟨3,[i],[z0,z1],0⟩ a)),(5,some (.box (sk l a i j0 j))),(24,some (bg (llq a.rs)))]) a7 (.k (.k (.cons rfl (BlkSub.bL (.cons (.of (mS etw)) (.cons (.refl _) .nil)) rfl) .nil)))) ?_;refine gt (aX (Con.rB 24 rfl rfl rfl rfl m1) (bC rfl rfl) rfl rfl rfl) ?_;refine gC (fun t34=>?_) (fun t34=>?_) (st1:=(6,0));cases t34;refine gt (aX (Con.rB 24 rfl rfl rfl rfl m2) (bC rfl rfl) rfl rfl rfl) ?_;refine gu (dq rfl rfl rfl (fun h=>aX (Con.rB 24 rfl rfl rfl rfl m3) (.cons (.opt rfl (o1 h)) (.cons (.opt rfl (o1 h)) .nil)) rfl rfl rfl)) ?_;refine gC (fun t44=>?_) (fun t44=>?_)
 ·have h1:=Ju t44;refine gR ?_;exact(ay.keep (bq rfl)).sub (by unfold kH;rw[if_pos h1];exact Sub.tup (.cons (.nil _ _ _) (.cons (.refl _) .nil)))
 have h1:=MH t44;refine gC (fun t58=>?_) (fun t58=>?_)
 ·have h2:an (bb l a i j0 j)<0:=of_decide_eq_true t58;refine gR ?_;exact(ay.keep (bq rfl)).sub (by unfold kH;rw[if_neg h1,if_pos h2];exact Sub.tup (.cons (.nil _ _ _) (.cons (.refl _) .nil)))
 have h2:¬an (bb l a i j0 j)<0:=of_decide_eq_false t58;have hd0:an (b7 l a i j0 j)≠0:=tU tw h2 h1;refine yq [4,5] [1000,5] (fun(T:LL)(qs:LL)=>[(8,some (.lst 1 (qs.map nA)))]) (fun T _=>[(24,some (bg T))]) (fun T qs=>Cy T 773000000 1101400000/\qs.length<=2/\(∀q∈qs,RqP T (dg l a i j0 j) q)/\kH l a i j0 j=(kC T (dg l a i j0 j) qs qs.length,0)) ?_ ?_
 ·intro K1 J1;refine gC (fun t63=>?_) (fun t63=>?_)
  ·have h3:0<an (bb l a i j0 j):=of_decide_eq_true t63;obtain⟨E,R1,R2,hng⟩:=FU F tw hn hd0 oz;have ce:=E.cy;have hex:=FT (a:=sX (bb l a i j0 j)) tw zX.nm (by rw[hlm];decide) (by rw[show ae (llq a.rs).length (sX (bb l a i j0 j))=bb l a i j0 j from bn _ _];show 0<=an (bb l a i j0 j);omega);refine gc hex ?_;refine gC (fun t75=>?_) (fun t75=>?_) (st1:=(15,0));cases t75;refine gc hng ?_;refine gt (aX (Con.rB 24 rfl rfl rfl rfl (p6 _ _)) (aK rfl rfl rfl) rfl rfl rfl) ?_;exact pg J1 (aR (llq a.rs) (sX (bb l a i j0 j))) ([cr (llq a.rs).length,sX (-ba (bb l a i j0 j))]) ⟨ce,le_refl 2,lD R1 R2,by unfold kH;rw[if_neg h1,if_neg h2,if_pos h3];rfl⟩
  have h3:¬0<an (bb l a i j0 j):=of_decide_eq_false t63;obtain⟨cs,R0⟩:=IU F tw hn hd0;exact pg J1 (llq a.rs) ([[]]) ⟨cs,by decide,ii R0,by unfold kH;rw[if_neg h1,if_neg h2,if_neg h3];rfl⟩ (hw:=Wk.of (.cons rfl Kb (.k (.k .nil))) (.k (.k (.k .nil))))
 rintro T qs ⟨ct,hql,hq,hR⟩;obtain⟨rr,twT,hkT⟩:=ct.ex;refine gl ?_;refine gW (Wk.virt 900 3 rfl) ?_;refine aU [4,5,8,90,91] [1000,5,24] (fun(q:Nat)=>[(12,some (.ms 900 3 0 q)),(92,some (i64 q))]) (fun q=>[(900,some (.row 3 (kC T (dg l a i j0 j) qs q)))]) (fun q=>q<=qs.length) (fun q=>qs.length-q) 0 (zero_le _) ?_;rintro q hqi K2 J2;refine gC (fun t93=>?_) (fun t93=>?_) (st2:=(28,0))
 ·have hin:=a5 t93;obtain ⟨x,hx⟩:=aw hin;have hx9:qs.getD q [] = x:=ao hx;have R:=hq x (mem_of_getElem? hx);refine gi (aA hx) ?_;refine gc R.c1 ?_;refine gt (aX (Con.rB 24 rfl rfl rfl rfl (wm _ _ _)) (aK rfl rfl rfl) rfl rfl rfl) ?_;refine gD ?_;refine gc R.ng ?_;refine gt (aX (Con.rB 24 rfl rfl rfl rfl (p6 _ _)) (aK rfl rfl rfl) rfl rfl rfl) ?_;refine gc R.c2 ?_;refine gt (aX (Con.rB 24 rfl rfl rfl rfl (wm _ _ _)) (aK rfl rfl rfl) rfl rfl rfl) ?_;refine gD ?_;refine gc R.sb ?_;refine gt (aX (Con.rB 24 rfl rfl rfl rfl (wm _ _ _)) (aK rfl rfl rfl) rfl rfl rfl) ?_;refine gD ?_;refine gt (aX (Con.rB 24 rfl rfl rfl rfl (ua R.d1)) (aK rfl rfl rfl) rfl rfl rfl) ?_;refine gt (aX (Con.rB 24 rfl rfl rfl rfl (ua R.d2)) (aK rfl rfl rfl) rfl rfl rfl) ?_;refine gD ?_;refine gc (yU twT) ?_;refine gt (aX (Con.rB 24 rfl rfl rfl rfl R.body) (.cons (.tmp rfl) (.cons (.tmp rfl) (.cons (.tmp rfl) (.cons (.tmp rfl) (.cons (.tmp rfl) .nil))))) rfl rfl rfl) ?_;refine gl ?_;refine gc (He q qs.length oz) ?_;refine gs (cz (.tmp rfl) rfl (yM _ _ _ _).symm (.tmp rfl) T54 rfl T62 rfl rfl (by dsimp only; simp only [length_cons,length_nil]; omega) rfl rfl) ?_;refine gD ?_ (27,0);refine gW (Wk.of (sl:=[(4,some (.ptr 24 0)),(5,some (.ptr 5 0)),(8,some (.lst 1 (qs.map nA))),(12,some (.ms 182 3 0 (q + 1))),(90,some (.lst 1 (qs.map nA))),(91,some (i64 qs.length)),(92,some (i64 q))]) (hp:=[(1000,some (cg l ⟨3,[i],[z0,z1],0⟩ a)),(5,some (.box (sk l a i j0 j))),(24,some (bg T)),(182,some (.row 3 (kC T (dg l a i j0 j) qs (q + 1))))]) a7 (.k (.k (.k (.cons rfl (BlkSub.of (by rw [VW]; unfold iQ; rw [hx9]; rfl)) .nil))))) ?_ (27,0)
  refine gW (Wk.rk (k:=182) (d:=900) rfl rfl) ?_;refine ga aN ?_;exact aP J2 (q+1) hin
 have hin:=bh hqi t93;subst hin;refine gW ((Wk.freeze (k:=900) rfl).trans<|Wk.of (sl:=[(4,some (.ptr 24 0)),(12,some (.lst 3 (kC T (dg l a i j0 j) qs qs.length)))]) (hp:=[(1000,some (cg l ⟨3,[i],[z0,z1],0⟩ a)),(24,some (bg T))]) (.k (.cons rfl (Sub.of (by rw[bQ (yM _ _ _ _).symm])) .nil)) (.k (.k .nil))) ?_;refine gC (fun t188=>?_) (fun t188=>?_) (st1:=(29,0));cases t188;refine gR ?_;exact(ay.keep (bq rfl)).sub (Sub.of (by rw[hR];rfl))
theorem Vx:Sub (.agg [bl (rt ((1:Int):Rat)).neg,ws (rt ((1:Int):Rat)).num,ws (rt ((1:Int):Rat)).den,.v (.bool false),nS,nS]) (qP (((1:Int):Rat),0)) :=
 Sub.agg (.cons (.refl _) (.cons (.refl _) (.cons (.refl _) (.cons (.refl _) (.cons (Sub.nil _ _ _) (.cons (Sub.nil _ _ _) .nil)))))) rfl
theorem r7{ts:LL}(q:Rat):sX (qE q:Et ts)=sh 0 (q:Rat):=zN _ _
def kX(l:Li)(a:As)(i:Int)(j0:Jt)(x:Tn):Pq:=gy (((1:Int):Rat),0) ((qE (dM x.half x.t.q),qE (dH x.half x.t.q)):P2 (llq a.rs)) (am l j0 i) (aB l a j0 i)
def oi(l:Li)(a:As)(i:Int)(j0:Jt)(x:Tn):List AV×Nat:=if x.err≠0 then([],x.err)else([(⟨llq a.rs,[kX l a i j0 x],1⟩:Sv).av],0)
theorem L2{l:Li}{g:Gr}{a:As}{x:Tn}(hx:x.t.ok)(hq:Qb 1000 x.t.q)(he:x.err≠0) :
  Con prog 64 [.ptr 1000 0,x.av] [(1000,some (cg l g a))] (.tup [.lst 3 [],br x.err]) [(1000,some (cg l g a))]:=by
 refine gF func64 (fun k z h=>bE h) ?_;refine gc (zy x hx hq oz) ?_;refine gC (fun t20=>?_) (fun t20=>?_) (st2:=(77777,0))
 ·refine gR ?_;exact(ay.keep (bq rfl)).sub (Sub.tup (.cons (.nil _ _ _) (.cons (.refl _) .nil)))
 exact absurd (cZ t20) he
theorem HU:Sm 3000 (((1:Int):Rat),(0:Rat)):=⟨Qb.one.mono oz,Qb.mono (e:=1) (q:=0) ⟨by decide,by decide⟩ oz⟩
theorem G5{E:Nat}(hE:E<=20000000000){l:Li}{a:As}(D:DyW l a)(h3:(llq a.rs).length<=2){body pt:Int}(h1:bA body l.bo.length=true)(h2:bA pt (cJ l body).length=true)(hb:Pd E a body) :
  Nm (llq a.rs).length 62500000000 (sX (bf l a body pt).1)/\Nm (llq a.rs).length 62500000000 (sX (bf l a body pt).2):=by
 obtain⟨n,k,bd,m,b,hp⟩:=tM D.hl D.li D.al D.hc h1 h2 hb;obtain⟨tw,_⟩:=de D.al.tr D.hc;have kb:=n8 h3;have qx:Qb 1000 m.x.q:=by rw[hp.mp.ex,cf];exact hp.mp.sm.x
 have qy:Qb 1000 m.y.q:=by rw[hp.mp.ey,cf];exact hp.mp.sm.y
 have h:=uR tw hp.ok qx qy;unfold bf;rw[hp.eq];exact⟨h.1.mono oz,h.2.mono oz⟩
theorem I7{E:Nat}(hE:E<=20000000000){l:Li}{a:As}(D:DyW l a)(h3:(llq a.rs).length<=2){i:Nat}{j:Jt}(hj:l.jo[i]?=some j){b:Int}(h:PinP E l a j b) :
  Nm (llq a.rs).length 62500000000 (sX (aB l a j b).1)/\Nm (llq a.rs).length 62500000000 (sX (aB l a j b).2):=by
 obtain⟨i1,i2,i3,i4,_⟩:=cU D.li hj;unfold aB;rcases h.tie with⟨e,hb⟩ |⟨e,e2,hb⟩
 ·rw[if_pos e];exact G5 hE D h3 i2 i4 hb
 ·rw[if_neg e];exact G5 hE D h3 i1 i3 hb
theorem Fj{E:Nat}(hE:E<=20000000000){l:Li}{a:As}(D:DyW l a)(h3:(llq a.rs).length<=2){n:Nat}{i:Int}{j0:Jt}(h0:l.jo[n]?=some j0)(p0:PinP E l a j0 i){x:Tn}(hq:Qb 1000 x.t.q) :
  BdP (llq a.rs) (((1:Int):Rat),(0:Rat)) ((qE (dM x.half x.t.q),qE (dH x.half x.t.q)):P2 (llq a.rs)) (am l j0 i) (aB l a j0 i):=by
 obtain⟨tw,etw⟩:=de D.al.tr D.hc;have qc:=qY (half:=x.half) hq;have qs:=tQ (half:=x.half) hq;have hs0:Sm 1000 (am l j0 i):=gj D.hl D.li h0 p0.or;obtain⟨y1,y2⟩:=I7 hE D h3 h0 p0
 exact Id (F := 80000000000) (W := 10000) (u := (((1 : Int) : Rat), (0 : Rat))) (p := am l j0 i) (w := ((qE (dM x.half x.t.q), qE (dH x.half x.t.q)) : P2 (llq a.rs))) (o := aB l a j0 i) tw h3 (n8 h3) HU (hs0.mono oz) (by decide +kernel)
  (by show Nm _ _ (sX (qE (dM x.half x.t.q):Et (llq a.rs)));rw[r7];exact(nB tw.five qc).mono oz) (by show Nm _ _ (sX (qE (dH x.half x.t.q):Et (llq a.rs)));rw[r7];exact(nB tw.five qs).mono oz) y1 y2 oz oz oz
theorem Nk{E:Nat}(hE:E<=20000000000){l:Li}{a:As}(D:DyW l a)(h3:(llq a.rs).length<=2){i z0 d:Int}{j0:Jt}(hg:GrOk l ⟨0,[i],[z0],d⟩)(h0:l.jo[z0.toNat]?=some j0)(p0:PinP E l a j0 i){x:Tn}(hx:x.t.ok)(hq:Qb 1000 x.t.q)(he:x.err=0) :
  Con prog 64 [.ptr 1000 0,x.av] [(1000,some (cg l ⟨0,[i],[z0],d⟩ a))] (.tup [.lst 3 [(⟨llq a.rs,[kX l a i j0 x],1⟩:Sv).av],.v .nilIface]) [(1000,some (cg l ⟨0,[i],[z0],d⟩ a))]:=by
 obtain⟨tw,etw⟩:=de D.al.tr D.hc;have hc:=zy x hx hq oz;rw[if_pos he,he]at hc;have hs:=IS x hx hq oz;rw[if_pos he,he]at hs;have qc:=qY (half:=x.half) hq;have qs:=tQ (half:=x.half) hq;have hs0:Sm 1000 (am l j0 i):=gj D.hl D.li h0 p0.or;have hb:=AI HU (hs0.mono oz) (Fj hE D h3 h0 p0 hq)
 have ew:dj (P2.l ((qE (dM x.half x.t.q),qE (dH x.half x.t.q)):P2 (llq a.rs)))=aM (sh 0 (dM x.half x.t.q:Rat)) (sh 0 (dH x.half x.t.q:Rat)):=by
  show aM (sX (qE (dM x.half x.t.q):Et (llq a.rs))) (sX (qE (dH x.half x.t.q):Et (llq a.rs)))=_;rw[r7,r7]
 rw[ew]at hb;have hcl:=yU tw;have hcl2:FP 154 [dG a.rs] (aV (llq a.rs)):=by rw[etw];exact hcl
 refine gF func64 (fun k z h=>bE h) ?_;refine gc hc ?_;refine gC (fun t20=>?_) (fun t20=>?_) (st1:=(3,0));cases t20;refine gc hs ?_;refine gC (fun t28=>?_) (fun t28=>?_) (st1:=(6,0));cases t28;refine gi rfl ?_;refine gt (aX (rG hE D.hl D.li _ hg D.al D.hc (k:=0) rfl h0 h3 p0) (.cons (.tmp rfl) (.cons (.const _) (cA rfl))) rfl rfl rfl) ?_;refine gD ?_ (9,0);refine gW (Wk.of (sl:=[(0,some (.ptr 1000 0)),(6,some (.ptr 6 0)),(8,some (.ptr 8 0)),(9,some (.ptr 9 0)),(10,some (.ptr 10 0)),(11,some (.ptr 52 0))]) (hp:=[(1000,some (cg l ⟨0,[i],[z0],d⟩ a)),(6,some (.box [bl (rt (dM x.half x.t.q)).neg,ws (rt (dM x.half x.t.q)).num,ws (rt (dM x.half x.t.q)).den])),(8,some (.box [bl (rt (dH x.half x.t.q)).neg,ws (rt (dH x.half x.t.q)).num,ws (rt (dH x.half x.t.q)).den])),(9,some (.box (qC (am l j0 i)))),(10,some (.box [nA (sX (aB l a j0 i).1),nA (sX (aB l a j0 i).2)])),(52,some (bg (llq a.rs)))]) a7 (.k (.k (.k (.k (.k (.cons rfl (BlkSub.bL (.cons (.of (mS etw)) (.cons (.refl _) .nil)) rfl) .nil))))))) ?_
 refine gc (kv 1 oz) ?_;refine gc (uO (qc.qs oz) (qs.qs oz)) ?_;refine gt (aX (Con.rB 52 rfl rfl rfl rfl (Con.sA (.cons (.refl _) (.cons Vx (.cons (.refl _) (.cons (.refl _) (.cons (.refl _) .nil))))) hb)) (.cons (.tmp rfl) (.cons (.tmp rfl) (.cons (.tmp rfl) (.cons (.tmp rfl) (.cons (.tmp rfl) .nil))))) rfl rfl rfl) ?_;refine gD ?_;refine gC (fun t67=>?_) (fun t67=>?_) (st1:=(12,0));cases t67;refine gc hcl2 ?_;refine gD ?_;refine gR ?_;exact ay.keep (bq rfl)
theorem V6{E:Nat}(hE:E<=20000000000){l:Li}{a:As}(D:DyW l a)(h3:(llq a.rs).length<=2){i z0 d:Int}{j0:Jt}(hg:GrOk l ⟨0,[i],[z0],d⟩)(h0:l.jo[z0.toNat]?=some j0)(p0:PinP E l a j0 i){x:Tn}(hx:x.t.ok)(hq:Qb 1000 x.t.q) :
  Con prog 64 [.ptr 1000 0,x.av] [(1000,some (cg l ⟨0,[i],[z0],d⟩ a))] (pF (oi l a i j0 x)) [(1000,some (cg l ⟨0,[i],[z0],d⟩ a))]:=by
 by_cases he:x.err=0
 ·have h:=Nk hE D h3 hg h0 p0 hx hq he;unfold oi;rw[if_neg oz];exact h
 ·have h:=L2 (l:=l) (g:=⟨0,[i],[z0],d⟩) (a:=a) hx hq he;unfold oi;rw[if_pos he];exact h
def iY(l:Li)(a:As)(g:Gr)(x:Tn):List AV×Nat :=
  if g.kind=0 then oi l a (aI g 0) (ak l g 0) x
  else if g.kind=1 then my l a (aI g 0) (aI g 1) (ak l g 0) (ak l g 1) (ak l g 2)
  else if g.kind=2 then nc l a (aI g 0) (ak l g 0) (ak l g 1)
  else kH l a (aI g 0) (ak l g 0) (ak l g 1)
theorem xG{E:Nat}{l:Li}{k:Int}{a:As}{own:Bool}{n:Nat}{g:Gr}(h:DyOk E l k a own n g)(hk:g.kind=0):∃i z0 d j0,g=⟨0,[i],[z0],d⟩/\l.jo[z0.toNat]?=some j0/\PinP E l a j0 i:=by
 have hd:=h.dy;cases hd with
 |rrr _ _ _ _ _ _ _=>exact absurd hk (by simp)
 |pr _ _ _=>exact absurd hk (by simp)
 |rp _ _ _=>exact absurd hk (by simp)
 | @drv b z d j x t d0 hd hb=>exact⟨b,z,d,j,rfl,t.hj,h.pin rfl t (by simp) (by simp)⟩
theorem Qr{l:Li}{k:Int}{x:Tn}{a:As}{E:Nat}(hop:FP 63 [l.av,i64 k,a.av,bl false] (.tup [.v (.pointer none),br E]))(h0:E≠0) :
  FP 18 [l.av,i64 k,x.av,a.av] (.tup [.lst 3 [],br E]):=by
 refine aj func18 ?_;refine gc hop ?_;refine gC (fun t20=>?_) (fun t20=>?_) (st2:=(77777,0))
 ·refine gR ?_;exact dF (Sub.tup (.cons (.nil _ _ _) (.cons (.refl _) .nil)))
 exact absurd (cZ t20) h0
theorem Qi{E:Nat}(hE:E<=20000000000){l:Li}{k:Int}{a:As}{n:Nat}{g:Gr}{x:Tn}(hx:x.t.ok)(hq:Qb 1000 x.t.q)(h3:(llq a.rs).length<=2)(hR:g.kind≠0->E=3900000/\DyS a)(hop:Con prog 63 [l.av,i64 k,a.av,bl false] [] (.tup [.ptr 900 0,.v .nilIface]) [(900,some (cg l g a))])(D:DyW l a)(ok:DyOk E l k a false n g) :
  FP 18 [l.av,i64 k,x.av,a.av] (pF (iY l a g x)):=by
 have hgo:=ok.ok;refine aj func18 ?_;refine gt (aG hop (.cons (.tmp rfl) (.cons (.tmp rfl) (.cons (.tmp rfl) (.cons (.const _) .nil)))) aH rfl rfl) ?_ (2,0);refine gW (Wk.o (sl:=[(6,some (.ptr 6 0)),(10,some (.ptr 900 0)),(11,some (.v .nilIface))]) (hp:=[(6,some (.box x.av.cells)),(900,some (cg l g a))])) ?_;refine gC (fun t20=>?_) (fun t20=>?_) (st1:=(3,0));cases t20;refine gC (fun t27=>?_) (fun t27=>?_)
 ·have hk:g.kind = 0:=cP t27;obtain ⟨i,z0,d,j0,e,hj0,p0⟩:=xG ok hk;have eR:iY l a g x = oi l a i j0 x:=by unfold iY; rw [if_pos hk,e]; show oi l a i (l.jo.getD z0.toNat default) x = _; rw [ao hj0]
  subst e;refine gt (aX (Con.rB 900 rfl rfl rfl rfl (V6 hE D h3 hgo hj0 p0 hx hq)) (bC rfl rfl) rfl rfl rfl) ?_;refine gR ?_;exact dF (Sub.of (by rw[eR];rfl))
 have hk0:g.kind≠0:=dA t27;obtain⟨hE9,S⟩:=hR hk0;subst hE9;have D:DyR l a:=⟨D,S⟩
 have hn:=S.one D.hc;refine gC (fun t34=>?_) (fun t34=>?_)
 ·have hk:g.kind = 1:=cP t34;obtain ⟨i,k2,z0,z1,z2,j0,j1,j2,P⟩:=ok.rrr hk;obtain ⟨e0,e1,e2,b0,b1,_⟩:=P.at;have eR:iY l a g x = my l a i k2 j0 j1 j2:=by unfold iY; rw [if_neg hk0,if_pos hk,e0,e1,e2,b0,b1]
  have e:=P.eq;subst e;refine gt (aX (Con.rB 900 rfl rfl rfl rfl (VE D hn hgo P)) (cA rfl) rfl rfl rfl) ?_;refine gR ?_;exact dF (Sub.of (by rw[eR];rfl))
 have hk1:g.kind≠1:=dA t34;refine gC (fun t40=>?_) (fun t40=>?_)
 ·have hk:g.kind = 2:=cP t40;obtain ⟨i,z0,z1,j0,j,P,ha,hb⟩:=ok.pr hk;obtain ⟨e0,e1,b0,_⟩:=P.at;have eR:iY l a g x = nc l a i j0 j:=by unfold iY; rw [if_neg hk0,if_neg hk1,if_pos hk,e0,e1,b0]
  have e:=P.eq;subst e;refine gt (aX (Con.rB 900 rfl rfl rfl rfl (Ro D hn hgo P ha hb)) (cA rfl) rfl rfl rfl) ?_;refine gR ?_;exact dF (Sub.of (by rw[eR];rfl))
 have hk2:g.kind≠2:=dA t40;obtain⟨i,z0,z1,j0,j,P,_,hj,hb⟩:=ok.rp hk0 hk1 hk2;obtain⟨e0,e1,b0,_⟩:=P.at;have eR:iY l a g x=kH l a i j0 j:=by unfold iY;rw[if_neg hk0,if_neg hk1,if_neg hk2,e0,e1,b0]
 have e:=P.eq;subst e;refine gt (aX (Con.rB 900 rfl rfl rfl rfl (Qk D hn hgo P hj hb)) (cA rfl) rfl rfl rfl) ?_;refine gR ?_;exact dF (Sub.of (by rw[eR];rfl))
def vN(l:Li)(k:Int)(x:Tn)(a:As):List AV×Nat:=if fy l k a false=0 then iY l a (iF l k) x else([],fy l k a false)
theorem VI(l:Li)(hl:l.ok)(k:Int){x:Tn}(hx:x.t.ok)(hq:Qb 1000 x.t.q)(a:As)(al:AB a)(h3:bD a.rs=0->(llq a.rs).length<=2){E:Nat}(hE:E<=20000000000)(hs:vp E l k a false)(hR:fy l k a false=0->(iF l k).kind≠0->E=3900000/\DyS a) :
  FP 18 [l.av,i64 k,x.av,a.av] (pF (vN l k x a)):=by
 have hop:=Fv l hl k a al false;unfold vN
 by_cases h0:fy l k a false=0
 ·obtain ⟨n, g, ok⟩:=Af hs h0;have hgA:iF l k = g:=by unfold iF; rw [ok.hk,toNat_natCast]; exact ao ok.hg
  have hR:=hR h0;rw[hgA]at hR;rw[h0,hgA]at hop;rw[if_pos h0,hgA];exact Qi hE hx hq (h3 ok.chk) hR hop ⟨hl,ok.li,al,ok.chk⟩ ok
 ·rw[kR h0,qk h0]at hop;rw[if_neg h0];exact Qr hop h0
structure SvOk(s:Sv):Prop where
  tw:∃r,Tw s.ts r
  two:s.ts.length<=2
  ps:∀p∈s.ps,Pq.ok s.ts.length 80000000000 p
  ln:s.ps.length<=2
theorem wS(ts:LL)(x:T ts.length):gU ts x x=true:=by
 unfold gU subT;rw[T.add_neg,T.sgn_zero];rfl
structure SolP(S:List Sv)(kd:Int)(n b:Nat):Prop where
  two:S.length<=2
  ok:∀s∈S,SvOk s
  md:∀(i:Nat)(s:Sv),S[i]?=some s->s.mode=(if kd=0 then 1 else if S.length=2 then 1-2*(i:Int)else 0)/\s.ts.length=n+(if S.length=2 then 1 else 0)/\s.ps.length=b
theorem oy(kd:Int)(n b:Nat):SolP [] kd n b:=⟨by simp,by simp,by simp⟩
theorem wQ(f:Nat->Sv)(n:Nat):((List.range n).map fun i=>(f i).av)=((List.range n).map f).map Sv.av:=by rw[map_map];rfl
theorem Nw{ts:LL}(p q:P2 ts)(z z2:Et ts)(h0:fw p q z z2=0):(dX p q z z2).ts.length=ts.length+(if(dX p q z z2).ps.length=2 then 1 else 0):=by
 unfold fw lG at h0;unfold dX kJ;split
 ·rename_i hd;rw[if_pos hd]at h0;split
  ·simp
  ·rename_i hz;split
   ·rename_i hp;rw[if_pos ⟨Decidable.not_not.1 hz,hp⟩]at h0;cases h0
   ·simp
 ·split
  ·simp
  ·split
   ·simp
   ·simp[dB]
theorem Rs{ts:LL}(p q o:P2 ts)(z:Et ts)(h0:fC p q=0):(dS p q o z).ts.length=ts.length+(if(dS p q o z).ps.length=2 then 1 else 0):=by
 unfold fC at h0;unfold dS;split
 ·rename_i hd;rw[if_pos hd]at h0;cases h0
 ·split
  ·simp
  ·split
   ·simp
   ·simp[dB]
def jA(m:Mt)(hs:List Hd):List Sv:=(List.range m.ps.length).map (jB m hs)
def je(l:Li)(a:As)(i k:Int)(j0 j1 j2:Jt):List Sv :=
  if f6 [co (am l j2 i) (am l j0 i),co (am l j2 k) (am l j1 k)]=true then[]
  else if fw (aB l a j0 i) (aB l a j1 k) (qE (bt (am l j2 i) (am l j0 i))) (qE (bt (am l j2 k) (am l j1 k)))≠0 then[]
  else jA (dX (aB l a j0 i) (aB l a j1 k) (qE (bt (am l j2 i) (am l j0 i))) (qE (bt (am l j2 k) (am l j1 k)))) [⟨am l j0 i,P2.l (aB l a j0 i),am l j2 i⟩,⟨am l j1 k,P2.l (aB l a j1 k),am l j2 k⟩]
def jC(l:Li)(a:As)(i:Int)(j0 j:Jt):List Sv :=
  if f6 [co (aS l i j.point) (am l j0 i)]=true then[]
  else if fC (bf l a j.b j.on) (bf l a j.b j.to)≠0 then[]
  else jA (dS (bf l a j.b j.on) (bf l a j.b j.to) (aB l a j0 i) (qE (bt (aS l i j.point) (am l j0 i)))) [⟨am l j0 i,P2.l (aB l a j0 i),aS l i j.point⟩]
def jI(ts:LL)(R:Rp)(qs:LL):List Sv:=(List.range qs.length).map (iQ ts R qs)
def jq(l:Li)(a:As)(i:Int)(j0 j:Jt):List Sv :=
  if an (b7 l a i j0 j)=0/\an (qE (cc l i j0 j):Et (llq a.rs))=0 then[]
  else if an (bb l a i j0 j)<0 then[]
  else if 0<an (bb l a i j0 j)then jI (aR (llq a.rs) (sX (bb l a i j0 j))) (dg l a i j0 j) [cr (llq a.rs).length,sX (-ba (bb l a i j0 j))]
  else jI (llq a.rs) (dg l a i j0 j) [[]]
def jw(l:Li)(a:As)(i:Int)(j0:Jt)(x:Tn):List Sv:=if x.err≠0 then[]else[⟨llq a.rs,[kX l a i j0 x],1⟩]
def dt(l:Li)(a:As)(g:Gr)(x:Tn):List Sv :=
  if g.kind=0 then jw l a (aI g 0) (ak l g 0) x
  else if g.kind=1 then je l a (aI g 0) (aI g 1) (ak l g 0) (ak l g 1) (ak l g 2)
  else if g.kind=2 then jC l a (aI g 0) (ak l g 0) (ak l g 1)
  else jq l a (aI g 0) (ak l g 0) (ak l g 1)
theorem We(l:Li)(a:As)(i k:Int)(j0 j1 j2:Jt):(my l a i k j0 j1 j2).1=(je l a i k j0 j1 j2).map Sv.av:=by
 unfold my je;split
 ·rfl
 ·split
  ·rfl
  ·exact wQ _ _
theorem MG(l:Li)(a:As)(i:Int)(j0 j:Jt):(nc l a i j0 j).1=(jC l a i j0 j).map Sv.av:=by
 unfold nc jC;split
 ·rfl
 ·split
  ·rfl
  ·exact wQ _ _
theorem RX(l:Li)(a:As)(i:Int)(j0 j:Jt):(kH l a i j0 j).1=(jq l a i j0 j).map Sv.av:=by
 unfold kH jq;split
 ·rfl
 ·split
  ·rfl
  ·split
   ·exact wQ _ _
   ·exact wQ _ _
theorem Us(l:Li)(a:As)(g:Gr)(x:Tn):(iY l a g x).1=(dt l a g x).map Sv.av:=by
 unfold iY dt;split
 ·unfold oi jw;split <;> rfl
 ·split
  ·exact We ..
  ·split
   ·exact MG ..
   ·exact RX ..
theorem E9{ts:LL}{m:Mt}(ok:MtOk ts m){hs:List Hd}(hl:hs.length<=2)(H:∀x∈m.ps,∀h∈hs,HdP m.ts x h){kd:Int}(hk:kd≠0)(lv:m.ts.length=ts.length+(if m.ps.length=2 then 1 else 0)) :
  SolP (jA m hs) kd ts.length hs.length:=by
 have hln:=ok.ln;refine⟨by simpa[jA]using hln,?_,?_⟩
 ·intro s hs2;obtain⟨i,hi,rfl⟩:=List.mem_map.1 hs2;obtain⟨x,hx⟩:=aw (List.mem_range.1 hi);obtain⟨r,tw,_⟩:=ok.tw;refine⟨⟨r,tw⟩,ok.two,?_,by simpa[jB]using hl⟩;intro p hp;unfold jB at hp;rw[ao hx]at hp;obtain⟨h,hh,rfl⟩:=List.mem_map.1 hp;exact(H x (mem_of_getElem? hx) h hh).b.ok
 ·intro i s hi;unfold jA at hi;have hin:i < m.ps.length:=by have:=(List.getElem?_eq_some_iff.1 hi).1; simpa using this
  have e:s=jB m hs i:=by simp[hin]at hi;exact hi.symm
  subst e;have hlen:(jA m hs).length=m.ps.length:=by simp[jA]
  rw[hlen,if_neg hk];refine⟨?_,lv,by simp[jB]⟩;show(if m.ps.length=1 then 0 else 1-2*(i:Int))=_
  by_cases h2:m.ps.length=2
  ·rw[if_neg oz,if_pos h2]
  ·rw[if_pos oz,if_neg h2]
theorem Jz{l:Li}{a:As}(D:DyR l a)(hn:(llq a.rs).length<=1){g:Gr}{i k z0 z1 z2:Int}{j0 j1 j2:Jt}(P:RrrP 3900000 l a g i k z0 z1 z2 j0 j1 j2):SolP (je l a i k j0 j1 j2) 1 (llq a.rs).length 2:=by
 have c:=D.s.ct D.hc;obtain⟨tw,etw⟩:=de D.s.tr D.hc;have hq0:=gj D.hl D.li P.h0 P.p0.or;have hq1:=gj D.hl D.li P.h1 P.p1.or;have hq2:=gj D.hl D.li P.h2 P.t1;have hq3:=gj D.hl D.li P.h2 P.t2;obtain⟨y1,y2⟩:=lT D.hl D.li D.al D.s D.hc P.h0 P.p0;obtain⟨y3,y4⟩:=lT D.hl D.li D.al D.s D.hc P.h1 P.p1;haveI:=c;haveI q1:=qz hq2 hq0;haveI q2:=qz hq3 hq1;have z1:Zu 310000 65000 (qE (bt (am l j2 i) (am l j0 i)):Et (llq a.rs)) 3 0:=inferInstance;have z2:Zu 310000 65000 (qE (bt (am l j2 k) (am l j1 k)):Et (llq a.rs)) 3 0:=inferInstance;unfold je
 by_cases h1:f6 [co (am l j2 i) (am l j0 i),co (am l j2 k) (am l j1 k)]=true
 ·rw[if_pos h1];exact oy _ _ _
 ·rw[if_neg h1];obtain⟨w1,w2⟩:=rc (Bool.eq_false_iff.2 h1)
  by_cases h2:fw (aB l a j0 i) (aB l a j1 k) (qE (bt (am l j2 i) (am l j0 i))) (qE (bt (am l j2 k) (am l j1 k)))≠0
  ·rw[if_pos h2];exact oy _ _ _
  ·rw[if_neg h2];have h3:=Decidable.not_not.1 h2;have ok:=Fu (x:=(aB l a j0 i).1) (y:=(aB l a j0 i).2) (x2:=(aB l a j1 k).1) (y2:=(aB l a j1 k).2) tw hn c y1 y2 z1 y3 y4 z2 h3;exact E9 ok (by simp) (fun x hx=>lD (qH ok hx (y1.nm.mono (by decide)) (y2.nm.mono (by decide)) hq0 hq2 w1) (qH ok hx (y3.nm.mono (by decide)) (y4.nm.mono (by decide)) hq1 hq3 w2)) (by decide) (Nw _ _ _ _ h3)
theorem TU{l:Li}{a:As}(D:DyR l a)(hn:(llq a.rs).length<=1){g:Gr}{i z0 z1:Int}{j0 j:Jt}(P:SlP 3900000 l a g 2 i z0 z1 j0 j)(ha:j.a=i)(hb:Pd 3900000 a j.b):SolP (jC l a i j0 j) 2 (llq a.rs).length 1:=by
 have c:=D.s.ct D.hc;obtain⟨tw,etw⟩:=de D.s.tr D.hc;obtain⟨i1,i2,i3,i4,i5⟩:=cU D.li P.h1;have hq2:Sm 1000 (aS l i j.point):=by rw[<- ha];exact jP D.hl D.li i1 i3
 have hq0:=gj D.hl D.li P.h0 P.p0.or;obtain⟨y1,y2⟩:=lT D.hl D.li D.al D.s D.hc P.h0 P.p0;obtain⟨y3,y4⟩:=nf D.hl D.li D.al D.s D.hc i2 i4 hb;obtain⟨y5,y6⟩:=nf D.hl D.li D.al D.s D.hc i2 (i5 P.hk) hb;haveI:=c;haveI q1:=qz hq2 hq0;have z1:Zu 310000 65000 (qE (bt (aS l i j.point) (am l j0 i)):Et (llq a.rs)) 3 0:=inferInstance;unfold jC
 by_cases h1:f6 [co (aS l i j.point) (am l j0 i)]=true
 ·rw[if_pos h1];exact oy _ _ _
 ·rw[if_neg h1];have w1:=tW (Bool.eq_false_iff.2 h1)
  by_cases h2:fC (bf l a j.b j.on) (bf l a j.b j.to)≠0
  ·rw[if_pos h2];exact oy _ _ _
  ·rw[if_neg h2];have h3:=Decidable.not_not.1 h2;have ok:=DK (o:=aB l a j0 i) (p:=bf l a j.b j.on) (q:=bf l a j.b j.to) (z:=qE (bt (aS l i j.point) (am l j0 i))) tw hn c y1 y2 y3 y4 y5 y6 z1 h3;exact E9 ok (by simp) (fun x hx=>ii (qH ok hx (y1.nm.mono (by decide)) (y2.nm.mono (by decide)) hq0 hq2 w1)) (by decide) (Rs _ _ _ _ h3)
theorem FX{ts T:LL}{R:Rp}{qs:LL}(ct:Cy T 773000000 1101400000)(hl:qs.length<=2)(h1:1<=qs.length)(H:∀q∈qs,RqP T R q)(lv:T.length=ts.length+(if qs.length=2 then 1 else 0)):SolP (jI T R qs) 3 ts.length 1:=by
 refine⟨by simpa[jI]using hl,?_,?_⟩
 ·intro s hs2;obtain⟨i,hi,rfl⟩:=List.mem_map.1 hs2;obtain⟨x,hx⟩:=aw (List.mem_range.1 hi);obtain⟨r,tw,_⟩:=ct.ex;refine⟨⟨r,tw⟩,ct.two,?_,by simp[iQ]⟩;intro p hp;unfold iQ at hp;rw[ao hx]at hp;rw[List.mem_singleton.1 hp];exact(H x (mem_of_getElem? hx)).b.ok
 ·intro i s hi;unfold jI at hi;have hin:i < qs.length:=by have:=(List.getElem?_eq_some_iff.1 hi).1; simpa using this
  have e:s=iQ T R qs i:=by simp[hin]at hi;exact hi.symm
  subst e;have hlen:(jI T R qs).length=qs.length:=by simp[jI]
  rw[hlen,if_neg (by decide)];refine⟨?_,lv,by simp[iQ]⟩;show(if qs.length=1 then 0 else 1-2*(i:Int))=_
  by_cases h2:qs.length=2
  ·rw[if_neg oz,if_pos h2]
  ·rw[if_pos oz,if_neg h2]
theorem LM{l:Li}{a:As}(D:DyR l a)(hn:(llq a.rs).length<=1){g:Gr}{i z0 z1:Int}{j0 j:Jt}(P:SlP 3900000 l a g 3 i z0 z1 j0 j)(hj:j.b=i)(hb:Pd 3900000 a j.a):SolP (jq l a i j0 j) 3 (llq a.rs).length 1:=by
 obtain⟨tw,etw⟩:=de D.s.tr D.hc;have F:=IJ D hn P hj hb;unfold jq
 by_cases h1:an (b7 l a i j0 j)=0/\an (qE (cc l i j0 j):Et (llq a.rs))=0
 ·rw[if_pos h1];exact oy _ _ _
 ·rw[if_neg h1]
  by_cases h2:an (bb l a i j0 j)<0
  ·rw[if_pos h2];exact oy _ _ _
  ·rw[if_neg h2];have hd0:an (b7 l a i j0 j)≠0:=tU tw h2 h1
   by_cases h3:0<an (bb l a i j0 j)
   ·rw[if_pos h3];obtain⟨E,R1,R2,_⟩:=FU F tw hn hd0 oz;exact FX (ts:=llq a.rs) (qs:=[cr (llq a.rs).length,sX (-ba (bb l a i j0 j))]) E.cy (le_refl 2) (by show 1<=2;omega) (lD R1 R2) (dB (llq a.rs) (sX (bb l a i j0 j)))
   ·rw[if_neg h3];obtain⟨cs,R0⟩:=IU F tw hn hd0;exact FX (ts:=llq a.rs) (qs:=[[]]) cs (by show 1<=2;omega) (le_refl 1) (ii R0) rfl
theorem Q3{E:Nat}(hE:E<=20000000000){l:Li}{a:As}(D:DyW l a)(h3:(llq a.rs).length<=2){i z0:Int}{j0:Jt}(h0:l.jo[z0.toNat]?=some j0)(p0:PinP E l a j0 i){x:Tn}(hq:Qb 1000 x.t.q):SolP (jw l a i j0 x) 0 (llq a.rs).length 1:=by
 obtain⟨tw,etw⟩:=de D.al.tr D.hc;unfold jw
 by_cases he:x.err≠0
 ·rw[if_pos he];exact oy _ _ _
 ·rw [if_neg he];refine ⟨by simp,ii ⟨⟨_,tw⟩,h3,ii (Fj hE D h3 h0 p0 hq).ok,by show 1 <= 2; omega⟩,?_⟩;intro n s hs
  match n,hs with
  |0,hs=>cases hs;exact⟨rfl,rfl,rfl⟩
theorem Cp{E:Nat}(hE:E<=20000000000){l:Li}{k:Int}{a:As}{n:Nat}{g:Gr}{x:Tn}(D:DyW l a)(h3:(llq a.rs).length<=2)(ok:DyOk E l k a false n g)(hR:g.kind≠0->E=3900000/\DyS a)(hq:Qb 1000 x.t.q):SolP (dt l a g x) g.kind (llq a.rs).length g.bo.length:=by
 unfold dt
 by_cases hk0:g.kind=0
 ·obtain⟨i,z0,d,j0,e,hj0,p0⟩:=xG ok hk0;rw[if_pos hk0,e];show SolP (jw l a i (l.jo.getD z0.toNat default) x) _ _ _;rw[ao hj0];exact Q3 hE D h3 hj0 p0 hq
 ·rw[if_neg hk0];obtain⟨hE9,S⟩:=hR hk0;subst hE9;have D:DyR l a:=⟨D,S⟩
  have hn:=S.one D.hc
  by_cases hk1:g.kind=1
  ·obtain⟨i,k2,z0,z1,z2,j0,j1,j2,P⟩:=ok.rrr hk1;obtain⟨e0,e1,e2,b0,b1,_⟩:=P.at;rw[if_pos hk1,e0,e1,e2,b0,b1,hk1,P.eq];exact Jz D hn P
  ·rw[if_neg hk1]
   by_cases hk2:g.kind=2
   ·obtain⟨i,z0,z1,j0,j,P,ha,hb⟩:=ok.pr hk2;obtain⟨e0,e1,b0,_⟩:=P.at;rw[if_pos hk2,e0,e1,b0,hk2,P.eq];exact TU D hn P ha hb
   ·obtain⟨i,z0,z1,j0,j,P,_,hj,hb⟩:=ok.rp hk0 hk1 hk2;obtain⟨e0,e1,b0,hk3⟩:=P.at;rw[if_neg hk2,e0,e1,b0,hk3,P.eq];exact LM D hn P hj hb
open Lean.Grind (CommRing)
structure Hm{ts:LL}{R:Type}[CommRing R](f:Et ts->R):Prop where
  add:∀x y,f (x+y)=f x+f y
  mul:∀x y,f (x*y)=f x*f y
  neg:∀x,f (-x)=-f x
  one:f 1=1
  inv:∀x,an x≠0->f (iE x)*f x=1
  zero:∀x,f x=0↔an x=0
section
variable{ts:LL}{R:Type}[CommRing R]{f:Et ts->R}(h:Hm f)
include h
theorem Hm.sub(x y:Et ts):f (x-y)=f x-f y:=by
 rw[show x-y=x+-y by grind,h.add,h.neg];grind
theorem Hm.nul:f 0=0:=by
 have e:=h.add 0 0;rw[show(0:Et ts)+0=0 by grind]at e;grind
theorem Hm.q1:f (qE ((1:Int):Rat))=1:=by rw[kV];exact h.one
theorem Hm.q4:f (qE 4)=4:=by
 have e:(qE 4:Et ts)=1+1+1+1:=by
  have e1:=pL (r:=ax ts) (n:=ts.length) 1 1;have e2:=pL (r:=ax ts) (n:=ts.length) 2 2;rw[show(1:Rat)+1=2 by decide +kernel]at e1;rw[show(2:Rat)+2=4 by decide +kernel,e1]at e2;rw[e2];have e3:(qE 1:Et ts)=1:=rfl;rw[e3];grind
 rw[e,h.add,h.add,h.add,h.one];grind
end
abbrev fe(ts:LL):Prop:=fj (ax ts) ts.length
theorem Ln{ts:LL}(hp:fe ts):Hm (ah hp:Et ts->Zq hp) :=
 ⟨fun _ _=>rfl,fun _ _=>rfl,fun _=>rfl,rfl,fun x hx=>vt hp hx,fun x=>dO hp⟩
theorem Sk{ts:LL}(X:Et ts)(hp:fe (aR ts (sX X))):Hm (fun x:Et ts=>ah hp (aL X x)) :=
  ⟨fun x y => by rw [pV]; rfl, fun x y => by rw [fa]; rfl, fun x => by rw [EJ]; rfl,
   by have e := mY X ((1 : Nat) : Rat)
      have e1:(qE ((1:Nat):Rat):Et ts)=1:=rfl;rw[e1]at e;rw[e];rfl,
   fun x hx=>by rw[nC];exact vt hp (by show an (aL X x)≠0;rw[nP];exact hx),
   fun x=>by rw[dO hp];show an (aL X x)=0↔_;rw[nP]⟩
theorem If(k:Nat):ae (k+1) (cr k)=(T.zero k,T.ofQ k 1):=by
 have h1:(cr k).take (2^k)=List.replicate (2^k) 0:=by
  unfold cr;rw[List.take_set_of_le (le_refl _),List.take_replicate];congr 1;have:=Nat.pow_lt_pow_right (a:=2) oz (Nat.lt_succ_self k);omega
 have h2:(cr k).drop (2^k)=(1:Rat)::List.replicate (2^k-1) 0:=by
  unfold cr;rw[List.drop_set,if_neg oz,Nat.sub_self,List.drop_replicate]
  have e:2^(k+1)-2^k=(2^k-1)+1:=by
   have h3:0<2^k:=Nat.pow_pos oz;have h4:2^(k+1)=2^k+2^k:=by rw[Nat.pow_succ];omega
   omega
  rw[e,List.replicate_succ,List.set_cons_zero]
 show(ae k _,ae k _)=_;rw[h1,h2]
 have e1:ae k (List.replicate (2^k) (0:Rat))=T.zero k:=by
  rw[<- iR]
  exact nG k (fun i _=>by
   rw[getD_eq_getElem?_getD,getD_eq_getElem?_getD,getElem?_replicate];split <;> rfl)
 have e2:ae k ((1:Rat)::List.replicate (2^k-1) 0)=T.ofQ k 1:=by
  rw[<- lA]
  exact nG k (fun i _=>by
   cases i with
   |zero=>rfl
   |succ i =>
    rw[getD_eq_getElem?_getD,getD_eq_getElem?_getD,List.getElem?_cons_succ,getElem?_replicate];split <;> rfl)
 rw[e1,e2]
theorem Lt{n N:Nat}(hN:N=n+1){r:(k:Nat)->T k}(x:T n)(hx:r n=x):T.mul r N (ae N (cr n)) (ae N (cr n))=iG x:=by
 subst hN;rw[If,jL];show(T.add n (T.mul r n (T.zero n) (T.zero n)) (T.mul r n (T.mul r n (T.ofQ n 1) (T.ofQ n 1)) (r n)),T.add n (T.mul r n (T.zero n) (T.ofQ n 1)) (T.mul r n (T.ofQ n 1) (T.zero n)))=_;have L:=mv r n;rw[L.one,L.one,T.zero_mul,T.zero_mul,T.zero_add,L.one,T.zero_add,hx]
theorem qj{ts:LL}(X:Et ts):ba X*ba X=aL X X:=by
 refine Lt (dB _ _) X ?_;show ae ts.length ((aR ts (sX X)).getD ts.length [])=X;rw[tG,o9];exact bn _ _
section
variable{R:Type}[CommRing R]
theorem ST{p1 p2 q1 q2 z z2 i t:R}(hi:i*(((p1-q1)*(p1-q1)+(p2-q2)*(p2-q2))+((p1-q1)*(p1-q1)+(p2-q2)*(p2-q2)))=1)
  (ht:t*t=4*(z*((p1-q1)*(p1-q1)+(p2-q2)*(p2-q2)))-((z+((p1-q1)*(p1-q1)+(p2-q2)*(p2-q2)))-z2)*((z+((p1-q1)*(p1-q1)+(p2-q2)*(p2-q2)))-z2))
  {x y:R} (hx:x=p1+((z+((p1-q1)*(p1-q1)+(p2-q2)*(p2-q2)))-z2)*i*(q1-p1)+t*(i*-(q2-p2))) (hy:y=p2+((z+((p1-q1)*(p1-q1)+(p2-q2)*(p2-q2)))-z2)*i*(q2-p2)+t*(i*(q1-p1))) :
  (x-p1)*(x-p1)+(y-p2)*(y-p2)=z/\(x-q1)*(x-q1)+(y-q2)*(y-q2)=z2:=by
 obtain⟨d,hd⟩:∃d,d=(p1-q1)*(p1-q1)+(p2-q2)*(p2-q2):=⟨_,rfl⟩
 rw[<- hd]at hi ht hx hy;obtain⟨a,ha⟩:∃a,a=z+d-z2:=⟨_,rfl⟩
 rw[<- ha]at ht hx hy;have e1:(x-p1)*(x-p1)+(y-p2)*(y-p2)=(a*a+t*t)*(i*i)*d:=by rw[hx,hy,hd];grind
 have e2:(a*a+t*t)*(i*i)*d=z:=by
  rw[ht];have:(a*a+(4*(z*d)-a*a))*(i*i)*d=z*(i*(d+d))*(i*(d+d)):=by grind
  rw[this,hi];grind
 have e3:(x-q1)*(x-q1)+(y-q2)*(y-q2)=((x-p1)*(x-p1)+(y-p2)*(y-p2))-a*(i*(d+d))+d:=by rw[hx,hy,hd];grind
 refine⟨e1.trans e2,?_⟩;rw[e3,e1,e2,hi,ha];grind
theorem Ki(e t i S:R):(e+t)*i*S=(e+t)*(i*S):=by grind
theorem I5(z i S W:R):i*S*z-i*(S*W)+W=z*(i*S)-(i*S)*W+W:=by grind
theorem R5(z W:R):z*1-1*W+W=z:=by grind
theorem Vw(x:R):x*1=x:=by grind
theorem S4(k e t S:R):k*k*S-(k*e+k*e)=k*(k*S)-(k*e+k*e):=by grind
theorem M3(e t i:R):(e+t)*i*(e+t)-((e+t)*i*e+(e+t)*i*e)=i*(t*t-e*e):=by grind
theorem TN{p1 p2 q1 q2 c1 c2 z i t k:R}(hi:i*((q1-p1)*(q1-p1)+(q2-p2)*(q2-p2))=1)
  (ht:t*t=((q1-p1)*(q1-p1)+(q2-p2)*(q2-p2))*z-((q1-p1)*(c2-p2)-(q2-p2)*(c1-p1))*((q1-p1)*(c2-p2)-(q2-p2)*(c1-p1)))
  (hk:k=((q1-p1)*(c1-p1)+(q2-p2)*(c2-p2)+t)*i)
  {x y:R} (hx:x=p1+k*(q1-p1)) (hy:y=p2+k*(q2-p2)) :
  (x-c1)*(x-c1)+(y-c2)*(y-c2)=z/\(q1-p1)*(y-p2)-(q2-p2)*(x-p1)=0:=by
 refine⟨?_,by rw[hx,hy];grind⟩;obtain⟨S,hS⟩:∃S,S=(q1-p1)*(q1-p1)+(q2-p2)*(q2-p2):=⟨_,rfl⟩
 obtain⟨e,he⟩:∃e,e=(q1-p1)*(c1-p1)+(q2-p2)*(c2-p2):=⟨_,rfl⟩
 obtain⟨C,hC⟩:∃C,C=(q1-p1)*(c2-p2)-(q2-p2)*(c1-p1):=⟨_,rfl⟩
 obtain⟨W,hW⟩:∃W,W=(c1-p1)*(c1-p1)+(c2-p2)*(c2-p2):=⟨_,rfl⟩
 rw[<- hS]at hi ht;rw[<- he]at hk;rw[<- hC]at ht;have e0:e*e+C*C=S*W:=by rw[he,hC,hS,hW];grind
 have e1:(x-c1)*(x-c1)+(y-c2)*(y-c2)=k*k*S-(k*e+k*e)+W:=by rw[hx,hy,hS,he,hW];grind
 have e2:k*S=e+t:=by rw[hk,Ki,hi,Vw]
 have e3:k*k*S-(k*e+k*e)+W=i*(t*t-e*e)+W:=by
  rw[S4 k e t S,e2,hk,M3]
 rw[e1,e3,ht];have:i*(S*z-C*C-e*e)+W=i*S*z-i*(e*e+C*C)+W:=by grind
 rw[this,e0,I5,hi,R5]
theorem Pg{W1 W2 N hh i t D w1 w2:R}(hD:D=W1*W1+W2*W2)(hi:i*D=1)(ht:t*t=N*D-hh*hh)
  (h1:w1=(t*W1-hh*-W2)*i) (h2:w2=(t*W2-hh*W1)*i):w1*w1+w2*w2=N/\w1*W2-w2*W1=hh:=by
 have e1:w1*w1+w2*w2=(t*t+hh*hh)*(i*D)*i:=by rw[h1,h2,hD];grind
 have e2:w1*W2-w2*W1=hh*(i*D):=by rw[h1,h2,hD];grind
 refine⟨?_,by rw[e2,hi];grind⟩;rw[e1,ht,hi];have:(N*D-hh*hh+hh*hh)*1*i=N*(i*D):=by grind
 rw[this,hi];grind
theorem GZ{u1 u2 w1 w2 n i c s:R}(hn:n=u1*u1+u2*u2)(hi:i*n=1)(hc:c=(u1*w1+u2*w2)*i)(hs:s=(u1*w2-u2*w1)*i) :
  (c*u1-s*u2=w1/\s*u1+c*u2=w2)/\(w1*w1+w2*w2=n->c*c+s*s=1):=by
 have e1:c*u1-s*u2=w1*(i*n):=by rw[hc,hs,hn];grind
 have e2:s*u1+c*u2=w2*(i*n):=by rw[hc,hs,hn];grind
 refine⟨⟨by rw[e1,hi];grind,by rw[e2,hi];grind⟩,fun hw=>?_⟩;have e3:c*c+s*s=(w1*w1+w2*w2)*(i*n)*i:=by rw[hc,hs,hn];grind
 rw[e3,hw,hi];rw[show n*1*i=i*n by grind,hi]
end
end Go.Lw
namespace Go.Lw
open Lean.Grind (CommRing)
def aq{ts:LL}(T:LL)(y:Et ts):Et T:=dE T (sX y)
structure Lf(ts T:LL):Prop where
  pos:fe T
  hm:Hm (fun y:Et ts=>ah pos (aq T y))
  low:∀l:List Rat,l.length<=2^ts.length->aq T (dE ts l)=dE T l
  q:∀q:Rat,aq T (qE q:Et ts)=qE q
  len:ts.length<=T.length
  sg:∀y:Et ts,an (aq T y)=an y
  ad:∀x y:Et ts,aq T (x+y)=aq T x+aq T y
  mu:∀x y:Et ts,aq T (x*y)=aq T x*aq T y
theorem cQ{ts:LL}(y:Et ts):aq ts y=y:=bn _ _
theorem mC{ts:LL}(hp:fe ts):Lf ts ts:=by
 refine⟨hp,?_,fun l _=>cQ _,fun q=>cQ _,le_refl _,fun y=>by rw[cQ],fun x y=>by rw[cQ,cQ,cQ],fun x y=>by rw[cQ,cQ,cQ]⟩;have e:(fun y:Et ts=>ah hp (aq ts y))=ah hp:=funext fun y=>by rw[cQ]
 rw[e];exact Ln hp
theorem RC{n N:Nat}(hN:N=n+1){l:List Rat}(h:l.length<=2^n):ae N (sh n (ae n l))=ae N l:=by
 subst hN;rw[ir (eM n _).le,bn,ir h]
theorem qS{ts:LL}(X:Et ts)(hp:fe (aR ts (sX X))):Lf ts (aR ts (sX X)) :=
 ⟨hp,Sk X hp,fun l h=>RC (dB _ _) h,fun q=>mY X q,by rw[dB];omega,fun y=>nP,fun x y=>pV X x y,fun x y=>fa X x y⟩
structure CirG(ts T:LL)(x:List Rat×List Rat)(p q:P2 ts)(z z2:Et ts):Prop where
  lf:Lf ts T
  c1:an ((dE T x.1-aq T p.1)*(dE T x.1-aq T p.1)+(dE T x.2-aq T p.2)*(dE T x.2-aq T p.2)-aq T z)=0
  c2:an ((dE T x.1-aq T q.1)*(dE T x.1-aq T q.1)+(dE T x.2-aq T q.2)*(dE T x.2-aq T q.2)-aq T z2)=0
section
variable{ts:LL}
theorem Gb{R:Type}[CommRing R]{f:Et ts->R}(h:Hm f)(p q:P2 ts):f (az p q)=(f p.1-f q.1)*(f p.1-f q.1)+(f p.2-f q.2)*(f p.2-f q.2):=by
 show f ((p.1-q.1)*(p.1-q.1)+(p.2-q.2)*(p.2-q.2))=_;rw[h.add,h.mul,h.mul,h.sub,h.sub]
theorem K7{R:Type}[CommRing R]{f:Et ts->R}(h:Hm f)(p q:P2 ts)(z z2:Et ts){D:R}(hD:f (az p q)=D):f (bc p z q z2)=4*(f z*D)-((f z+D)-f z2)*((f z+D)-f z2):=by
 subst hD;unfold bc;rw[h.sub,h.mul,h.mul,h.mul,h.sub,h.add,h.q4]
theorem Uq{R:Type}[CommRing R]{f:Et ts->R}(h:Hm f){p q:P2 ts}{z z2:Et ts}(hd2:an (az p q+az p q)≠0){t:R}(ht:t*t=f (bc p z q z2)){x y:R}
  (hx:x=f (cW p q z z2).1+t*f (gx p q).1) (hy:y=f (cW p q z z2).2+t*f (gx p q).2) :
  (x-f p.1)*(x-f p.1)+(y-f p.2)*(y-f p.2)=f z/\(x-f q.1)*(x-f q.1)+(y-f q.2)*(y-f q.2)=f z2:=by
 have d:=Gb h p q;have hi:=h.inv _ hd2;rw[h.add,d]at hi;rw[K7 h p q z z2 d]at ht;refine ST hi ht ?_ ?_
 ·rw[hx,vB];unfold cM gx;dsimp only;show f (p.1+qE ((1:Int):Rat)*iE (az p q+az p q)*(z+az p q-z2)*(q.1-p.1))+t*f (qE ((1:Int):Rat)*iE (az p q+az p q)*(0-(q.2-p.2)))=_;simp only[h.add,h.mul,h.sub,h.q1,h.nul,d];generalize(f p.1-f q.1)*(f p.1-f q.1)+(f p.2-f q.2)*(f p.2-f q.2)=D;generalize f (iE (az p q+az p q))=i;clear ht hi hx hy;grind
 ·rw[hy,vB];unfold cM gx;dsimp only;show f (p.2+qE ((1:Int):Rat)*iE (az p q+az p q)*(z+az p q-z2)*(q.2-p.2))+t*f (qE ((1:Int):Rat)*iE (az p q+az p q)*(q.1-p.1))=_;simp only[h.add,h.mul,h.sub,h.q1,d];generalize(f p.1-f q.1)*(f p.1-f q.1)+(f p.2-f q.2)*(f p.2-f q.2)=D;generalize f (iE (az p q+az p q))=i;clear ht hi hx hy;grind
theorem CA{r:Nat}(tw:Tw ts r){d:Et ts}(hd:an d≠0):an (d+d)≠0:=by
 rw[<- yK,wi tw];exact hd
theorem yE{T:LL}(L:Lf ts T){x:List Rat×List Rat}{p q:P2 ts}{z z2:Et ts}(hd2:an (az p q+az p q)≠0){t:Et T}(ht:ah L.pos (t*t)=ah L.pos (aq T (bc p z q z2)))
  (hx:dE T x.1=aq T (cW p q z z2).1+t*aq T (gx p q).1) (hy:dE T x.2=aq T (cW p q z z2).2+t*aq T (gx p q).2):CirG ts T x p q z z2:=by
 have g:=Uq L.hm hd2 (t:=ah L.pos t) ht (x:=ah L.pos (dE T x.1)) (y:=ah L.pos (dE T x.2)) (by rw[hx];rfl) (by rw[hy];rfl);refine⟨L,?_,?_⟩
 ·refine(dO L.pos).1 ?_;rw[bP,fL,bB,bB,bP,bP];have:=g.1;generalize ah L.pos (aq T z)=Z at *;generalize ah L.pos (aq T p.1)=P1 at *;generalize ah L.pos (aq T p.2)=P2 at *;rw[this];grind
 ·refine(dO L.pos).1 ?_;rw[bP,fL,bB,bB,bP,bP];have:=g.2;rw[this];grind
theorem dV{T:LL}(y:Et T):dE T (sX y)=y:=bn _ _
theorem Mm{r:Nat}(tw:Tw ts r)(hx4:∀X:Et ts,0<an X->fe (aR ts (sX X))){p q:P2 ts}{z z2:Et ts}(h0:fw p q z z2=0)(hz:0<an z) :
  ∀x∈(dX p q z z2).ps,CirG ts (dX p q z z2).ts x p q z z2:=by
 intro x;unfold fw lG at h0;unfold dX;split
 ·rename_i hd;rw[if_pos hd]at h0;unfold kJ;split
  ·intro hx;cases hx
  ·intro hx;cases hx
 ·rename_i hd;have hd2:=CA tw hd;split
  ·intro hx;cases hx
  ·rename_i hn;split
   ·rename_i hX;intro hx;rw[List.mem_singleton.1 hx];have hp:fe ts:=tw.pos;refine yE (mC hp) hd2 (t:=0) ?_ ?_ ?_
    ·refine((dO hp).2 ?_).trans ((dO hp).2 ?_).symm
     ·rw[show(0:Et ts)*0=0 by grind];exact(dN _ _ hp).zero
     ·rw[cQ];exact hX
    ·rw[cQ,cQ,dV];grind
    ·rw[cQ,cQ,dV];grind
   ·rename_i hX;have hX1:0 < an (bc p z q z2):=by omega
    have hp:=hx4 _ hX1;intro hx;have L:=qS (bc p z q z2) hp;have e:=qj (bc p z q z2);rcases List.mem_cons.1 hx with rfl |hx
    ·refine yE L hd2 (t := ba (bc p z q z2)) (by rw [e]; rfl) ?_ ?_
     ·rw[dV];exact congrArg Prod.fst (se (bc p z q z2) (cW p q z z2) p q)
     ·rw[dV];exact congrArg Prod.snd (se (bc p z q z2) (cW p q z z2) p q)
    ·rw [List.mem_singleton.1 hx];refine yE L hd2 (t:=-ba (bc p z q z2)) (by rw [show -ba (bc p z q z2) * -ba (bc p z q z2) = ba (bc p z q z2) * ba (bc p z q z2) by grind,e]; rfl) ?_ ?_
     ·rw[dV,congrArg Prod.fst (wH (bc p z q z2) (cW p q z z2) p q)];show aL _ _-_*aL _ _=aL _ _+-_*aL _ _;grind
     ·rw[dV,congrArg Prod.snd (wH (bc p z q z2) (cW p q z z2) p q)];show aL _ _-_*aL _ _=aL _ _+-_*aL _ _;grind
structure LinG(ts T:LL)(x:List Rat×List Rat)(p q c:P2 ts)(z:Et ts):Prop where
  lf:Lf ts T
  c:an ((dE T x.1-aq T c.1)*(dE T x.1-aq T c.1)+(dE T x.2-aq T c.2)*(dE T x.2-aq T c.2)-aq T z)=0
  l:an ((aq T q.1-aq T p.1)*(dE T x.2-aq T p.2)-(aq T q.2-aq T p.2)*(dE T x.1-aq T p.1))=0
theorem QC{R:Type}[CommRing R]{f:Et ts->R}(h:Hm f){p q c:P2 ts}{z:Et ts}(hd:an (bi p q)≠0){t:R}(ht:t*t=f (aO p q c z)){x y:R}
  (hx:x=f (cM p (bG p q c*iE (bi p q)) (aQ q p)).1+t*f (fU p q).1) (hy:y=f (cM p (bG p q c*iE (bi p q)) (aQ q p)).2+t*f (fU p q).2) :
  (x-f c.1)*(x-f c.1)+(y-f c.2)*(y-f c.2)=f z/\(f q.1-f p.1)*(y-f p.2)-(f q.2-f p.2)*(x-f p.1)=0:=by
 have hi:=h.inv _ hd
 have eS:f (bi p q)=(f q.1-f p.1)*(f q.1-f p.1)+(f q.2-f p.2)*(f q.2-f p.2):=by
  show f ((q.1-p.1)*(q.1-p.1)+(q.2-p.2)*(q.2-p.2))=_;simp only[h.add,h.mul,h.sub]
 have eE:f (bG p q c)=(f q.1-f p.1)*(f c.1-f p.1)+(f q.2-f p.2)*(f c.2-f p.2):=by
  show f ((q.1-p.1)*(c.1-p.1)+(q.2-p.2)*(c.2-p.2))=_;simp only[h.add,h.mul,h.sub]
 have eC:f (ik p q c)=(f q.1-f p.1)*(f c.2-f p.2)-(f q.2-f p.2)*(f c.1-f p.1):=by
  show f ((q.1-p.1)*(c.2-p.2)-(q.2-p.2)*(c.1-p.1))=_;simp only[h.mul,h.sub]
 have eX:f (aO p q c z)=f (bi p q)*f z-f (ik p q c)*f (ik p q c):=by
  show f (bi p q*z-ik p q c*ik p q c)=_;simp only[h.mul,h.sub]
 rw[eX,eC,eS]at ht;rw[eS]at hi;refine TN hi ht (k:=(f (bG p q c)+t)*f (iE (bi p q))) (by rw[eE]) ?_ ?_
 ·rw[hx];unfold cM fU;show f (p.1+bG p q c*iE (bi p q)*(q.1-p.1))+t*f (qE ((1:Int):Rat)*iE (bi p q)*(q.1-p.1))=_;simp only[h.add,h.mul,h.sub,h.q1];generalize f (iE (bi p q))=i;generalize f (bG p q c)=e;clear ht hi hx hy eS eE eC eX;grind
 ·rw[hy];unfold cM fU;show f (p.2+bG p q c*iE (bi p q)*(q.2-p.2))+t*f (qE ((1:Int):Rat)*iE (bi p q)*(q.2-p.2))=_;simp only[h.add,h.mul,h.sub,h.q1];generalize f (iE (bi p q))=i;generalize f (bG p q c)=e;clear ht hi hx hy eS eE eC eX;grind
theorem xW{T:LL}(L:Lf ts T){x:List Rat×List Rat}{p q c:P2 ts}{z:Et ts}(hd:an (bi p q)≠0){t:Et T}(ht:ah L.pos (t*t)=ah L.pos (aq T (aO p q c z)))
  (hx:dE T x.1=aq T (cM p (bG p q c*iE (bi p q)) (aQ q p)).1+t*aq T (fU p q).1) (hy:dE T x.2=aq T (cM p (bG p q c*iE (bi p q)) (aQ q p)).2+t*aq T (fU p q).2):LinG ts T x p q c z:=by
 have g:=QC L.hm hd (t:=ah L.pos t) ht (x:=ah L.pos (dE T x.1)) (y:=ah L.pos (dE T x.2)) (by rw[hx];rfl) (by rw[hy];rfl);refine⟨L,?_,?_⟩
 ·refine(dO L.pos).1 ?_;rw[bP,fL,bB,bB,bP,bP];have:=g.1;rw[this];grind
 ·refine(dO L.pos).1 ?_;rw[bP,bB,bB,bP,bP,bP,bP];exact g.2
theorem Rg{r:Nat}(tw:Tw ts r)(hx4:∀X:Et ts,0<an X->fe (aR ts (sX X))){p q c:P2 ts}{z:Et ts}(h0:fC p q=0) :
  ∀x∈(dS p q c z).ps,LinG ts (dS p q c z).ts x p q c z:=by
 intro x;unfold fC at h0;unfold dS;split
 ·intro hx;cases hx
 ·rename_i hd;split
  ·intro hx;cases hx
  ·rename_i hn;split
   ·rename_i hX;intro hx;rw[List.mem_singleton.1 hx];have hp:fe ts:=tw.pos;refine xW (mC hp) hd (t:=0) ?_ ?_ ?_
    ·refine((dO hp).2 ?_).trans ((dO hp).2 ?_).symm
     ·rw[show(0:Et ts)*0=0 by grind];exact(dN _ _ hp).zero
     ·rw[cQ];exact hX
    ·rw[cQ,cQ,dV];grind
    ·rw[cQ,cQ,dV];grind
   ·rename_i hX
    have hX1:0<an (aO p q c z):=by
     rcases(dN _ _ tw.pos).cs (aO p q c z)with g |g |g
     ·exact absurd g hn
     ·exact absurd g hX
     ·show 0<sg _ _ _;rw[g];decide
    have hp:=hx4 _ hX1;intro hx;have L:=qS (aO p q c z) hp;have e:=qj (aO p q c z);rcases List.mem_cons.1 hx with rfl |hx
    ·refine xW L hd (t := ba (aO p q c z)) (by rw [e]; rfl) ?_ ?_
     ·rw[dV];exact congrArg Prod.fst (wa (aO p q c z) p q c)
     ·rw[dV];exact congrArg Prod.snd (wa (aO p q c z) p q c)
    ·rw [List.mem_singleton.1 hx];refine xW L hd (t:=-ba (aO p q c z)) (by rw [show -ba (aO p q c z) * -ba (aO p q c z) = ba (aO p q c z) * ba (aO p q c z) by grind,e]; rfl) ?_ ?_
     ·rw[dV,congrArg Prod.fst (xc (aO p q c z) p q c)];show aL _ _-_*aL _ _=aL _ _+-_*aL _ _;grind
     ·rw[dV,congrArg Prod.snd (xc (aO p q c z) p q c)];show aL _ _-_*aL _ _=aL _ _+-_*aL _ _;grind
end
end Go.Lw
