/- LimitsRadicands: for any linkage the law returns true and leaves its argument as it was. No other condition. Part 6 of 8: what the later parts need -/
import Derived.Test.YtmencaoblogmeaaGreatXe
set_option linter.unusedVariables false
open List (map_take all_append)
open List renaming mem_of_getElem? → ahg, mem_append → ahn, mem_cons → ah3, length_cons → ahx, length_append → aid, length_nil → ah9, getD_eq_getElem?_getD → ahh, getElem?_append_left → ah4, getElem?_eq_none → aht, all_eq_true → ahs, getElem?_take → aie, getElem?_drop → aii, getElem?_map → aho, append_assoc → aip, getElem?_append_right → ahz, getElem?_eq_getElem → ahm, getElem?_replicate → aia, map_append → aih, length_take → ah5, take_of_length_le → ah1, drop_zero → aim, take_length → ahw, not_mem_nil → ahy, length_map → ahk, length_replicate → ah7, map_replicate → aik, map_set → ain, length_set → air, mem_of_mem_take → aes, length_tail → aet, length_pos_iff → aez, eq_of_mem_replicate → ae2, mem_filter → ae3, mem_singleton → ae4, append_nil → ae5, mem_iff_getElem → afa, size_toArray → afd, getElem?_eq_some_iff → afh, length_drop → afi, map_drop → afk, contains_eq_any_beq → afl, range_succ → afm, length_eq_zero_iff → afp, replicate → afq, getElem?_toArray → afs, mem_map → aft, mem_range → afu, foldl_cons → afw, getElem?_tail → afx
open Nat renaming le_refl → ahr, lt_of_lt_of_le → ah2, lt_or_ge → ahq, le_trans → ah8, mul_le_mul_right → ah0, zero_le → ahv, min_eq_left → adi, eq_zero_or_pos → adm, mod_lt → adn, pow_succ → ado, blt_eq → adx, div_add_mod → adz, mul_assoc → ad0, add_mul → ad2, pow_pos → ad7, pow_le_pow_right → ad8, add_assoc → aec, mul_comm → aef, zero_add → aeg, two_pow_pos → aej, blt → aem, add_zero → aep, div_lt_iff_lt_mul → aer
open Option renaming map_eq_some_iff → ahl
open Bool renaming and_eq_true → ahj, and_false → agp, false_and → agq, not_eq_false' → agr, eq_iff_iff → ags, not_eq_true' → agt, true_and → agu
open Array renaming getElem?_extract → ag1, getElem?_eq_getElem → ag7, getElem?_toList → ag9
open Int renaming toNat_natCast → aij
open Rat renaming pow_succ → age, mul_nonneg → agj
open Go renaming Operand → ai2, Value → ai3, TypeId → ai4, Program → ai5, World → ai6
open Go.Proofs.Tryz
namespace Go.Lw
open Go.Proofs
structure Po(e:Nat)(p:List Rat):Prop where
  td:cR p
  len:p.length<=30
  b:Pb e p
theorem Po.mono{e f:Nat}{p:List Rat}(h:Po e p)(hf:e<=f):Po f p:=⟨h.td,h.len,h.b.mono hf⟩
theorem Po.qs{e:Nat}{p:List Rat}(h:Po e p)(he:e<=1000000000000){c:Rat}(hc:c∈p):Qs c:=(h.b c hc).qs oz
theorem El:∀{p:List Rat},cR p->0<p.length->∃c,p[p.length-1]?=some c/\c≠0
 |[],_,h=>by simp at h
 |[c],hp,_=>⟨c,rfl,hp.ne rfl⟩
 |c::d::p,hp,_=>by
  obtain⟨x,hx,h0⟩:=El hp.tail (by simp);exact⟨x,hx,h0⟩
theorem rr:∀p:List Rat,ptr p=p.take (ptr p).length
 |[]=>rfl
 |c::p=>by
  have ih:=rr p;unfold ptr;split
  ·rfl
  ·show c::ptr p=c::p.take (ptr p).length;rw[<- ih]
theorem IF:∀{p:List Rat}{n:Nat},ptr (p.take n)=ptr p->(∃c,p[n-1]?=some c/\c≠0)->n<=p.length->0<n->n=(ptr p).length:=by
 intro p n h hc hn h0;obtain⟨c,hc,aG⟩:=hc
 have h1:cR (p.take n):=by
  have key:∀(l:List Rat)(c:Rat),l[l.length-1]?=some c->c≠0->cR l:=by
   intro l
   induction l with
   |nil=>intro c h;simp at h
   |cons d l ih =>
    intro c h aG;cases l with
    |nil =>
     simp at h;subst h;exact v5 rfl (fun _=>aG)
    |cons d2 l =>
     refine v5 (ih c (by simpa using h) aG) (fun e=>by cases e)
  refine key _ c ?_ aG;rw[ah5,adi hn,aie,ait oz];exact hc
 rw[h1]at h;have h2:=ai0 List.length h;rw[ah5]at h2;omega
theorem E5{p:List Rat}{n:Nat}(h:ptr (p.take (n+1))=ptr p)(hc:p[n]?=some 0):ptr (p.take n)=ptr p:=by
 rw[<- h];refine nD (dp _) (dp _) (fun t=>?_);rw[ib,ib]
 have key:∀(l:List Rat)(n:Nat),l[n]?=some 0->au (l.take n) t=au (l.take (n+1)) t:=by
  intro l
  induction l with
  |nil=>intro n h;simp at h
  |cons d l ih =>
   intro n h;cases n with
   |zero =>
    simp at h;subst h;show(0:Rat)=0+t*0;grind
   |succ n =>
    show d+t*au (l.take n) t=d+t*au (l.take (n+1)) t;rw[ih n (by simpa using h)]
 exact key p n hc
theorem yk(t:Rat)(i:Nat):∀k,t^(i+k)=t^i*t^k
 |0=>by rw[aep,Rat.pow_zero];grind
 |k+1=>by rw[<- aec,age,age,yk t i k];grind
theorem ZP(n:Nat):BlkSub (.row 3 (afq n (.agg [.v (.bool false),nS,nS]))) (.row 3 ((afq n (0:Rat)).map qA)):=by
 refine .row (by simp) ?_;intro i e e' he he';rw[aik,aia]at he';rw[aia]at he;split at he
 ·rename_i h;rw[ait h]at he';cases he;cases he'
  refine⟨rfl,?_⟩;intro j x y hx hy
  match j,hx,hy with
  |0,hx,hy=>cases hx;cases hy;exact⟨rfl,.refl _⟩
  |1,hx,hy=>cases hx;cases hy;exact⟨rfl,.nil _ _ _⟩
  |2,hx,hy=>cases hx;cases hy;exact⟨rfl,.nil _ _ _⟩
 ·cases he
theorem Ao{n:Nat}{l:List Rat}(h:l=afq n 0):BlkSub (.row 3 (afq n (.agg [.v (.bool false),nS,nS]))) (.row 3 (l.map qA)):=by rw[h];exact ZP n
def jE(l:List Rat)(i:Nat):List Rat:=l.take i++afq (l.length-i) 0
theorem abd(l:List Rat):jE l 0=afq l.length 0:=by unfold jE;simp
theorem Qi{l:List Rat}{i:Nat}(h:i<=l.length):(jE l i).length=l.length:=by unfold jE;simp;omega
theorem UX(l:List Rat):jE l l.length=l:=by unfold jE;simp
theorem Ye{l:List Rat}{i:Nat}{x:Rat}(hx:l[i]?=some x):(jE l i).set i x=jE l (i+1):=by
 have hi:=(afh.1 hx).1;unfold jE;rw[List.set_append_right _ _ (by rw[ah5];omega),ah5,adi oz,Nat.sub_self];have e:l.length-i=(l.length-(i+1))+1:=by omega
 rw[e,List.replicate_succ];show l.take i++x::afq (l.length-(i+1)) 0=_;rw[gB hx];simp
theorem VN{l:List Rat}{i:Nat}(h:i<l.length):(jE l i)[i]?=some 0:=by
 unfold jE;rw[ahz (by rw[ah5];omega),ah5,adi oz,Nat.sub_self,aia,ait oz]
theorem Fc{x:Rat}:aa .eql (a7 x) 0=decide (x=0):=by
 have h:aa .eql (a7 x) 0=decide (a7 x=0):=rfl;rw[h];rcases mj x with h |h |h
 ·rw[aiy oz,aiy (by grind)]
 ·rw[aix h.1,aix h.2]
 ·rw[aiy oz,aiy (by grind)]
theorem DC{n:Nat}{x:Rat}(h:cond (aa .gtr (n:Int) 0) (aa .eql (a7 x) 0) false=true):0<n/\x=0:=by
 rw[Fc]at h;cases h1:aa .gtr (n:Int) 0
 ·rw[h1]at h;cases h
 ·rw[h1]at h;exact⟨dN (b:=0) h1,aiv h⟩
theorem Nw{n:Nat}{x:Rat}(h:cond (aa .gtr (n:Int) 0) (aa .eql (a7 x) 0) false=false)(h0:0<n):x≠0:=by
 intro hx;rw[Fc,hx,show aa .gtr (n:Int) 0=true from aix oz]at h;cases h
theorem NY{n:Nat}{x:Rat}(h0:0<n->x≠0)(h:cond (aa .gtr (n:Int) 0) (aa .eql (a7 x) 0) false=true):False:=by
 obtain⟨h1,h2⟩:=DC h;exact h0 h1 h2
theorem nF{e:Nat}{p:List Rat}(hp:Po e p)(he:e<=1000000000000):FP 70 [nA p] (dh 0):=by
 have iT:=hp.len;have AT:=El hp.td;refine ak func70 ?_;refine gl ?_;refine gC (fun y=>?_) (fun y=>?_) (st1:=(2,0));exact aiz (dN (b:=65) y) oz;refine gl ?_;refine aL [0,9,10] [] (fun(i:Nat)=>[pP 11 (i64 i)]) (fun _=>[]) (fun i=>i<=p.length) (fun i=>p.length-i) 0 (ahv _) ?_;rintro i hi K1 J1;refine gC (fun y=>?_) (fun y=>?_)
 ·have af:=aK y;obtain⟨q,hq⟩:=aB af;have hv:=u9 (rt q) (hp.qs he (ahg hq)).ok;rw[An]at hv;refine gi (ay hq) ?_;refine gc hv ?_;refine gf ?_;refine ga aF ?_;exact aE J1 (i+1) af
 obtain⟨z,hz⟩:∃z,0<p.length->p[p.length-1]?=some z/\z≠0:=by
  by_cases h:0<p.length
  ·obtain⟨z,h1⟩:=AT h;exact⟨z,fun _=>h1⟩
  ·exact⟨0,fun h1=>aiz h1 h⟩
 refine gl ?_;refine cm ?_;refine kD (fun h=>(gM (by have:=dN (b:=0) h;omega) (by unfold az;omega))) ?_;refine mh (fun h=>(ay (hz (dN (b:=0) h)).1)) ?_;refine bJ (fun h=>(uR (hp.qs he (ahg (hz (dN (b:=0) h)).1)))) ?_;refine gC (fun y=>?_) (fun y=>?_) (st1:=(10,0));exact(NY (fun h=>(hz h).2) y).elim;refine ah ?_
 first |rfl |(simp;done)
theorem xX{ps:LL}(h:∀p∈ps,FP 70 [nA p] (dh 0))(hl:ps.length<=1000):FP 263 [.lst 1 (ps.map nA)] (dh 0):=by
 refine ak func263 ?_;refine gl ?_;refine aL [6,7] [] (fun(i:Nat)=>[pP 8 (i64 i)]) (fun _=>[]) (fun i=>i<=ps.length) (fun i=>ps.length-i) 0 (ahv _) ?_;rintro i hi K1 J1;refine gC (fun z=>?_) (fun z=>?_)
 ·have af:=aK z;obtain⟨p,hp⟩:=aB af;refine gi (ay hp) ?_;refine gc (h p (ahg hp)) ?_;refine gf ?_;refine ga aF ?_;exact aE J1 (i+1) af
 refine ah ?_
 first |rfl |(simp;done)
theorem Cm(d:Nat)(hd:aem d 1000=true)(p:List Rat)(hq:∀c∈p,Qs c)(hl:p.length<=1000) :
  Con prog 262 [nA p] [] (.ms d 3 0 (ptr p).length) [(d,some (.row 3 (p.map qA)))]:=by
 refine gF func262 (fun k z h=>by cases h) ?_;refine gl ?_;refine gW (Wk.virt 900 3 rfl) ?_;refine aL [6,7] [] (fun(j:Nat)=>[pP 3 (.ms 900 3 0 j),pP 8 (i64 j)]) (fun j=>[pP 900 (.row 3 ((p.take j).map qA))]) (fun j=>j<=p.length) (fun j=>p.length-j) 0 (ahv _) ?_ (h1:=(.cons rfl (Sub.nM _ _ _) (.k .nil)));rintro j hj K1 J1;refine gC (fun y=>?_) (fun y=>?_)
 ·have lc:=aK y;obtain⟨q,mX⟩:=aB lc;have od:=zI (rt q) (rt 0) (hq q (ahg mX)).ok Qs.zero.ok;rw[NX,bG]at od;refine gi (ay mX) ?_;refine gc (Con.sA (.cons (.refl _) (.cons qF .nil)) od) ?_;refine gs (eD (.tmp rfl) rfl (by rw[ahk,ah5];omega) (.tmp rfl) T41 rfl T44 rfl rfl (by simp only[ahx,ah9];omega) rfl rfl) ?_ (6,0);refine gW (Wk.of (sl:=[pP 6 (nA p),pP 7 (i64 p.length),pP 8 (i64 j),pP 3 (.ms 17 3 0 (j+1))]) (hp:=[pP 17 (.row 3 ((p.take (j+1)).map qA))]) aY (.cons rfl (.of (by rw[gB mX,aih];rfl)) .nil)) ?_ (6,0);refine gW (Wk.rk (k:=17) (d:=900) rfl rfl) ?_;refine ga aF ?_;exact aE J1 (j+1) lc
 have lc:=aW hj y;subst lc;refine gW (Wk.of (sl:=[pP 3 (.ms 900 3 0 p.length)]) (hp:=[pP 900 (.row 3 (p.map qA))]) aY (.cons rfl (.of (by rw[ahw])) .nil)) ?_;refine aL [] [900] (fun(n:Nat)=>[pP 3 (.ms 900 3 0 n)]) (fun _=>[]) (fun n=>n<=p.length/\ptr (p.take n)=ptr p) (fun n=>n) p.length ⟨ahr _,by rw[ahw]⟩ ?_;rintro n ⟨hn,hv⟩ K2 J2;refine kD (fun h=>(gM (dN (b:=0) h) (by unfold az;omega))) ?_;refine gs (fT rfl rfl rfl (fun h=>br (n:=n-1) (.opt rfl (o1 h)) (.opt rfl (o1 h)) T41 rfl T44 rfl oz (by have:=dN (b:=0) h;omega) rfl)) ?_;refine gs (fT rfl rfl rfl (fun h=>dx (.opt rfl (o1 h)) rfl (ay (gw (l:=p) (i:=n-1) (by have:=dN (b:=0) h;omega))) T44 rfl rfl rfl)) ?_;refine bJ (fun h=>(uR (hq _ (ahg (gw (l:=p) (i:=n-1) (by have:=dN (b:=0) h;omega)))))) ?_;refine gC (fun t31=>?_) (fun t31=>?_)
 ·obtain ⟨h1, h2⟩:=DC t31;have h3:p[n - 1]? = some 0:=by rw [gw (l:=p) (i:=n - 1) oz,h2]
  refine ga (gM oz (by unfold az;omega)) ?_;refine gs (qN (.tmp rfl) (.none _) (.some _ (.tmp rfl) oz) T41 rfl T44 rfl oz oz rfl) ?_;exact aE J2 (n-1) ⟨by omega,E5 (by rw[show n-1+1=n by omega];exact hv) h3⟩ (hw:=Wk.of (.cons rfl (.of (by congr 1)) .nil) (.k .nil))
 have iR:n=(ptr p).length:=by
  rcases adm n with h |h
  ·subst h;rw[List.take_zero]at hv;rw[<- hv];rfl
  ·exact IF hv ⟨_,gw (l:=p) (i:=n-1) oz,Nw t31 h⟩ hn h
 subst iR;refine gR ?_;exact aI.own1 rfl hd rfl
theorem yS(p:List Rat)(hq:∀c∈p,Qs c)(hl:p.length<=1000):FP 262 [nA p] (nA (ptr p)):=by
 have h:=Con.freeze (by rw[ahk,aeg];exact jf p) (Cm 0 rfl p hq hl)
 rwa [aim,<- map_take,<- rr]at h
theorem Kf(p:List Rat)(i:Nat):FP 402 [nA p,i64 i] (qA (p.getD i 0)):=by
 refine ak func402 ?_;refine gl ?_;refine gC (fun z=>?_) (fun z=>?_)
 ·have h1:i<p.length:=aK z;refine gi (ay (gw (l:=p) h1)) ?_;refine ah ?_
  first |rfl |(simp;done)
 have h1:p.length<=i:=uZ z;refine gR ?_;exact mb (by rw[ahh,aht h1];exact qF)
theorem Cj{e f k:Nat}{p q:List Rat}{c:Rat}(hp:Pb e p)(hq:Pb f q)(hc:Qb k c)(h:e+(k+f)+1<=1000000000000)(lp:p.length<=60)(lq:q.length<=60):FP 367 [nA p,nA q,qA c] (nA (padd p q c)):=by
 have iT:=m8 c p q;have hb:=hp.lin hc hq;obtain⟨L,hL⟩:∃L,L=g9 p q c:=⟨_,rfl⟩
 rw[<- hL]at iT hb;have nV:∀i,Qs (p.getD i 0):=fun i=>DQ hp oz i
 have uv:∀i,Qs (q.getD i 0):=fun i=>DQ hq oz i
 have ou:Qs c:=hc.qs oz;have bp:∀i,Qs (c*q.getD i 0):=fun i=>(hc.mul (u4 hq i)).qs oz
 refine ak func367 ?_;refine gl ?_;refine gl ?_;refine gs (ri (.tmp rfl) (.tmp rfl) rfl) ?_;refine gs (gh (.tmp rfl) T41 rfl T44 rfl rfl oz (by dsimp only;omega) rfl) ?_ (2,0);refine gW (Wk.of (sl:=[pP 0 (nA p),pP 1 (nA q),pP 5 (.ptr 5 0),pP 7 (.ms 14 3 0 L.length)]) (hp:=[pP 5 (.box (qA c).cells),pP 14 (.row 3 ((jE L 0).map qA))]) (.k (.k (.k (.cons rfl (.of (by rw[iT];show AV.ms 14 3 0 _=_;congr 1;omega)) .nil)))) (.k (.cons rfl (Ao (by rw[abd,iT];congr 1;omega)) .nil))) ?_ (2,0);refine gW (Wk.rk (k:=14) (d:=900) rfl rfl) ?_;refine aL [0,1,5,16] [5] (fun(i:Nat)=>[pP 7 (.ms 900 3 0 L.length),pP 15 (.ms 900 3 0 L.length),pP 17 (i64 i)]) (fun i=>[pP 900 (.row 3 ((jE L i).map qA))]) (fun i=>i<=L.length) (fun i=>L.length-i) 0 (ahv _) ?_;rintro i hi K1 J1;refine gC (fun z=>?_) (fun z=>?_) (st2:=(7,0))
 ·have af:=aK z
  have hx:L[i]?=some (p.getD i 0+c*q.getD i 0):=by
   have h1:=gw (l:=L) af;rw[hL,Dj,<- hL]at h1;exact h1
  refine gc (Kf p i) ?_;refine gc (Kf q i) ?_;refine gc (jP ou (uv i)) ?_;refine gc (zu (nV i) (bp i)) ?_;refine gs (br (n:=i) (.tmp rfl) (.tmp rfl) T41 rfl T44 rfl oz oz rfl) ?_;refine gs (dc (.tmp rfl) rfl (ay (VN af)) rfl (.tmp rfl) rfl rfl T44 rfl rfl) ?_;refine gD ?_ (6,0);refine gW (Wk.of (sl:=[pP 0 (nA p),pP 1 (nA q),pP 5 (.ptr 5 0),pP 7 (.ms 900 3 0 L.length),pP 15 (.ms 900 3 0 L.length),pP 16 (i64 L.length),pP 17 (i64 i)]) (hp:=[pP 5 (.box (qA c).cells),pP 900 (.row 3 ((jE L (i+1)).map qA))]) aY (.k (.cons rfl (.of (by rw[<- Ye hx,ain])) .nil))) ?_;refine ga aF ?_;exact aE J1 (i+1) af
 have af:=aW hi z;subst af;refine gW ((Wk.freeze (k:=900) rfl).trans<|Wk.of (sl:=[pP 7 (nA L)]) (hp:=[]) (.cons rfl (.of (by rw[cf (by rw[ahk,Qi (ahr _)]),UX];rfl)) .nil) .nil) ?_;refine gc (yS L (fun x hx=>(hb x hx).qs oz) oz) ?_;refine ah ?_;rw[hL];rfl
theorem R7{e f:Nat}{p q:List Rat}(hp:Pb e p)(hq:Pb f q)(lp:p.length<=30)(lq:q.length<=30)(h:31*(e+f+4)<=1000000000000):FP 264 [nA p,nA q] (nA (fq p q)):=by
 refine ak func264 ?_;refine gl ?_;refine cm ?_;refine gC (fun t17=>?_) (fun t17=>?_)
 ·have h1:fq p q=[]:=by
   by_cases h0:p=[]
   ·rw[h0];rfl
   ·have h2:q=[]:=by
     refine Decidable.byContradiction fun h2=>?_
     have h3:=aez.2 h0;have h4:=aez.2 h2;rw[show aa .eql (p.length:Int) 0=false from aiy oz,show aa .eql (q.length:Int) 0=false from aiy oz]at t17;cases t17
    rw[h2];exact Nd p
  refine gR ?_;exact mb (by rw[h1];exact Sub.nil _ _ _)
 have h0:p≠[]:=fun h0=>by rw[h0]at t17;cases t17
 have h1:q≠[]:=fun h1=>by
  rw[h1]at t17;cases h9:aa .eql (p.length:Int) 0 <;> rw[h9]at t17 <;> cases t17
 have h2:=aez.2 h0;have h3:=aez.2 h1;refine gl ?_;refine gl ?_;refine ga (fw (by unfold az;omega) (by unfold az;omega)) ?_;refine ga (gM oz (by unfold az;omega)) ?_;refine gs (gh (.tmp rfl) T41 rfl T44 rfl rfl oz (by dsimp only;omega) rfl) ?_ (4,0);refine gW (Wk.of (sl:=[pP 0 (nA p),pP 1 (nA q),pP 5 (.ms 24 3 0 (p.length+q.length-1))]) (hp:=[pP 24 (.row 3 ((afq (p.length+q.length-1) (0:Rat)).map qA))]) aY (.cons rfl (Ao (by congr 1)) .nil)) ?_ (4,0);refine gW (Wk.rk (k:=24) (d:=900) rfl rfl) ?_;refine gl ?_;refine fH [0,1,25,26] [] (fun(i:Nat)(L:List Rat)=>[pP 5 (.ms 900 3 0 (p.length+q.length-1)),pP 27 (i64 i)]) (fun _ L=>[pP 900 (.row 3 (L.map qA))]) (fun i L=>i<=p.length/\L.length=p.length+q.length-1/\(∀t,au L t=au (p.take i) t*au q t)/\∀j,Qb (i*(e+f+4)+1) (L.getD j 0)) (fun i _=>p.length-i) 0 (afq (p.length+q.length-1) 0) ⟨ahv _,ah7,fun t=>by rw[Ej];show(0:Rat)=0*au q t;grind,fun j=>by rw[ahh,aia];split <;> exact Qb.zero.mono oz⟩ ?_
 rintro i L ⟨hi,hL,cZ,hb⟩ K1 J1;refine gC (fun z=>?_) (fun z=>?_) (st2:=(13,0))
 ·have af:=aK z;obtain ⟨x,hx⟩:=aB af;have hxq:=(hp x (ahg hx)).qs (show e <= 4398046511104 by omega);have ac1:i * (e + f + 4) <= 30 * (e + f + 4):=ah0 _ oz;refine gi (ay hx) ?_;refine gl ?_;refine fH [0,1,25,26,27,6,7,32,33] [7] (fun (k:Nat) (M:List Rat)=>[pP 5 (.ms 900 3 0 (p.length + q.length - 1)),pP 34 (i64 k)]) (fun _ M=>[pP 900 (.row 3 (M.map qA))]) (fun k M=>k <= q.length /\ M.length = p.length + q.length - 1 /\ (∀ t,au M t = au L t + x * t ^ i * au (q.take k) t) /\ (∀ j,Qb ((i + 1) * (e + f + 4) + 1) (M.getD j 0)) /\ ∀ j,i + k <= j -> M.getD j 0 = L.getD j 0) (fun k _=>q.length - k) 0 L ⟨ahv _,hL,fun t=>by show au L t = au L t + x * t ^ i * 0; grind,fun j=>(hb j).mono (by rw [ad2]; omega),fun j _=>rfl⟩ ?_
  rintro k M ⟨hk,hM,Pp,Pr,heq⟩ K2 J2;refine gC (fun z=>?_) (fun z=>?_)
  ·have aT:=aK z;obtain ⟨y,hy⟩:=aB aT;have hyq:=(hq y (ahg hy)).qs (show f <= 4398046511104 by omega);have xx:=(hp x (ahg hx)).mul (hq y (ahg hy));have Ps:=hb (i + k);have xJ:=heq (i + k) (ahr _);have jL:i + k < M.length:=by omega
   have cD:=gw jL
   have bj:Qb ((i+1)*(e+f+4)+1) (M.getD (i+k) 0+x*y):=by
    rw[xJ];exact(Ps.add xx).mono (by rw[ad2];omega)
   refine gi (ay hy) ?_;refine ga (fw (by unfold az;omega) (by unfold az;omega)) ?_;refine ga (fw (by unfold az;omega) (by unfold az;omega)) ?_;refine gs (br (n:=i+k) (.tmp rfl) (.tmp rfl) T41 rfl T44 rfl oz oz rfl) ?_;refine gs (dx (.tmp rfl) rfl (ay cD) T44 rfl rfl rfl) ?_;refine gc (jP hxq hyq) ?_;refine gc (zu (by rw[xJ];exact Ps.qs oz) (xx.qs oz)) ?_;refine gs (br (n:=i+k) (.tmp rfl) (.tmp rfl) T41 rfl T44 rfl oz oz rfl) ?_;refine gs (dc (.tmp rfl) rfl (ay cD) rfl (.tmp rfl) rfl rfl T44 rfl rfl) ?_;refine gD ?_ (11,0);refine gW (Wk.of (sl:=[pP 0 (nA p),pP 1 (nA q),pP 5 (.ms 900 3 0 (p.length+q.length-1)),pP 25 (nA p),pP 26 (i64 p.length),pP 27 (i64 i),pP 6 (i64 i),pP 7 (.ptr 7 0),pP 32 (nA q),pP 33 (i64 q.length),pP 34 (i64 k)]) (hp:=[pP 7 (.box (qA x).cells),pP 900 (.row 3 ((M.set (i+k) (M.getD (i+k) 0+x*y)).map qA))]) aY (.k (.cons rfl (.of (by rw[ain])) .nil))) ?_
   refine ga aF ?_;exact fE J2 (k+1) (M.set (i+k) (M.getD (i+k) 0+x*y)) ⟨aT,by rw[air];exact hM,fun t=>by rw[uC _ _ _ _ jL,Pp,rV t hy,yk];grind,fun j=>by rw[nc _ _ _ _ jL];split;exact bj;exact Pr j,fun j hj=>by rw[nc _ _ _ _ jL,ais oz];exact heq j oz⟩
  have aT:=aW hk z;subst aT;refine ga aF ?_;exact fE J1 (i+1) M ⟨af,hM,fun t=>by rw[Pp,cZ,rV t hx,ahw];grind,Pr⟩
 have af:=aW hi z;subst af;have hr:ptr L=fq p q:=nD (dp _) (dp _) (fun t=>by rw[ib,cZ,ahw,rX]);refine gW ((Wk.freeze (k:=900) rfl).trans<|Wk.of (sl:=[pP 5 (nA L)]) (hp:=[]) (.cons rfl (.of (by rw[cf (by rw[ahk];exact hL.symm)];rfl)) .nil) .nil) ?_;refine gc (yS L (fun x hx=>((yJ hb) x hx).qs (by have h9:p.length*(e+f+4)<=30*(e+f+4):=ah0 _ lp;omega)) oz) ?_;refine ah ?_;rw[hr]
abbrev pW:List Rat:=[1,0,1]
theorem uL(t:Rat):au pW t=1+t*t:=by show(1:Rat)+t*(0+t*(1+t*0))=_;grind
theorem ZB{i:Nat}{x:Rat}(h:pW[i]?=some x):(x=0/\i=1)\/(x=1/\(i=0\/i=2)):=by
 match i,h with
 |0,h=>cases h;exact .inr ⟨rfl,.inl rfl⟩
 |1,h=>cases h;exact .inl ⟨rfl,rfl⟩
 |2,h=>cases h;exact .inr ⟨rfl,.inr rfl⟩
 |n+3,h=>simp at h
theorem Ty{a b:Nat}(h0:a+b<=60)(h:cond (cond (aa .gtr (a:Int) 0) (aa .gtr (b:Int) 0) false) (aa .gtr (((a+b:Nat):Int)-2) 64) false=true):False:=by
 rw[show aa .gtr (((a+b:Nat):Int)-2) 64=false from aiy oz]at h;cases h1:cond (aa .gtr (a:Int) 0) (aa .gtr (b:Int) 0) false <;> rw[h1]at h <;> cases h
theorem yU{e f:Nat}{p q:List Rat}(hp:Po e p)(hq:Po f q)(h:e+(1+f)+1<=1000000000000):FP 286 [nA p,nA q] (.tup [nA (padd p q 1),.v .nilIface]):=by
 have l1:=hp.len;have l2:=hq.len;have rO:FP 263 [.lst 1 [nA p,nA q]] (dh 0):=xX (ps:=[p,q]) (by intro x hx;simp only[ah3,ahy,or_false]at hx;rcases hx with rfl |rfl;exact nF hp oz;exact nF hq oz) (by simp);have h1:Qb 1 (((1:Int):Rat)):=Qb.one;refine ak func286 ?_;refine gc rO ?_;refine gf ?_;refine gc (oG 1 oz) ?_;refine gc (Cj (k:=1) hp.b hq.b h1 h oz oz) ?_;refine bZ ?_
 first |rfl |(simp;done)
theorem tV{e f:Nat}{p q:List Rat}(hp:Po e p)(hq:Po f q)(h:e+(1+f)+1<=1000000000000):FP 288 [nA p,nA q] (.tup [nA (padd p q (-1)),.v .nilIface]):=by
 have l1:=hp.len;have l2:=hq.len;have rO:FP 263 [.lst 1 [nA p,nA q]] (dh 0):=xX (ps:=[p,q]) (by intro x hx;simp only[ah3,ahy,or_false]at hx;rcases hx with rfl |rfl;exact nF hp oz;exact nF hq oz) (by simp);have h1:Qb 1 (((-1:Int):Rat)):=⟨by decide,by decide⟩
 refine ak func288 ?_;refine gc rO ?_;refine gf ?_;refine gc (oG (-1) oz) ?_;refine gc (Cj (k:=1) hp.b hq.b h1 h oz oz) ?_;refine bZ ?_
 first |rfl |(simp;done)
theorem oy{e f:Nat}{p q:List Rat}(hp:Po e p)(hq:Po f q)(h:31*(e+f+4)<=1000000000000):FP 166 [nA p,nA q] (.tup [nA (fq p q),.v .nilIface]):=by
 have l1:=hp.len;have l2:=hq.len;have rO:FP 263 [.lst 1 [nA p,nA q]] (dh 0):=xX (ps:=[p,q]) (by intro x hx;simp only[ah3,ahy,or_false]at hx;rcases hx with rfl |rfl;exact nF hp oz;exact nF hq oz) (by simp);refine ak func166 ?_;refine gc rO ?_;refine gf ?_;refine gl ?_;refine cm ?_;refine cm ?_;refine cm ?_;refine kD (fun _=>(fw (by unfold az;omega) (by unfold az;omega))) ?_;refine kD (fun _=>(el oz)) ?_;refine gC (fun z=>?_) (fun z=>?_) (st1:=(5,0));exact(Ty (a:=p.length) (b:=q.length) oz z).elim;refine gc (R7 hp.b hq.b l1 l2 h) ?_;refine bZ ?_
 first |rfl |(simp;done)
theorem rq{e k:Nat}{p:List Rat}{c:Rat}(hp:Po e p)(hc:Qb k c)(h:1+(k+e)+1<=1000000000000):FP 287 [nA p,qA c] (.tup [nA (padd [] p c),.v .nilIface]):=by
 have l1:=hp.len;have kj:FP 367 [nS,nA p,qA c] (nA (padd [] p c)):=Con.sA (.cons (Sub.nil 3 none 0) (.cons (.refl _) (.cons (.refl _) .nil))) (Cj (p:=[]) (e:=1) (fun x hx=>by cases hx) hp.b hc h (by simp) oz);refine ak func287 ?_;refine gc (nF hp oz) ?_;refine gf ?_;refine gc kj ?_;refine bZ ?_
 first |rfl |(simp;done)
theorem HJ{l:List Rat}{m:Nat}(hl:l.length=m)(h0:0<m)(hz:l.getD (m-1) 0=0):(ptr l).length<m:=by
 have h1:l[m-1]?=some 0:=by rw[gw (l:=l) (i:=m-1) oz,hz]
 have h2:ptr (l.take (m-1))=ptr l:=E5 (by rw[show m-1+1=m by omega,<- hl,ahw]) h1;have h3:=jf (l.take (m-1));rw[h2,ah5]at h3;omega
theorem DT{l:List Rat}{j m:Nat}(h:j<m):(l.take m).getD j 0=l.getD j 0:=by rw[kv,ait h]
theorem P6{Y:List Rat}{m j:Nat}{v:Rat}(hj:j<m)(hm:m<=Y.length)(t:Rat):au ((Y.set j v).take m) t=au (Y.take m) t+(v-Y.getD j 0)*t^j:=by
 rw[<- DT hj,<- uC v t (Y.take m) j (by rw[ah5];omega),List.take_set]
theorem yF(k:Nat)(e:Nat):e+4<=2^k*(e+4):=Nat.le_mul_of_pos_left _ (aej k)
theorem Ob{j k:Nat}(h:j<=k)(e:Nat):2^j*(e+4)<=2^k*(e+4):=ah0 _ (d7 h)
theorem UW{j k:Nat}(h:j<k)(e:Nat):2*(2^j*(e+4))<=2^k*(e+4):=by
 have h1:=Ob (show j+1<=k by omega) e;rw[ado,ad0,Nat.mul_left_comm]at h1;exact h1
theorem YI{e:Nat}{p:List Rat}(hp:Pb e p)(lp:p.length<=12)(h:4096*(e+4)<=1000000000000):FP 346 [nA p,nA pW] (.tup [nA (dvQ p),nA (fS p)]):=by
 have Gi:Qs (1:Rat):=Qb.one.qs oz;refine ak func346 ?_;refine gt (bq (Cm 905 rfl p (fun c hc=>(hp c hc).qs oz) oz) (iN rfl) bU rfl rfl) ?_;refine gl ?_;refine gl ?_;refine ga (el (by simp only[ahx,ah9];omega)) ?_;refine ga (cO (by simp only[ahx,ah9];omega)) ?_;refine gs (ri (.const _) (.tmp rfl) rfl) ?_;refine gs (gh (.tmp rfl) T41 rfl T44 rfl rfl oz (by dsimp only;omega) rfl) ?_;refine gl ?_;refine ga (show _=(2:Int)from rfl) ?_;refine gi (rfl) ?_;refine gW (Wk.of (sl:=[pP 1 (nA pW),pP 6 (.ms 905 3 0 (ptr p).length),pP 7 (.ms 23 3 0 (p.length-2)),pP 8 (.ptr 8 0)]) (hp:=[pP 8 (.box (qA 1).cells),pP 905 (.row 3 (p.map qA)),pP 23 (.row 3 ((afq (p.length-2) (0:Rat)).map qA))]) (.k (.k (.cons rfl (.of (by congr 1;simp only[ahx,ah9];omega)) (.k .nil)))) (.k (.k (.cons rfl (Ao (by congr 1;simp only[ahx,ah9];omega)) .nil)))) ?_ (99999,0)
 refine gW (Wk.rk (k:=905) (d:=902) rfl rfl) ?_ (99999,0);refine gW (Wk.rk (k:=23) (d:=901) rfl rfl) ?_;refine iW [1,8] [8] (fun(X Q:List Rat)(m:Nat)=>[pP 6 (.ms 902 3 0 m),pP 7 (.ms 901 3 0 (p.length-2))]) (fun X Q _=>[pP 901 (.row 3 (Q.map qA)),pP 902 (.row 3 (X.map qA))]) (fun X Q m=>m<=X.length/\X.length<=12/\m<=p.length/\cR (X.take m)/\Q.length=p.length-2/\(∀t,au p t=au Q t*(1+t*t)+au (X.take m) t)/\(∀j,Qb (2^(p.length-m)*(e+4)-3) (X.getD j 0))/\(∀j,j+3<=m->Q.getD j 0=0)/\∀j,Qb (4096*(e+4)) (Q.getD j 0)) (fun _ _ m=>m) p (afq (p.length-2) 0) ((ptr p).length) ⟨jf p,lp,jf p,by rw[<- rr];exact dp p,ah7,fun t=>by rw[Ej,<- rr,ib];grind,fun j=>(u4 hp j).mono (by have:=yF (p.length-(ptr p).length) e;omega),fun j _=>by rw[ahh,aia];split <;> rfl,fun j=>by rw[ahh,aia];split <;> exact Qb.zero.mono oz⟩ ?_
 rintro X Q m ⟨hmX,adc,hmp,ac2,Pt,cZ,Bi,Pu,uz⟩ K1 J1;refine gl ?_;refine gC (fun z=>?_) (fun z=>?_) (st2:=(14,0))
 ·have rH : 3 <= m := by have h9 := aiv (p := (m : Int) >= 3) z; omega
  obtain⟨c,hc⟩:∃c,c=X.getD (m-1) 0:=⟨_,rfl⟩
  have hcX:X[m-1]?=some c:=by rw[hc];exact gw oz
  have kQ:=Ob (show p.length-m<=12 by omega) e;have lT:Qb (2^(p.length-m)*(e+4)-3) c:=by rw[hc];exact Bi _
  have ou:Qs c:=lT.qs (by have h9:(2:Nat)^12=4096:=rfl;omega);have eL:c/1=c:=by grind
  have hgQ:=gw (l:=Q) (i:=m-3) oz;refine gl ?_;refine ga (show _=((m-3:Nat):Int)from KV (by show 3<=m;omega) (by unfold az;omega)) ?_;refine ga (gM oz (by unfold az;omega)) ?_;refine gs (br (n:=m-1) (.tmp rfl) (.tmp rfl) T41 rfl T44 rfl oz oz rfl) ?_;refine gs (dx (.tmp rfl) rfl (ay hcX) T44 rfl rfl rfl) ?_;refine gc (MM ou Gi) ?_;refine gD ?_;refine gs (br (n:=m-3) (.tmp rfl) (.tmp rfl) T41 rfl T44 rfl oz (by show m-3<_;omega) rfl) ?_;refine gs (dc (.tmp rfl) rfl (ay hgQ) rfl (.tmp rfl) rfl rfl T44 rfl rfl) ?_ (8,0);refine gW (Wk.of (sl:=[pP 1 (nA pW),pP 6 (.ms 902 3 0 m),pP 7 (.ms 901 3 0 (p.length-2)),pP 8 (.ptr 8 0),pP 9 (i64 ((m-3:Nat):Int)),pP 10 (.ptr 10 0)]) (hp:=[pP 8 (.box (qA 1).cells),pP 10 (.box (qA c).cells),pP 901 (.row 3 ((Q.set (m-3) c).map qA)),pP 902 (.row 3 (X.map qA))]) aY (.k (.cons rfl (.of (by rw[eL];rfl)) (.cons rfl (.of (by rw[ain,eL];rfl)) (.k .nil))))) ?_
  refine gl ?_;refine fH [1,8,9,10,55,56] [8,10,901] (fun(i:Nat)(Y:List Rat)=>[pP 6 (.ms 902 3 0 m),pP 7 (.ms 901 3 0 (p.length-2)),pP 57 (i64 i)]) (fun _ Y=>[pP 902 (.row 3 (Y.map qA))]) (fun i Y=>i<=3/\Y.length=X.length/\(∀t,au (Y.take m) t=au (X.take m) t-c*t^(m-3)*au (pW.take i) t)/\(∀j,Qb (2*(2^(p.length-m)*(e+4))-4) (Y.getD j 0))/\(∀j,m-3+i<=j->Y.getD j 0=X.getD j 0)/\(3<=i->Y.getD (m-1) 0=0)) (fun i _=>3-i) 0 X ⟨ahv _,rfl,fun t=>by show _=_-c*t^(m-3)*0;grind,fun j=>(Bi j).mono (by have:=yF (p.length-m) e;omega),fun j _=>rfl,fun h9=>aiz h9 oz⟩ ?_
  rintro i Y ⟨hi,hY,Pv,Gj,Pw,hYz⟩ K2 J2;refine gC (fun z=>?_) (fun z=>?_) (st2:=(13,0))
  ·have af:i < 3:=aK (b:=3) z;obtain ⟨x,hx⟩:∃ x,pW[i]? = some x:=aB af;have l6:Qb 1 x:=by rcases ZB hx with ⟨h9,_⟩ | ⟨h9,_⟩ <;> rw [h9]; exact Qb.zero; exact Qb.one
   have jL:m-3+i<Y.length:=by omega
   have cD:=gw jL;have Gk:=Pw (m-3+i) (ahr _);have bA:=yF (p.length-m) e;have hpw:(2:Nat)^12=4096:=by decide
   have xK:=lT.mul l6
   have bj:Qb (2*(2^(p.length-m)*(e+4))-4) (Y.getD (m-3+i) 0-c*x):=by
    rw[Gk];exact((Bi _).sub xK).mono oz
   refine gi (ay hx) ?_;refine ga (fw (by unfold az;omega) (by unfold az;omega)) ?_;refine ga (fw (by unfold az;omega) (by unfold az;omega)) ?_;refine gs (br (n:=m-3+i) (.tmp rfl) (.tmp rfl) T41 rfl T44 rfl oz oz rfl) ?_;refine gs (dx (.tmp rfl) rfl (ay cD) T44 rfl rfl rfl) ?_;refine gc (jP ou (l6.qs oz)) ?_;refine gc (tc (by rw[Gk];exact(Bi _).qs oz) (xK.qs oz)) ?_;refine gs (br (n:=m-3+i) (.tmp rfl) (.tmp rfl) T41 rfl T44 rfl oz oz rfl) ?_;refine gs (dc (.tmp rfl) rfl (ay cD) rfl (.tmp rfl) rfl rfl T44 rfl rfl) ?_;refine gD ?_ (12,0);refine gW (Wk.of (sl:=[pP 1 (nA pW),pP 6 (.ms 902 3 0 m),pP 7 (.ms 901 3 0 (p.length-2)),pP 8 (.ptr 8 0),pP 9 (i64 ((m-3:Nat):Int)),pP 10 (.ptr 10 0),pP 55 (nA pW),pP 56 (i64 3),pP 57 (i64 i)]) (hp:=[pP 8 (.box (qA 1).cells),pP 10 (.box (qA c).cells),pP 901 (.row 3 ((Q.set (m-3) c).map qA)),pP 902 (.row 3 ((Y.set (m-3+i) (Y.getD (m-3+i) 0-c*x)).map qA))]) aY (.k (.k (.k (.cons rfl (.of (by rw[ain])) .nil))))) ?_
   refine ga aF ?_;exact fE J2 (i+1) (Y.set (m-3+i) (Y.getD (m-3+i) 0-c*x)) ⟨af,by rw[air];exact hY,fun t=>by rw[P6 oz oz,Pv,rV t hx,yk];grind,fun j=>by rw[nc _ _ _ _ jL];split;exact bj;exact Gj j,fun j hj=>by rw[nc _ _ _ _ jL,ais oz];exact Pw j oz,fun h9=>by obtain rfl:i=2:=oz;cases hx;rw[nc _ _ _ _ jL,ait oz,Gk,show m-3+2=m-1 by omega,<- hc];grind⟩
  have Gf:i=3:=aW (b:=3) hi z;subst Gf;have hYm:(Y.take m).length=m:=by rw[ah5];omega
  have ade:(ptr (Y.take m)).length<m:=HJ hYm oz (by rw[DT oz];exact hYz (ahr _));have rK:=UW (show p.length-m<p.length-(ptr (Y.take m)).length by omega) e;have hpw:(2:Nat)^12=4096:=by decide
  have hTq:∀x∈Y.take m,Qs x:=fun x Gl=>((yJ Gj) x (aes Gl)).qs oz
  refine gW ((Wk.freeze (k:=902) rfl).trans<|Wk.of (sl:=[pP 1 (nA pW),pP 6 (nA (Y.take m)),pP 7 (.ms 901 3 0 (p.length-2)),pP 8 (.ptr 8 0)]) (hp:=[pP 8 (.box (qA 1).cells),pP 901 (.row 3 ((Q.set (m-3) c).map qA))]) (.k (.cons rfl (.of (by rw[qD (by rw[ahk];omega),aim,<- map_take];rfl)) (.k (.k .nil)))) (.k (.k .nil))) ?_;refine gt (bq (Cm 902 rfl (Y.take m) hTq oz) (iN rfl) bU rfl rfl) ?_;exact ia J1 (Y.take m) (Q.set (m-3) c) ((ptr (Y.take m)).length) ⟨jf _,by omega,by omega,by rw[<- rr];exact dp _,by rw[air];exact Pt,fun t=>by rw[<- rr,ib,Pv,uC _ _ _ _ oz,Pu _ oz,cZ t,show pW.take 3=pW from rfl,uL];grind,fun j=>by by_cases hj:j<m;(rw[DT hj];exact(Gj j).mono oz);(rw[Ak oz];exact Qb.zero.mono (by have:=yF (p.length-(ptr (Y.take m)).length) e;omega)),fun j hj=>by rw[nc _ _ _ _ oz,ais oz];exact Pu j oz,fun j=>by rw[nc _ _ _ _ oz];split;exact lT.mono oz;exact uz j⟩
 have rH:m<=2:=by have h9:=aiw (p:=(m:Int)>=3) z;omega
 obtain⟨r1,r2⟩:=DL (p:=p) (dp Q) ac2 (by rw[ah5];omega) (fun t=>by rw[ib];exact cZ t);refine gW ((Wk.freeze (k:=902) rfl).trans<|(Wk.freeze (k:=901) rfl).trans<|Wk.of (sl:=[pP 6 (nA (fS p)),pP 7 (nA Q)]) (hp:=[]) (.cons rfl (.of (by rw[qD (by rw[ahk];omega)];show AV.lst 3 (((X.map qA).drop 0).take m)=_;rw[aim,<- map_take,r2];rfl)) (.cons rfl (.of (by show AV.fz 901 3 (Q.map qA) (.ms 901 3 0 (p.length-2))=_;rw[qD (by rw[ahk];omega),aim,<- map_take,ah1 oz];rfl)) .nil)) .nil) ?_
 refine gc (yS Q (fun x Gl=>((yJ uz) x Gl).qs oz) oz) ?_;refine bZ ?_;rw[r1]
theorem Kt{e:Nat}{p:List Rat}(hp:Po e p)(lp:p.length<=12)(h:4096*(e+4)<=1000000000000):FP 366 [nA p,nA pW] (.tup [nA (dvQ p),nA (fS p),.v .nilIface]):=by
 have hW:Po 1 pW:=⟨rfl,by decide,fun c hc=>by simp only[pW,ah3,ahy,or_false]at hc;rcases hc with rfl |rfl |rfl;exact Qb.one;exact Qb.zero;exact Qb.one⟩
 have rO:FP 263 [.lst 1 [nA p,nA pW]] (dh 0):=xX (ps:=[p,pW]) (by intro x hx;simp only[ah3,ahy,or_false]at hx;rcases hx with rfl |rfl;exact nF hp oz;exact nF hW oz) (by simp);refine ak func366 ?_;refine gc rO ?_;refine gf ?_;refine gl ?_;refine gf ?_;refine gc (YI hp.b lp h) ?_;refine lM ?_
 first |rfl |(simp;done)
def Fp(g:Gr)(j:Jt)(q:Nat):Int:=if q=0 then -1 else if q=1 then(if g.bo.contains j.b=true then -1 else j.b)else eI g j
theorem H1{g:Gr}{j:Jt}{q:Nat}{b:Int}(hb:[j.b,j.a][q]?=some b):(if g.bo.contains b=true then Fp g j q else b)=Fp g j (q+1):=by
 match q,hb with
 |0,hb=>cases hb;rfl
 |1,hb =>
  cases hb;show(if g.bo.contains j.a=true then(if g.bo.contains j.b=true then -1 else j.b)else j.a)=eI g j;rfl
theorem XG{xs:List Int}{p:Nat}{x b:Int}(h:xs[p]?=some x):cond ((xs.take p).contains b) true (aa .eql x b)=(xs.take (p+1)).contains b:=by
 rw[gB h,DW,s9,afl,afl,List.any_append,List.any_cons,List.any_nil,Bool.or_false];congr 1
 by_cases h1:x=b
 ·subst h1;simp
 ·rw[aiy h1]
  symm
  exact beq_false_of_ne (fun e=>h1 e.symm)
theorem W3(l:Li)(hl:l.ok)(g:Gr)(hg:GrOk l g):FP 86 [l.av,g.av] (.tup [.lst 1 ((ci l g).map i64),i64 0]):=by
 have fK:=hg.lb;have oo:=hg.lj;have A4:=hl.lj;refine ak func86 ?_;refine gl ?_;refine aL [2,3,18,19] [2,3] (fun(i:Nat)=>[pP 20 (i64 i)]) (fun _=>[]) (fun i=>i<=g.jo.length) (fun i=>g.jo.length-i) 0 (ahv _) ?_;rintro i hi K1 J1;refine gC (fun y=>?_) (fun y=>?_)
 ·have af:=aK y;obtain⟨z,hz⟩:=aB af;obtain⟨z0,z1⟩:=hg.j z (ahg hz);refine gi (ay hz) ?_;refine cm ?_;refine gC (fun y=>?_) (fun y=>?_) (st1:=(5,0))
  ·(rw[NS z0 z1]at y;cases y)
  refine ga aF ?_;exact aE J1 (i+1) af
 have af:=aW hi y;refine gl ?_;refine gW ((Wk.virt 900 1 rfl).trans<|Wk.of (sl:=[pP 2 (.ptr 2 0),pP 3 (.ptr 3 0),pP 8 (.ms 900 1 0 0),pP 35 (.lst 1 (g.jo.map i64)),pP 36 (i64 g.jo.length),pP 37 (i64 0)]) (hp:=[pP 2 (.box l.av.cells),pP 3 (.box g.av.cells),pP 900 (.row 1 [])]) (.k (.k (.cons rfl (Sub.nM _ _ _) (.k (.k (.k .nil)))))) (.k (.k (.k .nil)))) ?_;refine aL [2,3,35,36] [2,3] (fun(k:Nat)=>[pP 8 (.ms 900 1 0 k),pP 37 (i64 k)]) (fun k=>[pP 900 (.row 1 (((ci l g).take k).map i64))]) (fun k=>k<=g.jo.length) (fun k=>g.jo.length-k) 0 (ahv _) ?_;rintro k hk K2 J2;refine gC (fun y=>?_) (fun y=>?_) (st2:=(26,0))
 ·have aT:=aK y;obtain ⟨z,hz⟩:=aB aT;obtain ⟨z0,z1⟩:=hg.j z (ahg hz);obtain ⟨j,hj⟩:∃ j,l.jo[z.toNat]? = some j:=aB oz;have hlt:(((ci l g).take k).map i64).length = k:=by rw [ahk,ah5,pv]; omega
  refine gi (ay hz) ?_;refine gi (fI (n:=z.toNat) oz hj) ?_;refine gi (fI (n:=z.toNat) oz hj) ?_;refine ge rfl ?_;refine gD ?_;refine aL [2,3,35,36,37,53,54] [2,3] (fun(q:Nat)=>[pP 8 (.ms 900 1 0 k),pP 11 (i64 (Fp g j q)),pP 55 (i64 q)]) (fun _=>[pP 900 (.row 1 (((ci l g).take k).map i64))]) (fun q=>q<=2) (fun q=>2-q) 0 (ahv _) ?_;rintro q hq K3 J3;refine gC (fun y=>?_) (fun y=>?_)
  ·have bC:q < 2:=aK (b:=2) y;obtain ⟨b,hb⟩:∃ b,[j.b,j.a][q]? = some b:=aB bC;refine gi (show [i64 j.b,i64 j.a][(q:Int).toNat]? = some (i64 b) by have:=ay (f:=i64) hb; exact this) ?_;refine gl ?_;refine aL [2,3,35,36,37,53,54,11,55,13,60,61] [2,3,900] (fun (p:Nat)=>[pP 8 (.ms 900 1 0 k),pP 14 (bl ((g.bo.take p).contains b)),pP 62 (i64 p)]) (fun _=>[]) (fun p=>p <= g.bo.length) (fun p=>g.bo.length - p) 0 (ahv _) ?_;rintro p hp K4 J4;refine gC (fun y=>?_) (fun y=>?_)
   ·have eC:=aK y;obtain⟨x,hx⟩:=aB eC;refine gi (ay hx) ?_;refine ga aF ?_;exact aE J4 (p+1) eC (hw:=Wk.of (.k (.cons rfl (.of (ai0 bl (XG hx))) (.k (.k (.k (.k (.k (.k (.k (.k (.k (.k (.k (.k (.k .nil))))))))))))))) (.k (.k (.k .nil))))
   have eC:=aW hp y;subst eC;have Bh:g.bo.take g.bo.length=g.bo:=ahw;refine gC (fun y=>?_) (fun y=>?_)
   ·have h2 : g.bo.contains b = false := by rw [Bh] at y; exact dS y
    have h3:=H1 (g:=g) hb;rw[ais (by rw[h2];simp)]at h3;refine ga aF ?_;exact aE J3 (q+1) bC (hw:=Wk.of (.k (.cons rfl (.of (ai0 i64 h3)) (.k (.k (.k (.k (.k (.k (.k (.k .nil)))))))))) (.k (.k (.k .nil))))
   have h2:g.bo.contains b=true:=by rw[Bh]at y;exact eJ y
   have h3:=H1 (g:=g) hb;rw[ait h2]at h3;refine ga aF ?_;exact aE J3 (q+1) bC (hw:=Wk.of (.k (.cons rfl (.of (ai0 i64 h3)) (.k (.k (.k (.k (.k (.k (.k (.k .nil)))))))))) (.k (.k (.k .nil))))
  have bC:q=2:=aW (b:=2) hq y;subst bC;refine gs (eD (.tmp rfl) rfl hlt.symm (.tmp rfl) T30 rfl T3 rfl rfl (by simp only[ahx,ah9];omega) rfl rfl) ?_ (25,0);refine gW (Wk.of (sl:=[pP 2 (.ptr 2 0),pP 3 (.ptr 3 0),pP 8 (.ms 80 1 0 (k+1)),pP 35 (.lst 1 (g.jo.map i64)),pP 36 (i64 g.jo.length),pP 37 (i64 k)]) (hp:=[pP 2 (.box l.av.cells),pP 3 (.box g.av.cells),pP 80 (.row 1 (((ci l g).take (k+1)).map i64))]) aY (.k (.k (.cons rfl (.of (ai0 (Blk.row 1) (xR hz hj rfl))) .nil)))) ?_ (25,0);refine gW (Wk.rk (k:=80) (d:=900) rfl rfl) ?_;refine ga aF ?_;exact aE J2 (k+1) aT
 have aT:=aW hk y;subst aT;refine gW (Wk.of (sl:=[pP 8 (.ms 900 1 0 g.jo.length)]) (hp:=[pP 900 (.row 1 ((ci l g).map i64))]) aY (.cons rfl (.of (by rw[ah1 (by rw[pv];exact ahr _)])) .nil)) ?_ (26,0);refine gW ((Wk.freeze (k:=900) rfl).trans (Wk.of (sl:=[pP 8 (.lst 1 ((ci l g).map i64))]) (hp:=[]) (.cons rfl (.of (cf (by rw[ahk,pv]))) .nil) .nil)) ?_;refine bZ ?_
 first |rfl |(simp;done)
theorem tx(i:Int)(n:Nat):FP 163 [i64 i,i64 n] (bl (aV i n)):=by
 refine ak func163 ?_;refine ah ?_;exact ai0 bl (H2 i n)
theorem W0(p q:Mk)(hp:p.ok)(hq:q.ok):FP 164 [p.av,q.av] (bl (decide (p.x.q=q.x.q/\p.y.q=q.y.q))):=by
 refine ak func164 ?_;refine gc (ML p.x q.x hp.x hq.x ((hp.qx.sub hq.qx).qs oz)) ?_;refine bJ (fun _=>(ML p.y q.y hp.y hq.y ((hp.qy.sub hq.qy).qs oz))) ?_;refine ah ?_;exact ai0 bl Sn
theorem UU(b:Bd)(lQ:b.ok):FP 162 [b.av] (i64 (if 8<b.pts.length then 4 else ew b.pts.length (dK b.pts):Nat)):=by
 have jh:=lQ.ll;refine ak func162 ?_;refine gl ?_;refine gC (fun z=>?_) (fun z=>?_)
 ·have h0:8<b.pts.length:=dN z;refine ah ?_;rw[ait h0];rfl
 have h0:b.pts.length<=8:=jU z;have e0:(if 8<b.pts.length then 4 else ew b.pts.length (dK b.pts):Nat)=ew b.pts.length (dK b.pts):=ais oz;refine aL [1] [1] (fun(p:Nat)=>[pP 3 (i64 p)]) (fun _=>[]) (fun p=>p<=b.pts.length/\∀j,j<p->dK b.pts j=0) (fun p=>b.pts.length-p) 0 ⟨ahv _,fun j h=>by omega⟩ ?_;rintro p ⟨hp,iU⟩ K1 J1;refine gl ?_;refine gC (fun z=>?_) (fun z=>?_)
 ·have eC:=aK z;obtain⟨m,hm⟩:=aB eC;have om:b.pts.getD p default=m:=aQ hm;have pL:=ahg hm;have xB:=pa Mk.name hm;have xC:=lQ.pts m pL;refine gi (ay hm) ?_;refine gc (wU m.name (lQ.names m pL)) ?_;refine gC (fun z=>?_) (fun z=>?_)
  ·have h4:=dS z;have e2:dK b.pts p = 5:=by unfold dK; rw [om,ait h4]
   refine ah ?_;rw[e0,d5 eC iU (by rw[e2];decide),e2];rfl
  have h4:=eJ z;refine aL [1,3,4] [1,4] (fun(q:Nat)=>[pP 5 (i64 q)]) (fun _=>[]) (fun q=>q<=p/\(b.pts.take q).any (fun y=>dw y.name m.name)=false) (fun q=>p-q) 0 ⟨ahv _,rfl⟩ ?_;rintro q ⟨hq,lZ⟩ K2 J2;refine gC (fun z=>?_) (fun z=>?_)
  ·have bC:=aK z;obtain⟨y,hy⟩:∃y,b.pts[q]?=some y:=aB oz;refine gi (ay hy) ?_;refine gD ?_;refine gC (fun z=>?_) (fun z=>?_)
   ·have h5:dw y.name m.name = true:=z;have e2:dK b.pts p = 6:=by unfold dK; rw [om,ais (by rw [h4]; decide),ait (by rw [xB]; exact mM hy bC h5)]
    refine ah ?_;rw[e0,d5 eC iU (by rw[e2];decide),e2];rfl
   have h5:dw y.name m.name=false:=z;refine ga aF ?_;exact aE J2 (q+1) ⟨bC,lE hy lZ h5⟩
  have bC:=aW hq z;subst bC;have xE:¬fQ (b.pts.map Mk.name) q=true:=by rw[xB,lZ];decide
  refine gc (zf m.x xC.x) ?_;refine bJ (fun _=>(zf m.y xC.y)) ?_;refine gC (fun z=>?_) (fun z=>?_)
  ·have h6:=qw z;have e2:dK b.pts q = 3:=by unfold dK; rw [om,ais (by rw [h4]; decide),ais xE,ais (by rintro ⟨g1,g2⟩; rcases h6 with g | g; (rw [g1] at g; cases g); (rw [g2] at g; cases g))]
   refine ah ?_;rw[e0,d5 eC iU (by rw[e2];decide),e2];rfl
  have h6:=p8 z;have e2:dK b.pts q=0:=by unfold dK;rw[om,ais (by rw[h4];decide),ais xE,ait h6]
  refine ga aF ?_;exact aE J1 (q+1) ⟨eC,fun j h9=>by rcases ahq j q with g |g;exact iU j g;(have:j=q:=by omega);subst this;exact e2⟩
 have eC:=aW hp z;subst eC;refine ah ?_;rw[e0,ph iU];rfl
theorem abl(l:Li)(hl:l.ok):FP 75 [l.av] (i64 (hO l)):=by
 have fK:=hl.lb;have e0:hO l=ew l.bo.length (dZ l.bo):=rfl;refine ak func75 ?_;refine aL [1] [1] (fun(i:Nat)=>[pP 3 (i64 i)]) (fun _=>[]) (fun i=>i<=l.bo.length/\∀j,j<i->dZ l.bo j=0) (fun i=>l.bo.length-i) 0 ⟨ahv _,fun j h=>by omega⟩ ?_;rintro i ⟨hi,hj⟩ K1 J1;refine gl ?_;refine gC (fun z=>?_) (fun z=>?_)
 ·have af:=aK z;obtain⟨b,hb⟩:=aB af;have cK:l.bo.getD i default=b:=aQ hb;have lQ:=hl.bo b (ahg hb);have iC:=pa Bd.name hb;refine gi (ay hb) ?_;refine gc (wU b.name lQ.name) ?_;refine gC (fun z=>?_) (fun z=>?_)
  ·have h1:=dS z;have e1:dZ l.bo i = 5:=by unfold dZ; rw [cK,ait h1]
   refine ah ?_;rw[e0,d5 af hj (by rw[e1];decide),e1];rfl
  have h1:=eJ z;refine aL [1,3] [1] (fun(k:Nat)=>[pP 4 (i64 k)]) (fun _=>[]) (fun k=>k<=i/\(l.bo.take k).any (fun y=>dw y.name b.name)=false) (fun k=>i-k) 0 ⟨ahv _,rfl⟩ ?_;rintro k ⟨hk,hd⟩ K2 J2;refine gC (fun z=>?_) (fun z=>?_)
  ·have aT:=aK z;obtain⟨y,hy⟩:∃y,l.bo[k]?=some y:=aB oz;refine gi (ay hy) ?_;refine gi (ay hb) ?_;refine gD ?_;refine gC (fun z=>?_) (fun z=>?_)
   ·have h2:dw y.name b.name = true:=z;have e1:dZ l.bo i = 6:=by unfold dZ; rw [cK,ais (by rw [h1]; decide),ait (by rw [iC]; exact mM hy aT h2)]
    refine ah ?_;rw[e0,d5 af hj (by rw[e1];decide),e1];rfl
   have h2:dw y.name b.name=false:=z;refine ga aF ?_;exact aE J2 (k+1) ⟨aT,lE hy hd h2⟩
  have aT:=aW hk z;subst aT;have b7:¬fQ (l.bo.map Bd.name) k=true:=by rw[iC,hd];decide
  have e1:dZ l.bo k=if 8<b.pts.length then 4 else ew b.pts.length (dK b.pts):=by unfold dZ;rw[cK,ais (by rw[h1];decide),ais b7]
  refine gi (ay hb) ?_;refine gc (UU b lQ) ?_;refine gC (fun z=>?_) (fun z=>?_)
  ·have h3:=wa z;refine ah ?_;rw[e0,d5 af hj (by rw[e1];exact h3),e1]
  have h3:=wh z;refine ga aF ?_;exact aE J1 (k+1) ⟨af,fun j h9=>by rcases ahq j k with g |g;exact hj j g;(have:j=k:=by omega);subst this;exact e1.trans h3⟩
 have af:=aW hi z;subst af;refine ah ?_;rw[e0,ph hj];rfl
theorem Vx(l:Li)(hl:l.ok)(i:Nat)(hi:i<l.jo.length)(h16:l.jo.length<=16):FP 76 [l.av,i64 i] (i64 (f6 l i)):=by
 obtain⟨j,oq⟩:=aB hi;have cK:l.jo.getD i default=j:=aQ oq;have iC:=pa Jt.name oq;refine ak func76 ?_;refine gi (ay oq) ?_;refine gc (wU j.name (hl.jnames j (ahg oq))) ?_;refine gC (fun z=>?_) (fun z=>?_)
 ·have h0:=dS z;refine ah ?_;unfold f6;rw[cK,ait h0];rfl
 have h0:=eJ z;refine aL [1,2,5] [2,5] (fun(k:Nat)=>[pP 6 (i64 k)]) (fun _=>[]) (fun k=>k<=i/\(l.jo.take k).any (fun y=>dw y.name j.name)=false) (fun k=>i-k) 0 ⟨ahv _,rfl⟩ ?_;rintro k ⟨hk,hd⟩ K1 J1;refine gC (fun z=>?_) (fun z=>?_)
 ·have aT:=aK z;obtain⟨y,hy⟩:∃y,l.jo[k]?=some y:=aB oz;refine gi (ay hy) ?_;refine gD ?_;refine gC (fun z=>?_) (fun z=>?_)
  ·have h2:dw y.name j.name=true:=z;refine ah ?_;unfold f6;rw[cK,ais (by rw[h0];decide),ait (by rw[iC];exact mM hy aT h2)];rfl
  have h2:dw y.name j.name=false:=z;refine ga aF ?_;exact aE J1 (k+1) ⟨aT,lE hy hd h2⟩
 have aT:=aW hk z;subst aT;have b7:¬fQ (l.jo.map Jt.name) k=true:=by rw[iC,hd];decide
 have e1:f6 l k=ek l j:=by unfold f6;rw[cK,ais (by rw[h0];decide),ais b7]
 refine gC (fun z=>?_) (fun z=>?_)
 ·have h1:=Gu z;refine ah ?_;rw[e1];unfold ek;rw[ait h1];rfl
 have h1:=GX z;refine gl ?_;refine gc (tx j.a l.bo.length) ?_;refine cm ?_;refine bJ (fun _=>(tx j.b l.bo.length)) ?_;refine gC (fun z=>?_) (fun z=>?_)
 ·have h2:=qw z;refine ah ?_;rw[e1];unfold ek;rw[ais h1,ait h2];rfl
 have h2:=p8 z;have jn:¬(aV j.a l.bo.length=false\/aV j.b l.bo.length=false):=by rw[h2.1,h2.2];simp
 obtain⟨A,hA,pA,mA,zA0⟩:=sH h2.1;obtain⟨B,hB,pB,mB,zB0⟩:=sH h2.2;refine gC (fun z=>?_) (fun z=>?_)
 ·have h3:=dV z;refine ah ?_;rw[e1];unfold ek;rw[ais h1,ais jn,ait h3];rfl
 have h3:=dC z;refine gi (ay hA) ?_;refine gi (ay hB) ?_;refine gD ?_;refine gl ?_;refine gc (tx j.point A.pts.length) ?_;refine cm ?_;refine bJ (fun _=>(tx j.on B.pts.length)) ?_;refine gC (fun z=>?_) (fun z=>?_)
 ·have h4:=qw z;refine ah ?_;rw[e1];unfold ek;rw[ais h1,ais jn,ais h3,pA,pB,ait h4];rfl
 have h4:=p8 z;have l0:¬(aV j.point A.pts.length=false\/aV j.on B.pts.length=false):=by rw[h4.1,h4.2];simp
 refine gC (fun z=>?_) (fun z=>?_)
 ·have h5:=dV z;refine gC (fun z=>?_) (fun z=>?_)
  ·have h6:=yM z;refine ah ?_;rw[e1];unfold ek;rw[ais h1,ais jn,ais h3,pA,pB,ais l0,ait h5,ait h6];rfl
  have h6:=On z;refine ah ?_;rw[e1];unfold ek;rw[ais h1,ais jn,ais h3,pA,pB,ais l0,ait h5,ais (by rw[h6];simp)];rfl
 have h5:=dC z;refine gl ?_;refine gc (tx j.to B.pts.length) ?_;refine gC (fun z=>?_) (fun z=>?_)
 ·have h6:=dS z;refine ah ?_;rw[e1];unfold ek;rw[ais h1,ais jn,ais h3,pA,pB,ais l0,ais h5,ait h6];rfl
 have h6:=eJ z;obtain⟨m1,g1,d1,mm1,z1⟩:=wA h4.2;obtain⟨m2,g2,d2,mm2,z2⟩:=wA h6;have mo1:=(hl.bo B mB).pts m1 mm1;have mo2:=(hl.bo B mB).pts m2 mm2;refine gi (ay g1) ?_;refine gi (ay g2) ?_;refine gc (W0 m1 m2 mo1 mo2) ?_;refine gD ?_;refine gC (fun z=>?_) (fun z=>?_)
 ·have h7:=aiv z;refine ah ?_;rw[e1];unfold ek;rw[ais h1,ais jn,ais h3,pA,pB,ais l0,ais h5,ais (by rw[h6];decide),d1,d2,ait h7];rfl
 have h7:=aiw z;refine ah ?_;rw[e1];unfold ek;rw[ais h1,ais jn,ais h3,pA,pB,ais l0,ais h5,ais (by rw[h6];decide),d1,d2,ais h7];rfl
theorem Qe(l:Li)(hl:l.ok)(i:Nat)(hi:i<l.drivers.length)(h2l:l.drivers.length<=2):FP 77 [l.av,i64 i] (i64 (dq l i)):=by
 obtain⟨b,hb⟩:=aB hi;have cK:l.drivers.getD i default=b:=aQ hb;have iC:=pa Dr.name hb;refine ak func77 ?_;refine gi (ay hb) ?_;refine gc (wU b.name (hl.dnames b (ahg hb))) ?_;refine gC (fun z=>?_) (fun z=>?_)
 ·have h1:=dS z;refine ah ?_;unfold dq;rw[cK,ait h1];rfl
 have h1:=eJ z;refine aL [1,2,5] [2,5] (fun(k:Nat)=>[pP 6 (i64 k)]) (fun _=>[]) (fun k=>k<=i/\(l.drivers.take k).any (fun y=>dw y.name b.name)=false) (fun k=>i-k) 0 ⟨ahv _,rfl⟩ ?_;rintro k ⟨hk,hd⟩ K1 J1;refine gC (fun z=>?_) (fun z=>?_)
 ·have aT:=aK z;obtain⟨y,hy⟩:∃y,l.drivers[k]?=some y:=aB oz;refine gi (ay hy) ?_;refine gD ?_;refine gC (fun z=>?_) (fun z=>?_)
  ·have h2:dw y.name b.name=true:=z;refine ah ?_;unfold dq;rw[cK,ais (by rw[h1];decide),ait (by rw[iC];exact mM hy aT h2)];rfl
  have h2:dw y.name b.name=false:=z;refine ga aF ?_;exact aE J1 (k+1) ⟨aT,lE hy hd h2⟩
 have aT:=aW hk z;subst aT;have b7:¬fQ (l.drivers.map Dr.name) k=true:=by rw[iC,hd];decide
 refine gl ?_;refine gc (tx b.body l.bo.length) ?_;refine gC (fun z=>?_) (fun z=>?_)
 ·have h3:=dS z;refine ah ?_;unfold dq;rw[cK,ais (by rw[h1];decide),ais b7,ait h3];rfl
 have h3:=eJ z;refine gC (fun z=>?_) (fun z=>?_)
 ·have h4:=dV z;refine ah ?_;unfold dq;rw[cK,ais (by rw[h1];decide),ais b7,ais (by rw[h3];decide),ait h4];rfl
 have h4:=dC z;have e1:dq l k=if(l.drivers.take k).any (fun d=>decide (d.body=b.body))=true then 6 else 0:=by unfold dq;rw[cK,ais (by rw[h1];decide),ais b7,ais (by rw[h3];decide),ais h4]
 refine aL [1,2,5] [2,5] (fun(q:Nat)=>[pP 7 (i64 q)]) (fun _=>[]) (fun q=>q<=k/\(l.drivers.take q).any (fun d=>decide (d.body=b.body))=false) (fun q=>k-q) 0 ⟨ahv _,rfl⟩ ?_;rintro q ⟨hq,lZ⟩ K2 J2;refine gC (fun z=>?_) (fun z=>?_)
 ·have bC:=aK z;obtain⟨y,hy⟩:∃y,l.drivers[q]?=some y:=aB oz;refine gi (ay hy) ?_;refine gD ?_;refine gC (fun z=>?_) (fun z=>?_)
  ·have h5:decide (y.body=b.body)=true:=aix (dV z);refine ah ?_;rw[e1,ait (mM hy bC h5)];rfl
  have h5:decide (y.body=b.body)=false:=aiy (dC z);refine ga aF ?_;exact aE J2 (q+1) ⟨bC,lE hy lZ h5⟩
 have bC:=aW hq z;subst bC;refine ah ?_;rw[e1,lZ];rfl
theorem M7(l:Li)(hl:l.ok):FP 26 [l.av] (i64 (ax l)):=by
 have fK:=hl.lb;refine ak func26 ?_;refine gc (wU l.name hl.name) ?_;refine gC (fun z=>?_) (fun z=>?_)
 ·have h1:=dS z;refine ah ?_;unfold ax;rw[ait h1];rfl
 have h1:=eJ z;refine gl ?_;refine gC (fun z=>?_) (fun z=>?_)
 ·have h2:=LT z;refine ah ?_;unfold ax;rw[ais (by rw[h1];decide),ait h2];rfl
 have h2:=Jr z;refine gl ?_;refine gC (fun z=>?_) (fun z=>?_)
 ·have h3:8<l.bo.length:=dN z;refine ah ?_;unfold ax;rw[ais (by rw[h1];decide),ais h2,ait h3];rfl
 have h3:l.bo.length<=8:=jU z;have e0:ax l=if hO l≠0 then hO l else if et l≠0 then et l else gG l:=by unfold ax;rw[ais (by rw[h1];decide),ais h2,ais oz]
 refine gc (abl l hl) ?_;refine gC (fun z=>?_) (fun z=>?_)
 ·have h4:hO l≠0:=wa z;refine ah ?_;rw[e0,ait h4]
 have h4:hO l=0:=wh z;refine gl ?_;refine gC (fun z=>?_) (fun z=>?_)
 ·have h5:16 < l.jo.length:=dN z;have ej:et l = 4:=by unfold et; rw [ait h5]
  refine ah ?_;rw[e0,ais (by rw[h4];simp),ait (by rw[ej];decide),ej];rfl
 have h5:l.jo.length<=16:=jU z;have ej:et l=ew l.jo.length (f6 l):=by unfold et;rw[ais oz]
 refine aL [1] [1] (fun(i:Nat)=>[pP 4 (i64 i)]) (fun _=>[]) (fun i=>i<=l.jo.length/\∀j,j<i->f6 l j=0) (fun i=>l.jo.length-i) 0 ⟨ahv _,fun j h=>by omega⟩ ?_;rintro i ⟨hi,hj⟩ K1 J1;refine gl ?_;refine gC (fun z=>?_) (fun z=>?_)
 ·have af:=aK z;refine gc (Vx l hl i af h5) ?_;refine gC (fun z=>?_) (fun z=>?_)
  ·have h6:=wa z;refine ah ?_;rw[e0,ais (by rw[h4];simp),ait (by rw[ej,d5 af hj h6];exact h6),ej,d5 af hj h6]
  have h6:=wh z;refine ga aF ?_;exact aE J1 (i+1) ⟨af,fun j h9=>by rcases ahq j i with g |g;exact hj j g;(have:j=i:=by omega);subst this;exact h6⟩
 have af:=aW hi z;subst af;have ejz:et l=0:=ej.trans (ph hj);have e0':ax l=gG l:=by rw[e0,ais (by rw[h4];simp),ais (by rw[ejz];simp)]
 refine gl ?_;refine gC (fun z=>?_) (fun z=>?_)
 ·have h6:2<l.drivers.length:=dN z;refine ah ?_;rw[e0'];unfold gG;rw[ait h6];rfl
 have h6:l.drivers.length<=2:=jU z;have ed:gG l=ew l.drivers.length (dq l):=by unfold gG;rw[ais oz]
 refine aL [1] [1] (fun(k:Nat)=>[pP 6 (i64 k)]) (fun _=>[]) (fun k=>k<=l.drivers.length/\∀j,j<k->dq l j=0) (fun k=>l.drivers.length-k) 0 ⟨ahv _,fun j h=>by omega⟩ ?_;rintro k ⟨hk,gU⟩ K2 J2;refine gl ?_;refine gC (fun z=>?_) (fun z=>?_)
 ·have aT:=aK z;refine gc (Qe l hl k aT h6) ?_;refine gC (fun z=>?_) (fun z=>?_)
  ·have h7:=wa z;refine ah ?_;rw[e0',ed,d5 aT gU h7]
  have h7:=wh z;refine ga aF ?_;exact aE J2 (k+1) ⟨aT,fun j h9=>by rcases ahq j k with g |g;exact gU j g;(have:j=k:=by omega);subst this;exact h7⟩
 have aT:=aW hk z;subst aT;refine ah ?_;rw[e0',ed,ph gU];rfl
theorem RQ:FP 10 [.v .nilIface] (i64 0):=by
 refine ak func10 ?_;refine gC (fun z=>?_) (fun z=>?_) (st2:=(77777,0))
 ·refine ah ?_
  first |rfl |(simp;done)
 cases z
theorem TM(n:Int):FP 10 [.v (.iface 107 (.int .i64 n))] (i64 n):=by
 refine ak func10 ?_;refine gf ?_;refine gs (UM (.tmp rfl) T107 rfl rfl) ?_;refine gf ?_;refine ah ?_;rfl
theorem WZ(e:Nat):FP 10 [dh e] (i64 e):=by
 cases e with
 |zero=>exact RQ
 |succ e=>exact TM _
theorem yE{l:Li}(hl:ax l=0):(aC l).length<=8:=by
 unfold aC;split
 ·exact(zB hl).2
 ·exact ahv _
abbrev eN{ts:LL}(p:Et ts×Et ts):AV:=My (sX p.1) (sX p.2)
abbrev nl:AV:=nS
section
variable{ts:LL}{a b a2 b2:List Rat}{x y x2 y2:Et ts}
end
open Lean.Grind (CommRing)
section
variable{r:(k:Nat)->T k}
end
section
variable{r:(k:Nat)->T k}{n:Nat}
def zS(h:fO r n):Setoid (E r n) where
  r x y:=sg r n (x-y)=0
  iseqv:=by
    have H:=ox r n h;refine⟨fun x=>?_,fun {x y} e=>?_,fun {x y z} e f=>?_⟩
    · rw[show x-x=0 by grind];exact H.zero
    · rw[show y-x=-(x-y) by grind,H.neg,e];rfl
    · rw[show x-z=(x-y)+(y-z) by grind,H.zadd e];exact f
def Zq(h:fO r n):Type:=Quotient (zS h)
def aU(h:fO r n)(x:E r n):Zq h:=Quotient.mk (zS h) x
theorem sG(h:fO r n){x y:E r n}:aU h x=aU h y↔sg r n (x-y)=0 :=
 ⟨fun e=>Quotient.exact (s:=zS h) e,fun e=>Quotient.sound (s:=zS h) e⟩
instance (h:fO r n):Add (Zq h):=⟨Quotient.lift₂ (fun x y=>aU h (x+y)) (by
  intro a b c d e f;have H:=ox r n h;refine(sG h).2 ?_;rw[show a+b-(c+d)=(a-c)+(b-d) by grind,H.zadd (show sg r n (a-c)=0 from e)];exact f)⟩
instance (h:fO r n):Mul (Zq h):=⟨Quotient.lift₂ (fun x y=>aU h (x*y)) (by
  intro a b c d e f;have H:=ox r n h;refine(sG h).2 ?_;have e':sg r n (a-c)=0:=e;have f':sg r n (b-d)=0:=f;rw[show a*b-c*d=(a-c)*b+c*(b-d) by grind,H.zadd (by rw[H.mul,e'];simp),H.mul,f'];simp)⟩
instance (h:fO r n):Neg (Zq h):=⟨Quotient.lift (fun x=>aU h (-x)) (by
  intro a c e;have H:=ox r n h;refine(sG h).2 ?_;have e':sg r n (a-c)=0:=e;rw[show -a - -c=-(a-c) by grind,H.neg,e'];rfl)⟩
instance (h:fO r n):_root_.Sub (Zq h):=⟨fun x y=>x+-y⟩
instance (h:fO r n)(c:Nat):OfNat (Zq h) c:=⟨aU h (OfNat.ofNat c)⟩
instance (h:fO r n):NatCast (Zq h):=⟨fun c=>aU h (c:E r n)⟩
instance (h:fO r n):IntCast (Zq h):=⟨fun c=>aU h (c:E r n)⟩
instance (h:fO r n):SMul Nat (Zq h):=⟨fun c x=>aU h (c:E r n)*x⟩
instance (h:fO r n):SMul Int (Zq h):=⟨fun c x=>aU h (c:E r n)*x⟩
def Zq.pow{h:fO r n}(x:Zq h):Nat->Zq h
  |0=>aU h 1
  |c+1=>Zq.pow x c*x
instance (h:fO r n):HPow (Zq h) Nat (Zq h):=⟨Zq.pow⟩
variable(h:fO r n)
theorem CS(x y:E r n):aU h (x+y)=aU h x+aU h y:=rfl
theorem Av(x y:E r n):aU h (x*y)=aU h x*aU h y:=rfl
theorem P4(x y:E r n):aU h (x-y)=aU h x-aU h y:=by
 rw[show x-y=x+-y by grind];rfl
theorem fa(a:Zq h):∃x,a=aU h x:=Quotient.ind (motive:=fun a=>∃x,a=aU h x) (fun x=>⟨x,rfl⟩) a
instance zRing:CommRing (Zq h) where
  add_zero a:=by
    obtain⟨x,rfl⟩:=fa h a;exact ai0 (aU h) (show x+0=x by grind)
  add_comm a b:=by
    obtain⟨x,rfl⟩:=fa h a;obtain⟨y,rfl⟩:=fa h b;exact ai0 (aU h) (show x+y=y+x by grind)
  add_assoc a b c:=by
    obtain⟨x,rfl⟩:=fa h a;obtain⟨y,rfl⟩:=fa h b;obtain⟨z,rfl⟩:=fa h c;exact ai0 (aU h) (show x+y+z=x+(y+z) by grind)
  mul_assoc a b c:=by
    obtain⟨x,rfl⟩:=fa h a;obtain⟨y,rfl⟩:=fa h b;obtain⟨z,rfl⟩:=fa h c;exact ai0 (aU h) (show x*y*z=x*(y*z) by grind)
  mul_one a:=by
    obtain⟨x,rfl⟩:=fa h a;exact ai0 (aU h) (show x*1=x by grind)
  one_mul a:=by
    obtain⟨x,rfl⟩:=fa h a;exact ai0 (aU h) (show 1*x=x by grind)
  left_distrib a b c:=by
    obtain⟨x,rfl⟩:=fa h a;obtain⟨y,rfl⟩:=fa h b;obtain⟨z,rfl⟩:=fa h c;exact ai0 (aU h) (show x*(y+z)=x*y+x*z by grind)
  right_distrib a b c:=by
    obtain⟨x,rfl⟩:=fa h a;obtain⟨y,rfl⟩:=fa h b;obtain⟨z,rfl⟩:=fa h c;exact ai0 (aU h) (show(x+y)*z=x*z+y*z by grind)
  zero_mul a:=by
    obtain⟨x,rfl⟩:=fa h a;exact ai0 (aU h) (show 0*x=0 by grind)
  mul_zero a:=by
    obtain⟨x,rfl⟩:=fa h a;exact ai0 (aU h) (show x*0=0 by grind)
  pow_zero a:=rfl
  pow_succ a c:=rfl
  ofNat_succ c:=ai0 (aU h) (Lean.Grind.Semiring.ofNat_succ (α:=E r n) c)
  ofNat_eq_natCast c:=ai0 (aU h) (Lean.Grind.Semiring.ofNat_eq_natCast (α:=E r n) c)
  nsmul_eq_natCast_mul c a:=rfl
  neg_add_cancel a:=by
    obtain⟨x,rfl⟩:=fa h a;exact ai0 (aU h) (show -x+x=0 by grind)
  sub_eq_add_neg a b:=rfl
  neg_zsmul i a:=by
    obtain⟨x,rfl⟩:=fa h a
    exact ai0 (aU h) (show((-i:Int):E r n)*x=-((i:E r n)*x) by
      rw[Lean.Grind.Ring.intCast_neg];grind)
  zsmul_natCast_eq_nsmul c a:=rfl
  intCast_ofNat c:=ai0 (aU h) (Lean.Grind.Ring.intCast_ofNat (α:=E r n) c)
  intCast_neg i:=ai0 (aU h) (Lean.Grind.Ring.intCast_neg (α:=E r n) i)
  mul_comm a b:=by
    obtain⟨x,rfl⟩:=fa h a;obtain⟨y,rfl⟩:=fa h b;exact ai0 (aU h) (show x*y=y*x by grind)
theorem QU{x:E r n}:aU h x=0↔sg r n x=0:=by
 have e:=sG h (x:=x) (y:=0);rw[show x-0=x by grind]at e;exact e
end
example {r:(k:Nat)->T k} {n:Nat} (h:fO r n) (a b c:Zq h) (e:a*b=1) (f:c*a=2):c=2*b:=by grind
end Go.Lw
namespace Go.Lw
open Lean.Grind (CommRing)
structure Hm{ts:LL}{R:Type}[CommRing R](f:Et ts->R):Prop where
  add:∀x y,f (x+y)=f x+f y
  mul:∀x y,f (x*y)=f x*f y
  neg:∀x,f (-x)=-f x
  one:f 1=1
  inv:∀x,aZ x≠0->f (iE x)*f x=1
  zero:∀x,f x=0↔aZ x=0
section
variable{ts:LL}{R:Type}[CommRing R]{f:Et ts->R}(h:Hm f)
include h
theorem Hm.sub(x y:Et ts):f (x-y)=f x-f y:=by
 rw[show x-y=x+-y by grind,h.add,h.neg];grind
theorem Hm.q1:f (qE ((1:Int):Rat))=1:=by rw[XU];exact h.one
theorem Hm.q4:f (qE 4)=4:=by
 have e:(qE 4:Et ts)=1+1+1+1:=by
  have e1:=Lk (r:=aD ts) (n:=ts.length) 1 1;have e2:=Lk (r:=aD ts) (n:=ts.length) 2 2;rw[show(1:Rat)+1=2 by decide +kernel]at e1;rw[show(2:Rat)+2=4 by decide +kernel,e1]at e2;rw[e2];have e3:(qE 1:Et ts)=1:=rfl;rw[e3];grind
 rw[e,h.add,h.add,h.add,h.one];grind
end
abbrev JN(ts:LL):Prop:=fO (aD ts) ts.length
section
variable{R:Type}[CommRing R]
end
end Go.Lw
namespace Go.Lw
open Lean.Grind (CommRing)
def dO{ts:LL}(T:LL)(y:Et ts):Et T:=dE T (sX y)
structure Lf(ts T:LL):Prop where
  pos:JN T
  hm:Hm (fun y:Et ts=>aU pos (dO T y))
  low:∀l:List Rat,l.length<=2^ts.length->dO T (dE ts l)=dE T l
  q:∀q:Rat,dO T (qE q:Et ts)=qE q
  len:ts.length<=T.length
  sg:∀y:Et ts,aZ (dO T y)=aZ y
  ad:∀x y:Et ts,dO T (x+y)=dO T x+dO T y
  mu:∀x y:Et ts,dO T (x*y)=dO T x*dO T y
section
variable{ts:LL}
end
end Go.Lw
namespace Go.Lw
open Lean.Grind (CommRing)
def re(T:LL)(p:Pq)(m:Rat×Rat):P2 T:=(dE T p.c*qE m.1-dE T p.s*qE m.2+dE T p.x,dE T p.s*qE m.1+dE T p.c*qE m.2+dE T p.y)
def eT(l:Li)(T:LL)(bs:List Pq)(b pt:Int):P2 T:=re T (bs.getD b.toNat rS) (aJ l b pt)
def JH(l:Li)(T:LL)(bs:List Pq)(j:Jt):Prop :=
  if j.kind=0 then aZ ((eT l T bs j.a j.point).1-(eT l T bs j.b j.on).1)=0/\aZ ((eT l T bs j.a j.point).2-(eT l T bs j.b j.on).2)=0
  else aZ (HA (iK (eT l T bs j.b j.to) (eT l T bs j.b j.on)) (iK (eT l T bs j.a j.point) (eT l T bs j.b j.on)))=0
section
variable{T:LL}{u p c:Rat×Rat}{w o:P2 T}
end
def qX(a:As):List Pq:=a.bs.map fun b=>⟨lq b.c,lq b.s,lq b.x,lq b.y⟩
theorem G9(l:Li)(a:As)(b pt:Int):jw l a b pt=eT l (llq a.rs) (qX a) b pt:=by
 have e:(qX a).getD b.toNat rS=⟨lq (a.bs.getD b.toNat default).c,lq (a.bs.getD b.toNat default).s,lq (a.bs.getD b.toNat default).x,lq (a.bs.getD b.toNat default).y⟩:=by
  unfold qX;rw[ahh,ahh,aho];cases a.bs[b.toNat]? <;> rfl
 unfold eT;rw[e];rfl
def Nq(n:Nat)(p:Pq):Prop:=p.c.length<=2^n/\p.s.length<=2^n/\p.x.length<=2^n/\p.y.length<=2^n
section
variable{ts T:LL}(L:Lf ts T)
include L
theorem Lf.add(x y:Et ts):aU L.pos (dO T (x+y))=aU L.pos (dO T x)+aU L.pos (dO T y):=L.hm.add x y
theorem Lf.mul(x y:Et ts):aU L.pos (dO T (x*y))=aU L.pos (dO T x)*aU L.pos (dO T y):=L.hm.mul x y
theorem Lf.sub(x y:Et ts):aU L.pos (dO T (x-y))=aU L.pos (dO T x)-aU L.pos (dO T y):=L.hm.sub x y
theorem Lf.one:aU L.pos (dO T (1:Et ts))=1:=L.hm.one
theorem Lf.at{p:Pq}(hp:Nq ts.length p)(m:Rat×Rat):aU L.pos (re T p m).1=aU L.pos (dO T (re ts p m).1)/\aU L.pos (re T p m).2=aU L.pos (dO T (re ts p m).2):=by
 obtain⟨h1,h2,h3,h4⟩:=hp;unfold re;dsimp only;constructor
 ·rw[L.add,L.sub,L.mul,L.mul,L.low _ h1,L.low _ h2,L.low _ h3,L.q,L.q,CS,P4,Av,Av]
 ·rw[L.add,L.add,L.mul,L.mul,L.low _ h1,L.low _ h2,L.low _ h4,L.q,L.q,CS,CS,Av,Av]
theorem Lf.zero(x:Et ts):aZ (dO T x)=0↔aZ x=0:=(QU L.pos).symm.trans (L.hm.zero x)
end
end Go.Lw
namespace Go.Lw
open Lean.Grind (CommRing)
def CH(bs bs':List Pq)(n:Nat)(b:Int):Prop:=bs'.getD b.toNat rS=bs.getD b.toNat rS/\Nq n (bs.getD b.toNat rS)
section
variable{ts T:LL}(L:Lf ts T)
include L
theorem Lf.pt(l:Li){bs bs':List Pq}{b:Int}(h:CH bs bs' ts.length b)(pt:Int) :
  aU L.pos (eT l T bs' b pt).1=aU L.pos (dO T (eT l ts bs b pt).1)/\aU L.pos (eT l T bs' b pt).2=aU L.pos (dO T (eT l ts bs b pt).2):=by
 unfold eT;rw[h.1];exact L.at h.2 _
end
section
variable{T:LL}(hp:JN T)
include hp
theorem JR{l:Li}{bs:List Pq}{j:Jt}(hk:j.kind=0)(h1:aU hp (eT l T bs j.a j.point).1=aU hp (eT l T bs j.b j.on).1)(h2:aU hp (eT l T bs j.a j.point).2=aU hp (eT l T bs j.b j.on).2):JH l T bs j:=by
 unfold JH;rw[ait hk];exact⟨(sG hp).1 h1,(sG hp).1 h2⟩
end
section
variable{ts T:LL}(L:Lf ts T)
include L
end
section
variable{l:Li}{a:As}{T:LL}(L:Lf (llq a.rs) T)
include L
theorem Lf.pin{bs':List Pq}{j:Jt}{i:Int}(hk:j.kind=0)(tie:(j.a=i/\CH (qX a) bs' (llq a.rs).length j.b)\/(j.a≠i/\j.b=i/\CH (qX a) bs' (llq a.rs).length j.a))
  (h:re T (bs'.getD i.toNat rS) (bh l j i)=(dO T (fo l a j i).1,dO T (fo l a j i).2)):JH l T bs' j:=by
 have h1:=ai0 Prod.fst h;have h2:=ai0 Prod.snd h;dsimp only at h1 h2;rcases tie with⟨e,hs⟩ |⟨e,e2,hs⟩
 ·have b:=L.pt l hs j.on;unfold bh fo at h1 h2;simp only[ait e]at h1 h2;rw[G9]at h1 h2;refine JR L.pos hk ?_ ?_
  ·rw[b.1];unfold eT;rw[e];exact ai0 (aU L.pos) h1
  ·rw[b.2];unfold eT;rw[e];exact ai0 (aU L.pos) h2
 ·have b:=L.pt l hs j.point;unfold bh fo at h1 h2;simp only[ais e]at h1 h2;rw[G9]at h1 h2;refine JR L.pos hk ?_ ?_
  ·rw[b.1]
   conv=>rhs;unfold eT
   rw[e2];exact(ai0 (aU L.pos) h1).symm
  ·rw[b.2]
   conv=>rhs;unfold eT
   rw[e2];exact(ai0 (aU L.pos) h2).symm
end
section
variable{l:Li}{a:As}{r:Nat}(tw:Tw (llq a.rs) r)(hN:∀p∈qX a,Nq (llq a.rs).length p)
include tw hN
end
end Go.Lw
namespace Go.Lw
open Lean.Grind (CommRing)
section
variable{l:Li}{a:As}{r:Nat}(tw:Tw (llq a.rs) r)(hN:∀p∈qX a,Nq (llq a.rs).length p)
include tw hN
end
end Go.Lw
namespace Go.Lw
open Lean.Grind (CommRing)
section
variable{R:Type}[CommRing R]
end
section
variable{ts:LL}
end
section
variable{ts T:LL}(L:Lf ts T)
include L
end
end Go.Lw
namespace Go.Lw
open Go.Proofs
abbrev RZ(p:Rat×Rat):List AV:=(qA p.1).cells++(qA p.2).cells
abbrev lB(p:Rat×Rat):AV:=.agg (RZ p)
abbrev ir(v:List Rat×List Rat):AV:=.agg [nA v.1,nA v.2]
abbrev tu(l:Li)(G:List Gr)(e:Nat):List AV:=[.v (.string l.name),.lst 2 (l.bo.map Bd.av),.lst 7 (l.jo.map Jt.av),.lst 2 (l.drivers.map Dr.av),.lst 4 (G.map Gr.av),dh e]
abbrev ck(l:Li)(G:List Gr)(e:Nat):Hp:=[pP 1000 (.box (tu l G e))]
theorem Nx{e:Nat}(h:eK (ip e)=true):e=0:=by
 cases e with
 |zero=>rfl
 |succ n=>cases h
theorem WB{e:Nat}(h:eK (ip e)=false):e≠0:=by
 intro h0;subst h0;cases h
theorem Yr(e:Nat):(dh e).ok=true:=by cases e <;> rfl
theorem Kr(q:Rat):i7 (qA q) (qA q):=⟨rfl,fun j x y hx hy=>by
 match j,hx,hy with
 |0,hx,hy=>cases hx;cases hy;exact⟨rfl,.refl _⟩
 |1,hx,hy=>cases hx;cases hy;exact⟨rfl,.refl _⟩
 |2,hx,hy=>cases hx;cases hy;exact⟨rfl,.refl _⟩⟩
theorem Ri:i7 (.agg [.v (.bool false),nS,nS]) (qA 0):=⟨rfl,fun j x y hx hy=>by
 match j,hx,hy with
 |0,hx,hy=>cases hx;cases hy;exact⟨rfl,.refl _⟩
 |1,hx,hy=>cases hx;cases hy;exact⟨rfl,.nil _ _ _⟩
 |2,hx,hy=>cases hx;cases hy;exact⟨rfl,.nil _ _ _⟩⟩
theorem abv{sz:Nat}{a b c a' b' c':AV}(h1:i7 a a')(h2:i7 b b')(h3:i7 c c'):Sub (.lst sz [a,b,c]) (.lst sz [a',b',c']) :=
 Sub.lst rfl (fun i x y hx hy=>by
  match i,hx,hy with
  |0,hx,hy=>cases hx;cases hy;exact h1
  |1,hx,hy=>cases hx;cases hy;exact h2
  |2,hx,hy=>cases hx;cases hy;exact h3)
def cP(e:Nat)(xs:List Rat):Nat:=if e≠0 then e else if xs.all (fun x=>decide (0<x))then 0 else 15
theorem XN(e:Nat):cP e []=e:=by unfold cP;split;rfl;(rename_i h;simp only[List.all_nil,if_true];omega)
theorem P7(e:Nat)(xs:List Rat)(x:Rat):cP e (xs++[x])=if cP e xs≠0 then cP e xs else if 0<x then 0 else 15:=by
 unfold cP
 by_cases h:e≠0
 ·rw[ait h,ait h,ait h]
 ·rw[ais h,ais h,all_append];cases h1:xs.all (fun x=>decide (0<x))
  ·simp
  ·simp
theorem GT{x:Rat}:aa .leq (a7 x) 0=!decide (0<x):=by
 have h:aa .leq (a7 x) 0=decide (a7 x<=0):=rfl;rw[h];rcases mj x with h |h |h
 ·rw[aix oz,aiy (by grind)];rfl
 ·rw[aix oz,aiy (by grind)];rfl
 ·rw[aiy oz,aix h.2];rfl
section
variable(l:Li)(G:List Gr)
theorem Qm(p:List Rat)(e2:Nat):Con prog 284 [.ptr 1000 0,nA p,dh e2] (ck l G 0) (nA p) (ck l G e2):=by
 refine gF func284 (fun k z h=>eQ h) ?_;refine gC (fun y=>?_) (fun y=>?_) (st1:=(2,5)) (st2:=(77777,0))
 ·refine gs ((Ir (.tmp rfl) rfl (.tmp rfl) (Yr e2) T32 rfl rfl)) ?_;refine gR ?_;exact aI.keep (d6 rfl)
 cases y
theorem QC{e:Nat}(he:e≠0)(p:List Rat)(e2:Nat):Con prog 284 [.ptr 1000 0,nA p,dh e2] (ck l G e) (nA p) (ck l G e):=by
 refine gF func284 (fun k z h=>eQ h) ?_;refine gC (fun y=>?_) (fun y=>?_) (st1:=(2,0));exact aiz (Nx y) he;refine gR ?_;exact aI.keep (d6 rfl)
theorem Ia(e:Nat)(p:List Rat)(e2:Nat):Con prog 284 [.ptr 1000 0,nA p,dh e2] (ck l G e) (nA p) (ck l G (if e=0 then e2 else e)):=by
 by_cases h:e=0
 ·subst h;rw[ait rfl];exact Qm l G p e2
 ·rw[ais h];exact QC l G h p e2
theorem u7(e:Nat)(p:List Rat):Con prog 284 [.ptr 1000 0,nA p,.v .nilIface] (ck l G e) (nA p) (ck l G e):=by
 have h:=Ia l G e p 0;have e1:(if e=0 then 0 else e)=e:=by split <;> omega
 rw[e1]at h;exact h
theorem Ac{p q r:List Rat}(e:Nat)(h:FP 286 [nA p,nA q] (.tup [nA r,.v .nilIface])):Con prog 185 [.ptr 1000 0,nA p,nA q] (ck l G e) (nA r) (ck l G e):=by
 refine gF func185 (fun k z h=>eQ h) ?_;refine gc h ?_;refine gt (bq (u7 l G e r) (a6 rfl rfl rfl) bU rfl rfl) ?_;refine gR ?_;exact aI.keep (d6 rfl)
theorem ta{p q r:List Rat}(e:Nat)(h:FP 288 [nA p,nA q] (.tup [nA r,.v .nilIface])):Con prog 188 [.ptr 1000 0,nA p,nA q] (ck l G e) (nA r) (ck l G e):=by
 refine gF func188 (fun k z h=>eQ h) ?_;refine gc h ?_;refine gt (bq (u7 l G e r) (a6 rfl rfl rfl) bU rfl rfl) ?_;refine gR ?_;exact aI.keep (d6 rfl)
theorem oK{p q r:List Rat}(e:Nat)(h:FP 166 [nA p,nA q] (.tup [nA r,.v .nilIface])):Con prog 187 [.ptr 1000 0,nA p,nA q] (ck l G e) (nA r) (ck l G e):=by
 refine gF func187 (fun k z h=>eQ h) ?_;refine gc h ?_;refine gt (bq (u7 l G e r) (a6 rfl rfl rfl) bU rfl rfl) ?_;refine gR ?_;exact aI.keep (d6 rfl)
theorem qK{p r:List Rat}{c:Rat}(e:Nat)(h:FP 287 [nA p,qA c] (.tup [nA r,.v .nilIface])):Con prog 186 [.ptr 1000 0,qA c,nA p] (ck l G e) (nA r) (ck l G e):=by
 refine gF func186 (fun k z h=>eQ h) ?_;refine gc h ?_;refine gt (bq (u7 l G e r) (a6 rfl rfl rfl) bU rfl rfl) ?_;refine gR ?_;exact aI.keep (d6 rfl)
theorem Fv(p:List Rat)(hq:∀c∈p,Qs c)(hl:p.length<=1000):FP 165 [nA p] (nA (ptr p)):=by
 refine ak func165 ?_;refine gc (yS p hq hl) ?_;refine ah ?_;rfl
theorem yi:FP 179 [] (nA pW):=by
 have hl:=Fv pW (fun c hc=>by simp only[pW,ah3,ahy,or_false]at hc;rcases hc with rfl |rfl |rfl;exact Qb.one.qs oz;exact Qs.zero;exact Qb.one.qs oz) (by decide);have pX:FP 165 [.lst 3 [qA ((1:Int):Rat),.agg [.v (.bool false),nS,nS],qA ((1:Int):Rat)]] (nA pW):=Con.sA (.cons (abv (Kr _) Ri (Kr _)) .nil) hl;refine ak func179 ?_;refine gc (oG 1 oz) ?_;refine gc (oG 1 oz) ?_;refine gc pX ?_;refine ah ?_;rfl
theorem Me{p:List Rat}(e:Nat)(h:FP 366 [nA p,nA pW] (.tup [nA (dvQ p),nA (fS p),.v .nilIface]))(h0:fS p=[]):Con prog 285 [.ptr 1000 0,nA p] (ck l G e) (nA (dvQ p)) (ck l G e):=by
 rw[h0]at h;refine gF func285 (fun k z h=>eQ h) ?_;refine gc yi ?_;refine gc h ?_;refine cm ?_;refine gf ?_;refine gt (bq (u7 l G e (dvQ p)) (a6 rfl rfl rfl) bU rfl rfl) ?_;refine gR ?_;exact aI.keep (d6 rfl)
theorem Iv{p q:Rat×Rat}(h1:Qs p.1)(h2:Qs p.2)(h3:Qs q.1)(h4:Qs q.2):FP 182 [lB p,lB q] (lB (b9 p q)):=by
 refine ak func182 ?_;refine gc (tc h1 h3) ?_;refine gc (tc h2 h4) ?_;refine gD ?_;refine ah ?_;rfl
theorem Rl{p:Rat×Rat}(h1:Qs p.1)(h2:Qs p.2)(h3:Qs (p.1*p.1))(h4:Qs (p.2*p.2)):FP 181 [lB p] (qA (p.1*p.1+p.2*p.2)):=by
 refine ak func181 ?_;refine gc (jP h1 h1) ?_;refine gc (jP h2 h2) ?_;refine gc (zu h3 h4) ?_;refine gD ?_;refine ah ?_;rfl
theorem zM(j:Jt)(b:Int):FP 176 [j.av,i64 b] (.tup [i64 (de j b),i64 (fD j b),i64 (cc j b)]):=by
 refine ak func176 ?_;refine gC (fun z=>?_) (fun z=>?_)
 ·have h1:j.a=b:=dV z;refine gD ?_;refine lM ?_;unfold de fD cc;rw[ait h1,ait h1,ait h1]
 have h1:j.a≠b:=dC z;refine gD ?_;refine lM ?_;unfold de fD cc;rw[ais h1,ais h1,ais h1]
theorem E8(e:Nat)(xs:List Rat)(hq:∀x∈xs,Qs x)(hl:xs.length<=100):Con prog 183 [.ptr 1000 0,nA xs] (ck l G e) (.tup []) (ck l G (cP e xs)):=by
 refine gF func183 (fun k z h=>eQ h) ?_;refine gl ?_;refine aL [0,6,7] [] (fun(i:Nat)=>[pP 8 (i64 i)]) (fun i=>[pP 1000 (.box (tu l G (cP e (xs.take i))))]) (fun i=>i<=xs.length) (fun i=>xs.length-i) 0 (ahv _) ?_ (h2:=(.cons rfl (.of (by rw[List.take_zero,XN])) .nil));rintro i hi K1 J1;refine gC (fun y=>?_) (fun y=>?_) (st1:=(2,0))
 ·have af:=aK y;obtain ⟨x,hx⟩:=aB af;have hs:cP e (xs.take (i + 1)) = if cP e (xs.take i) ≠ 0 then cP e (xs.take i) else if 0 < x then 0 else 15:=by rw [gB hx,P7]
  have hk:Con prog 284 [.ptr 1000 0,nS,dh 15] (ck l G (cP e (xs.take i))) (nA []) (ck l G (if cP e (xs.take i)=0 then 15 else cP e (xs.take i))):=Con.sA (.cons (.refl _) (.cons (Sub.nil 3 none 0) (.cons (.refl _) .nil))) (Ia l G (cP e (xs.take i)) [] 15);refine Fn [0,6,7,8] [] [] [pP 1000 (.box (tu l G (cP e (xs.take (i+1)))))] (True) ?_ ?_ 2
  ·intro K2 J2;refine gi (ay hx) ?_;refine gc (uR (hq x (ahg hx))) ?_;refine gC (fun y=>?_) (fun y=>?_)
   ·have h9 : ¬ 0 < x := by rw [GT] at y; simpa using y
    refine gt (bq hk (.cons (.tmp rfl) (.cons (.const _) (iN rfl))) bU rfl rfl) ?_;exact qo J2 trivial (hw:=Wk.of aY (.cons rfl (.of (by rw[hs];congr 2;by_cases h8:cP e (xs.take i)=0;(rw[ait h8,ais (fun h=>h h8),ais h9]);(rw[ais h8,ait h8]))) .nil))
   have h9:0<x:=by rw[GT]at y;simpa using y
   exact qo J2 trivial (hw:=Wk.of aY (.cons rfl (.of (by rw[hs];congr 2;by_cases h8:cP e (xs.take i)=0;(rw[ais (fun h=>h h8),ait h9,h8]);(rw[ait h8]))) .nil))
  rintro -;refine ga aF ?_;exact aE J1 (i+1) af
 have af:=aW hi y;subst af;rw[ahw];refine gR ?_;exact aI.keep (d6 rfl)
end
def jW(p:Rat×Rat):List Rat×List Rat:=(padd [] pW p.1,padd [] pW p.2)
def oU(d:Rat×Rat):List Rat:=[d.1,-(((2:Int):Rat)*d.2),-d.1]
def pw(d:Rat×Rat):List Rat:=[d.2,((2:Int):Rat)*d.1,-d.2]
def eR(l:Li)(j:Jt)(b pt:Int):List Rat×List Rat :=
  if b=0 then jW (aJ l 0 pt)
  else(padd (jW (aJ l 0 (cc j b))).1 (ptr (oU (b9 (aJ l b pt) (aJ l b (de j b))))) 1,padd (jW (aJ l 0 (cc j b))).2 (ptr (pw (b9 (aJ l b pt) (aJ l b (de j b))))) 1)
def m6(a b:List Rat×List Rat):List Rat×List Rat:=(padd a.1 b.1 (-1),padd a.2 b.2 (-1))
def oM(a b:List Rat×List Rat):List Rat:=padd (fq a.1 b.1) (fq a.2 b.2) 1
def qk(a b:List Rat×List Rat):List Rat:=padd (fq a.1 b.2) (fq a.2 b.1) (-1)
structure Plm(n e:Nat)(p:List Rat):Prop where
  td:cR p
  len:p.length<=n
  b:Pb e p
theorem Plm.po{n e:Nat}{p:List Rat}(h:Plm n e p)(hn:n<=30):Po e p:=⟨h.td,by have:=h.len;omega,h.b⟩
theorem Plm.mono{n e m f:Nat}{p:List Rat}(h:Plm n e p)(hn:n<=m)(hf:e<=f):Plm m f p:=⟨h.td,by have:=h.len;omega,h.b.mono hf⟩
theorem Plm.add{n e m f k:Nat}{p q:List Rat}{c:Rat}(hp:Plm n e p)(hq:Plm m f q)(hc:Qb k c):Plm (max n m) (e+(k+f)+1) (padd p q c):=⟨dp _,by have:=EE p q c;have:=hp.len;have:=hq.len;omega,hp.b.add hc hq.b⟩
theorem Plm.mul{n e m f:Nat}{p q:List Rat}(hp:Plm n e p)(hq:Plm m f q):Plm (n+m-1) (n*(e+f+1)+1) (fq p q) :=
 ⟨dp _,by have:=Jo p q;have:=hp.len;have:=hq.len;omega,(hp.b.mul hq.b).mono (by have:=ah0 (e+f+1) hp.len;omega)⟩
theorem Plm.dvQ{n e:Nat}{p:List Rat}(hp:Plm n e p):Plm n (n*(e+1)+1) (Lw.dvQ p) :=
 ⟨dp _,ah8 (Xx p) hp.len,hp.b.dvQ.mono (by have:=ah0 (e+1) hp.len;omega)⟩
theorem oH:Plm 3 1 pW:=⟨rfl,by decide,fun c hc=>by simp only[pW,ah3,ahy,or_false]at hc;rcases hc with rfl |rfl |rfl;exact Qb.one;exact Qb.zero;exact Qb.one⟩
theorem fc(n:Nat):Plm n 1 []:=⟨rfl,ahv _,fun c hc=>by cases hc⟩
structure Vn(e:Nat)(v:List Rat×List Rat):Prop where
  x:Plm 3 e v.1
  y:Plm 3 e v.2
theorem Vn.mono{e f:Nat}{v:List Rat×List Rat}(h:Vn e v)(hf:e<=f):Vn f v:=⟨h.x.mono (ahr _) hf,h.y.mono (ahr _) hf⟩
theorem BJ{k:Nat}{p:Rat×Rat}(h:Sm k p):Vn (k+3) (jW p):=⟨((fc 3).add oH h.x).mono oz oz,((fc 3).add oH h.y).mono oz oz⟩
theorem JS{k:Nat}{d:Rat×Rat}(h:Sm k d):Plm 3 (k+3) (ptr (oU d))/\Plm 3 (k+3) (ptr (pw d)):=by
 have h2:Qb 2 (((2:Int):Rat)):=⟨by decide,by decide⟩
 refine⟨⟨dp _,jf _,Pb.tr fun c hc=>?_⟩,⟨dp _,jf _,Pb.tr fun c hc=>?_⟩⟩
 ·simp only[oU,ah3,ahy,or_false]at hc;rcases hc with rfl |rfl |rfl
  ·exact h.x.mono oz
  ·exact(h2.mul h.y).neg.mono oz
  ·exact h.x.neg.mono oz
 ·simp only[pw,ah3,ahy,or_false]at hc;rcases hc with rfl |rfl |rfl
  ·exact h.y.mono oz
  ·exact(h2.mul h.x).mono oz
  ·exact h.y.neg.mono oz
theorem kE{e f:Nat}{a b:List Rat×List Rat}(ha:Vn e a)(hb:Vn f b):Vn (e+f+2) (m6 a b):=by
 have h1:Qb 1 (((-1:Int):Rat)):=⟨by decide,by decide⟩
 exact⟨(ha.x.add hb.x h1).mono oz oz,(ha.y.add hb.y h1).mono oz oz⟩
theorem lh{e f:Nat}{a b:List Rat×List Rat}(ha:Vn e a)(hb:Vn f b):Plm 5 (6*(e+f+1)+4) (oM a b)/\Plm 5 (6*(e+f+1)+4) (qk a b):=by
 have h1:Qb 1 (((1:Int):Rat)):=Qb.one;have h2:Qb 1 (((-1:Int):Rat)):=⟨by decide,by decide⟩
 exact⟨((ha.x.mul hb.x).add (ha.y.mul hb.y) h1).mono oz oz,((ha.x.mul hb.y).add (ha.y.mul hb.x) h2).mono oz oz⟩
theorem Ze{l:Li}(hl:l.ok)(ae:ax l=0){j:Jt}{b pt:Int}(h1:aV b l.bo.length=true)(h2:aV pt (bV l b).length=true)(h3:b≠0->Sm 1000 (bh l j b)/\Sm 1000 (aJ l 0 (cc j b))):Vn 4100 (eR l j b pt):=by
 have h4:=cu hl ae h1 h2;unfold eR
 by_cases h0:b=0
 ·rw[ait h0];subst h0;exact(BJ h4).mono oz
 ·rw [ais h0];obtain ⟨h5,h6⟩:=h3 h0;have e:aJ l b (de j b) = bh l j b:=by unfold bh de; split <;> rfl
  rw[e];have h7:=BJ h6;have h8:=JS (h4.sub h5);have h9:Qb 1 (((1:Int):Rat)):=Qb.one;exact⟨(h7.x.add h8.1 h9).mono oz oz,(h7.y.add h8.2 h9).mono oz oz⟩
structure Pj(l:Li)(G:List Gr)(j:Jt)(dv:Int):Prop where
  ex:∃(g0:Gr)(z:Int),G[0]?=some g0/\g0.jo[0]?=some z/\0<=z/\z<l.jo.length/\l.jo[z.toNat]?=some j
  t:j.a=dv\/j.b=dv
  o:fD j dv=0
theorem Pj.in{l:Li}{G:List Gr}{j:Jt}{dv:Int}(h:Pj l G j dv)(ae:ax l=0):aV dv l.bo.length=true/\aV (de j dv) (bV l dv).length=true/\aV (0:Int) l.bo.length=true/\aV (cc j dv) (bV l 0).length=true:=by
 obtain⟨g0,z,_,_,_,_,hj⟩:=h.ex;obtain⟨i1,i2,i3,i4,_⟩:=d8 ae hj;have ho:=h.o;unfold fD at ho;unfold de cc
 by_cases e:j.a=dv
 ·rw[ait e]at ho ⊢;rw[ait e];rw[e]at i1 i3;rw[ho]at i2 i4;exact⟨i1,i3,i2,i4⟩
 ·rw [ais e] at ho ⊢;rw [ais e];have e2:j.b = dv:=by rcases h.t with h9 | h9; exact aiz h9 e; exact h9
  rw[e2]at i2 i4;rw[ho]at i1 i3;exact⟨i2,i4,i1,i3⟩
theorem Pj.sm{l:Li}{G:List Gr}{j:Jt}{dv:Int}(h:Pj l G j dv)(hl:l.ok)(ae:ax l=0):Sm 1000 (bh l j dv)/\Sm 1000 (aJ l 0 (cc j dv)):=by
 obtain⟨h1,h2,h3,h4⟩:=h.in ae;obtain⟨g0,z,_,_,_,_,hj⟩:=h.ex;exact⟨Tc hl ae hj h.t,cu hl ae h3 h4⟩
structure Fd(l:Li)(dv b pt:Int):Prop where
  hb:aV b l.bo.length=true
  hp:aV pt (bV l b).length=true
  hd:b=0\/b=dv
theorem Fd.n{l:Li}{G:List Gr}{j:Jt}{dv b pt:Int}(h:Fd l dv b pt)(hp:Pj l G j dv)(hl:l.ok)(ae:ax l=0):Vn 4100 (eR l j b pt) :=
 Ze hl ae h.hb h.hp (fun h0=>by rcases h.hd with h9 |h9;exact aiz h9 h0;rw[h9];exact hp.sm hl ae)
theorem we:Qb 2 (((2:Int):Rat)):=⟨by decide,by decide⟩
section
variable(l:Li)(G:List Gr)
theorem jS(e:Nat)(hl:l.ok)(ae:ax l=0){body pt:Int}(h1:aV body l.bo.length=true)(h2:aV pt (bV l body).length=true) :
  Con prog 178 [.ptr 1000 0,i64 body,i64 pt] (ck l G e) (lB (aJ l body pt)) (ck l G e):=by
 obtain⟨n,k,bd,m,mp⟩:=vN hl ae h1 h2;have hqe:lB (aJ l body pt)=.agg [bl m.x.neg,ws m.x.num,ws m.x.den,bl m.y.neg,ws m.y.num,ws m.y.den]:=by rw[mp.ex,mp.ey];rfl
 rw[hqe];have hn:=mp.hn;have hk:=mp.hk;have fK:=hl.lb;subst hn;subst hk;refine gF func178 (fun k z h=>eQ h) ?_;refine gi (ay mp.gbd) ?_;refine gi (ay mp.gm) ?_;refine gR ?_;exact aI.keep (d6 rfl)
theorem N0(e:Nat){k:Nat}{p:Rat×Rat}(hp:Sm k p)(hk:k<=1000000) :
  Con prog 283 [.ptr 1000 0,lB p] (ck l G e) (ir (jW p)) (ck l G e):=by
 have s1:=qK l G e (rq (oH.po oz) hp.x oz);have s2:=qK l G e (rq (oH.po oz) hp.y oz);refine gF func283 (fun k z h=>eQ h) ?_;refine gc yi ?_;refine gt (be s1 (a6 rfl rfl rfl) rfl rfl rfl) ?_;refine gc yi ?_;refine gt (be s2 (a6 rfl rfl rfl) rfl rfl rfl) ?_;refine gD ?_;refine gR ?_;exact aI.keep (d6 rfl)
theorem zk(e:Nat){f h:Nat}{a b:List Rat×List Rat}(ha:Vn f a)(hb:Vn h b)(hf:f<=10000000)(hh:h<=10000000) :
  Con prog 180 [.ptr 1000 0,ir a,ir b] (ck l G e) (ir (m6 a b)) (ck l G e):=by
 have s1:=ta l G e (tV (ha.x.po oz) (hb.x.po oz) oz);have s2:=ta l G e (tV (ha.y.po oz) (hb.y.po oz) oz);refine gF func180 (fun k z h=>eQ h) ?_;refine gt (be s1 (a6 rfl rfl rfl) rfl rfl rfl) ?_;refine gt (be s2 (a6 rfl rfl rfl) rfl rfl rfl) ?_;refine gD ?_;refine gR ?_;exact aI.keep (d6 rfl)
theorem GW(e:Nat){f h:Nat}{a b:List Rat×List Rat}(ha:Vn f a)(hb:Vn h b)(hf:f<=1000000)(hh:h<=1000000)(h0:fS (oM a b)=[]) :
  Con prog 184 [.ptr 1000 0,ir a,ir b] (ck l G e) (nA (dvQ (oM a b))) (ck l G e):=by
 have m1:=ha.x.mul hb.x;have m2:=ha.y.mul hb.y;have s1:=oK l G e (oy (ha.x.po oz) (hb.x.po oz) oz);have s2:=oK l G e (oy (ha.y.po oz) (hb.y.po oz) oz);have s3:=Ac l G e (yU (m1.po oz) (m2.po oz) oz);have hn:=(lh ha hb).1;have s4:=Me l G e (Kt (hn.po oz) (by have:=hn.len;omega) oz) h0;refine gF func184 (fun k z h=>eQ h) ?_;refine gt (be s1 (a6 rfl rfl rfl) rfl rfl rfl) ?_;refine gt (be s2 (a6 rfl rfl rfl) rfl rfl rfl) ?_;refine gt (be s3 (a6 rfl rfl rfl) rfl rfl rfl) ?_;refine gt (be s4 (cV rfl rfl) rfl rfl rfl) ?_;refine gD ?_;refine gR ?_;exact aI.keep (d6 rfl)
theorem aav(e:Nat){f h:Nat}{a b:List Rat×List Rat}(ha:Vn f a)(hb:Vn h b)(hf:f<=1000000)(hh:h<=1000000)(h0:fS (qk a b)=[]) :
  Con prog 189 [.ptr 1000 0,ir a,ir b] (ck l G e) (nA (dvQ (qk a b))) (ck l G e):=by
 have m1:=ha.x.mul hb.y;have m2:=ha.y.mul hb.x;have s1:=oK l G e (oy (ha.x.po oz) (hb.y.po oz) oz);have s2:=oK l G e (oy (ha.y.po oz) (hb.x.po oz) oz);have s3:=ta l G e (tV (m1.po oz) (m2.po oz) oz);have hn:=(lh ha hb).2;have s4:=Me l G e (Kt (hn.po oz) (by have:=hn.len;omega) oz) h0;refine gF func189 (fun k z h=>eQ h) ?_;refine gt (be s1 (a6 rfl rfl rfl) rfl rfl rfl) ?_;refine gt (be s2 (a6 rfl rfl rfl) rfl rfl rfl) ?_;refine gt (be s3 (a6 rfl rfl rfl) rfl rfl rfl) ?_;refine gt (be s4 (cV rfl rfl) rfl rfl rfl) ?_;refine gD ?_;refine gR ?_;exact aI.keep (d6 rfl)
theorem vS(e:Nat)(hl:l.ok)(ae:ax l=0){j:Jt}{dv b pt:Int}(hp:Pj l G j dv)(hF:Fd l dv b pt) :
  Con prog 177 [.ptr 1000 0,i64 b,i64 pt] (ck l G e) (ir (eR l j b pt)) (ck l G e):=by
 obtain⟨d1,d2,d3,d4⟩:=hp.in ae;have s5:=cu hl ae hF.hb hF.hp;refine gF func177 (fun k z h=>eQ h) ?_;refine gC (fun y=>?_) (fun y=>?_)
 ·have hb:b = 0:=dV y;have s6:=N0 l G e s5 oz;have e9:eR l j b pt = jW (aJ l b pt):=by unfold eR; rw [ait hb,hb]
  rw[e9];refine gt (be (jS l G e hl ae hF.hb hF.hp) (a6 rfl rfl rfl) rfl rfl rfl) ?_;refine gt (be s6 (cV rfl rfl) rfl rfl rfl) ?_;refine gR ?_;exact aI.keep (d6 rfl)
 have hb:b≠0:=dC y;obtain rfl:b=dv:=by rcases hF.hd with h9 |h9;exact aiz h9 hb;exact h9
 obtain⟨g0,z,n8,hz,aX,co,hj⟩:=hp.ex;have oo:=hl.lj;have e9:aJ l b (de j b)=bh l j b:=by unfold bh de;split <;> rfl
 obtain⟨s6,s7⟩:=hp.sm hl ae;have s8:=s5.sub s6;rw[<- e9]at s8;have r1:=JS s8;have f1:=BJ s7;obtain⟨d,hd⟩:∃d,d=b9 (aJ l b pt) (aJ l b (de j b)):=⟨_,rfl⟩
 have ev:eR l j b pt=(padd (jW (aJ l 0 (cc j b))).1 (ptr (oU d)) 1,padd (jW (aJ l 0 (cc j b))).2 (ptr (pw d)) 1):=by rw[hd];unfold eR;rw[ais hb]
 rw[ev];have F7:=Iv (p:=aJ l b pt) (q:=aJ l b (de j b)) (s5.x.qs oz) (s5.y.qs oz) (by rw[e9];exact s6.x.qs oz) (by rw[e9];exact s6.y.qs oz);rw[<- hd]at F7 s8 r1;have a1:=Ac l G e (yU (f1.x.po oz) (r1.1.po oz) oz);have a2:=Ac l G e (yU (f1.y.po oz) (r1.2.po oz) oz);have q1:=s8.x.qs oz;have q2:=s8.y.qs oz;have m1:=(we.mul s8.y).qs oz;have m2:=(we.mul s8.x).qs oz;have n1:=Fv (oU d) (fun c hc=>by simp only[oU,ah3,ahy,or_false]at hc;rcases hc with rfl |rfl |rfl;exact q1;exact(we.mul s8.y).neg.qs oz;exact s8.x.neg.qs oz) (by show 3<=1000;omega);have n2:=Fv (pw d) (fun c hc=>by simp only[pw,ah3,ahy,or_false]at hc;rcases hc with rfl |rfl |rfl;exact q2;exact m2;exact s8.y.neg.qs oz) (by show 3<=1000;omega);refine gi (ay n8) ?_;refine gi (ay hz) ?_;refine gi (fI (n:=z.toNat) oz hj) ?_;refine gc (zM j b) ?_;refine gD ?_;refine gt (be (jS l G e hl ae hF.hb hF.hp) (a6 rfl rfl rfl) rfl rfl rfl) ?_;refine gt (be (jS l G e hl ae d1 d2) (a6 rfl rfl rfl) rfl rfl rfl) ?_;refine gc F7 ?_;refine gt (be (jS l G e hl ae d3 d4) (.cons (.tmp rfl) (.cons (.const _) (iN rfl))) rfl rfl rfl) ?_;refine gt (be (N0 l G e s7 oz) (cV rfl rfl) rfl rfl rfl) ?_;refine gc (oG 2 oz) ?_;refine gc (jP (we.qs oz) q2) ?_;refine gc (wX m1) ?_;refine gc (wX q1) ?_;refine gc n1 ?_;refine gD ?_;refine gc (jP (we.qs oz) q1) ?_;refine gc (wX q2) ?_;refine gc n2 ?_;refine gD ?_;refine gt (be a1 (a6 rfl rfl rfl) rfl rfl rfl) ?_;refine gt (be a2 (a6 rfl rfl rfl) rfl rfl rfl) ?_;refine gD ?_;refine gR ?_;exact aI.keep (d6 rfl)
end
def Sh(v:List Rat×List Rat)(F R:Rat×Rat):Prop:=∀t,au v.1 t=F.1*(1+t*t)+(R.1*(1-t*t)-2*t*R.2)/\au v.2 t=F.2*(1+t*t)+(R.2*(1-t*t)+2*t*R.1)
theorem G2(p:Rat×Rat)(t:Rat):au (jW p).1 t=p.1*(1+t*t)/\au (jW p).2 t=p.2*(1+t*t):=by
 unfold jW;refine⟨?_,?_⟩ <;> (rw[kg,uL];show(0:Rat)+_=_;grind)
theorem PM(p:Rat×Rat):Sh (jW p) p (0,0):=fun t=>by
 obtain⟨h1,h2⟩:=G2 p t;rw[h1,h2];exact⟨by show _=_+((0:Rat)*_-_*0);grind,by show _=_+((0:Rat)*_+_*0);grind⟩
theorem Le(d:Rat×Rat)(t:Rat):au (ptr (oU d)) t=d.1*(1-t*t)-2*t*d.2:=by
 rw[ib];show d.1+t*(-(((2:Int):Rat)*d.2)+t*(-d.1+t*0))=_;have:((2:Int):Rat)=2:=rfl;rw[this];grind
theorem Hc(d:Rat×Rat)(t:Rat):au (ptr (pw d)) t=d.2*(1-t*t)+2*t*d.1:=by
 rw[ib];show d.2+t*((((2:Int):Rat)*d.1)+t*(-d.2+t*0))=_;have:((2:Int):Rat)=2:=rfl;rw[this];grind
theorem p6(l:Li)(j:Jt)(b pt:Int):∃F R,Sh (eR l j b pt) F R:=by
 unfold eR
 by_cases h:b=0
 ·rw[ait h];exact⟨_,_,PM _⟩
 ·rw[ais h];refine⟨aJ l 0 (cc j b),b9 (aJ l b pt) (aJ l b (de j b)),fun t=>?_⟩;obtain⟨h1,h2⟩:=G2 (aJ l 0 (cc j b)) t;dsimp only;rw[kg,kg,h1,h2,Le,Hc];exact⟨by grind,by grind⟩
theorem y7{a b:List Rat×List Rat}{F R F' R':Rat×Rat}(ha:Sh a F R)(hb:Sh b F' R'):Sh (m6 a b) (F.1-F'.1,F.2-F'.2) (R.1-R'.1,R.2-R'.2):=fun t=>by
 obtain⟨h1,h2⟩:=ha t;obtain⟨h3,h4⟩:=hb t;unfold m6;dsimp only;have h5:(((-1:Int)):Rat)=-1:=rfl;rw[kg,kg,h1,h2,h3,h4];exact⟨by grind,by grind⟩
theorem zq6(a b c t:Rat):au [a,b,c] t=a+b*t+c*t*t:=by
 show a+t*(b+t*(c+t*0))=_;grind
theorem G3{a b:List Rat×List Rat}{F R F' R':Rat×Rat}(ha:Sh a F R)(hb:Sh b F' R'):fS (oM a b)=[]:=by
 refine(GE (K:=[(F.1*F'.1+F.2*F'.2+R.1*R'.1+R.2*R'.2)+(F.1*R'.1+F.2*R'.2+F'.1*R.1+F'.2*R.2),2*(F.2*R'.1-F.1*R'.2+F'.2*R.1-F'.1*R.2),(F.1*F'.1+F.2*F'.2+R.1*R'.1+R.2*R'.2)-(F.1*R'.1+F.2*R'.2+F'.1*R.1+F'.2*R.2)]) (fun t=>?_)).2;obtain⟨h1,h2⟩:=ha t;obtain⟨h3,h4⟩:=hb t;unfold oM;rw[kg,rX,rX,h1,h2,h3,h4,zq6];grind
theorem Yu{a b:List Rat×List Rat}{F R F' R':Rat×Rat}(ha:Sh a F R)(hb:Sh b F' R'):fS (qk a b)=[]:=by
 refine(GE (K:=[(F.1*F'.2-F.2*F'.1+R.1*R'.2-R.2*R'.1)+(F.1*R'.2-F.2*R'.1+R.1*F'.2-R.2*F'.1),2*(F.1*R'.1+F.2*R'.2-R.1*F'.1-R.2*F'.2),(F.1*F'.2-F.2*F'.1+R.1*R'.2-R.2*R'.1)-(F.1*R'.2-F.2*R'.1+R.1*F'.2-R.2*F'.1)]) (fun t=>?_)).2;obtain⟨h1,h2⟩:=ha t;obtain⟨h3,h4⟩:=hb t;unfold qk;have h5:(((-1:Int)):Rat)=-1:=rfl;rw[kg,rX,rX,h1,h2,h3,h4,zq6];grind
def f7(p:Rat×Rat):Rat:=p.1*p.1+p.2*p.2
def LK(l:Li)(j:Jt)(i k:Int)(j0 j1:Jt):List Rat×List Rat:=m6 (eR l j (fD j1 k) (cc j1 k)) (eR l j (fD j0 i) (cc j0 i))
def tq(l:Li)(i:Int)(j0 j2:Jt):Rat:=f7 (b9 (aJ l i (de j2 i)) (aJ l i (de j0 i)))
def tP(l:Li)(i k:Int)(j1 j2:Jt):Rat:=f7 (b9 (aJ l k (cc j2 i)) (aJ l k (de j1 k)))
def SL(g:List Rat)(r s:Rat):List Rat:=padd (padd [] (fq g pW) (((4:Int):Rat)*r)) (fq (padd (padd [] pW (r-s)) g 1) (padd (padd [] pW (r-s)) g 1)) (-1)
def B9(l:Li)(j:Jt)(i k:Int)(j0 j1 j2:Jt):List Rat:=SL (dvQ (oM (LK l j i k j0 j1) (LK l j i k j0 j1))) (tq l i j0 j2) (tP l i k j1 j2)
def sK(l:Li)(i:Int)(j0 j1:Jt):Rat:=f7 (b9 (aJ l i j1.point) (aJ l i (de j0 i)))
def uf(l:Li)(j1:Jt):Rat:=f7 (b9 (aJ l j1.b j1.to) (aJ l j1.b j1.on))
def MW(l:Li)(j:Jt)(i:Int)(j0 j1:Jt):List Rat:=dvQ (qk (m6 (eR l j j1.b j1.to) (eR l j j1.b j1.on)) (m6 (eR l j (fD j0 i) (cc j0 i)) (eR l j j1.b j1.on)))
def DF(l:Li)(j:Jt)(i:Int)(j0 j1:Jt):List Rat:=padd (padd [] (fq pW pW) (uf l j1*sK l i j0 j1)) (fq (MW l j i j0 j1) (MW l j i j0 j1)) (-1)
def lK(l:Li)(i:Int)(j1:Jt):Rat×Rat:=b9 (aJ l i j1.to) (aJ l i j1.on)
def Ap(l:Li)(i:Int)(j0 j1:Jt):Rat×Rat:=b9 (aJ l i j1.on) (aJ l i (de j0 i))
def Nj(l:Li)(j:Jt)(i:Int)(j0 j1:Jt):List Rat×List Rat:=m6 (eR l j j1.a j1.point) (eR l j (fD j0 i) (cc j0 i))
def Nt(l:Li)(i:Int)(j0 j1:Jt):Rat:=Ce (lK l i j1) (Ap l i j0 j1)
def EY(l:Li)(j:Jt)(i:Int)(j0 j1:Jt):List Rat:=padd (padd [] (dvQ (oM (Nj l j i j0 j1) (Nj l j i j0 j1))) (f7 (lK l i j1))) (padd [] pW (Nt l i j0 j1*Nt l i j0 j1)) (-1)
def ml(x:Gr)(n:Nat):Int:=x.bo.getD n 0
def ik(l:Li)(x:Gr)(n:Nat):Jt:=l.jo.getD (x.jo.getD n 0).toNat default
def ep(l:Li)(j:Jt)(x:Gr):List Rat :=
  if x.kind=1 then B9 l j (ml x 0) (ml x 1) (ik l x 0) (ik l x 1) (ik l x 2)
  else if x.kind=2 then DF l j (ml x 0) (ik l x 0) (ik l x 1)else EY l j (ml x 0) (ik l x 0) (ik l x 1)
def gN(l:Li)(x:Gr):List Rat :=
  if x.kind=1 then[tq l (ml x 0) (ik l x 0) (ik l x 2),tP l (ml x 0) (ml x 1) (ik l x 1) (ik l x 2)]
  else if x.kind=2 then[sK l (ml x 0) (ik l x 0) (ik l x 1),uf l (ik l x 1)]else[f7 (lK l (ml x 0) (ik l x 1))]
def gj(x:Gr):Int:=if x.kind=1 then 4 else if x.kind=2 then 4 else 2
structure Lg(l:Li)(dv:Int)(x:Gr):Prop where
  dy:DyK l x
  ok:GrOk l x
  nd:x.kind≠0
  an:∀z∈x.jo,∀jt,l.jo[z.toNat]?=some jt->(jt.a∉x.bo->jt.a=0\/jt.a=dv)/\(jt.b∉x.bo->jt.b=0\/jt.b=dv)
theorem abm(l:Li)(j:Jt)(b:Int):aJ l b (de j b)=bh l j b:=by unfold bh de;split <;> rfl
theorem sQ{l:Li}{dv kd:Int}{x:Gr}(h:Lg l dv x)(ae:ax l=0){z b:Int}{bs:List Int}{j:Jt}(k8:x.bo=bs)(t:TieO l kd bs z b j)(hz:z∈x.jo):Fd l dv (fD j b) (cc j b):=by
 subst k8;obtain⟨i1,i2,i3,i4,_⟩:=d8 ae t.hj;obtain⟨a1,a2⟩:=h.an z hz j t.hj;unfold fD cc
 by_cases e:j.a=b
 ·rw[ait e,ait e];refine⟨i2,i4,?_⟩;rcases t.tie with⟨_,hn⟩ |⟨e2,hn⟩
  ·exact a2 hn
  ·exact a2 (by rw[e2,<- e];exact hn)
 ·rw[ais e,ais e];refine⟨i1,i3,?_⟩;rcases t.tie with⟨e2,hn⟩ |⟨_,hn⟩
  ·exact aiz e2 e
  ·exact a1 hn
theorem qP{l:Li}{kd z b:Int}{bs:List Int}{j:Jt}(t:TieO l kd bs z b j):j.a=b\/j.b=b:=by
 rcases t.tie with h |h
 ·exact .inl h.1
 ·exact .inr h.1
theorem nN{l:Li}(ae:ax l=0){i:Nat}{j:Jt}(hj:l.jo[i]?=some j){b:Int}(h:j.a=b\/j.b=b):aV b l.bo.length=true/\aV (de j b) (bV l b).length=true:=by
 obtain⟨i1,i2,i3,i4,_⟩:=d8 ae hj;unfold de
 by_cases e:j.a=b
 ·rw[ait e];subst e;exact⟨i1,i3⟩
 ·rw[ais e];rcases h with h |h
  ·exact aiz h e
  ·subst h;exact⟨i2,i4⟩
theorem qL:Qb 3 (((4:Int):Rat)):=⟨by decide,by decide⟩
theorem jg{e:Nat}{p:Rat×Rat}(h:Sm e p):Qb (4*e+1) (f7 p):=((h.x.mul h.x).add (h.y.mul h.y)).mono oz
theorem rP{p q:Rat×Rat}(hp:Sm 1000 p)(hq:Sm 1000 q):FP 182 [lB p,lB q] (lB (b9 p q)):=Iv (hp.x.qs oz) (hp.y.qs oz) (hq.x.qs oz) (hq.y.qs oz)
theorem tb{p:Rat×Rat}(hp:Sm 2001 p):FP 181 [lB p] (qA (f7 p)):=Rl (hp.x.qs oz) (hp.y.qs oz) ((hp.x.mul hp.x).qs oz) ((hp.y.mul hp.y).qs oz)
theorem EB{l:Li}{x:Gr}(h:DyK l x)(nd:x.kind≠0):∃i z0 j0,x.bo[0]?=some i/\x.jo[0]?=some z0/\TieO l 0 x.bo z0 i j0:=by
 cases h with
 |drv t d0 hd hb=>exact aiz rfl nd
 |rrr ne t0 t1 h0 h2 kd tie=>exact⟨_,_,_,rfl,rfl,t0⟩
 |pr t0 t1 ha=>exact⟨_,_,_,rfl,rfl,t0⟩
 |rp t0 t1 ha=>exact⟨_,_,_,rfl,rfl,t0⟩
theorem sr{x:Gr}{n:Nat}{i:Int}(h:x.bo[n]?=some i):ml x n=i:=aQ h
theorem ns{l:Li}{x:Gr}{n:Nat}{z:Int}{j:Jt}(h:x.jo[n]?=some z)(hj:l.jo[z.toNat]?=some j):ik l x n=j:=by
 unfold ik;rw[aQ h];exact aQ hj
theorem YF{l:Li}{x:Gr}{i k z0 z1 z2:Int}{j0 j1 j2:Jt}(hk:x.kind=1)(b0:x.bo[0]?=some i)(b1:x.bo[1]?=some k)(y0:x.jo[0]?=some z0)(h0:l.jo[z0.toNat]?=some j0)(y1:x.jo[1]?=some z1)(h1:l.jo[z1.toNat]?=some j1)(y2:x.jo[2]?=some z2)(h2:l.jo[z2.toNat]?=some j2) :
  (∀j,ep l j x=B9 l j i k j0 j1 j2)/\gN l x=[tq l i j0 j2,tP l i k j1 j2]/\gj x=4:=by
 refine⟨fun j=>?_,?_,ait hk⟩
 ·unfold ep;rw[ait hk,sr b0,sr b1,ns y0 h0,ns y1 h1,ns y2 h2]
 ·unfold gN;rw[ait hk,sr b0,sr b1,ns y0 h0,ns y1 h1,ns y2 h2]
theorem P1{l:Li}{x:Gr}{i z0 z1:Int}{j0 j1:Jt}(hn:¬x.kind=1)(kW:¬x.kind=2)(b0:x.bo[0]?=some i)(y0:x.jo[0]?=some z0)(h0:l.jo[z0.toNat]?=some j0)(y1:x.jo[1]?=some z1)(h1:l.jo[z1.toNat]?=some j1) :
  (∀j,ep l j x=EY l j i j0 j1)/\gN l x=[f7 (lK l i j1)]/\gj x=2:=by
 refine⟨fun j=>?_,?_,?_⟩
 ·unfold ep;rw[ais hn,ais kW,sr b0,ns y0 h0,ns y1 h1]
 ·unfold gN;rw[ais hn,ais kW,sr b0,ns y1 h1]
 ·unfold gj;rw[ais hn,ais kW]
structure LrP(l:Li)(x:Gr)(i k z1 z2:Int)(j0 j1 j2:Jt):Prop where
  b1:x.bo[1]?=some k
  y1:x.jo[1]?=some z1
  y2:x.jo[2]?=some z2
  t1:TieO l 0 x.bo z1 k j1
  h0:0<=z2
  h2:l.jo[z2.toNat]?=some j2
  ti:(j2.a=i/\j2.b=k)\/(j2.b=i/\j2.a=k)
  ne:i≠k
  eE:∀j,ep l j x=B9 l j i k j0 j1 j2
  eX:gN l x=[tq l i j0 j2,tP l i k j1 j2]
  eN:gj x=4
theorem DH{l:Li}{x:Gr}{i z0:Int}{j0:Jt}(h:DyK l x)(hk:x.kind=1)(hi:x.bo[0]?=some i)(hz:x.jo[0]?=some z0)(hj:l.jo[z0.toNat]?=some j0):∃k z1 z2 j1 j2,LrP l x i k z1 z2 j0 j1 j2:=by
 cases h with
 |drv t d0 hd hb=>cases hk
 | @rrr i' k z0' z1 z2 j0' j1 j2 ne t0 t1 h0 h2 kd tie =>
  have jH:i'=i:=Option.some.inj hi;have Px:z0'=z0:=Option.some.inj hz;obtain⟨q1,q2,q3⟩:=YF (l:=l) (x:=⟨1,[i',k],[z0',z1,z2],0⟩) rfl hi rfl hz hj rfl t1.hj rfl h2;exact⟨k,z1,z2,j1,j2,rfl,rfl,rfl,t1,h0,h2,jH▸tie,jH▸ne,q1,q2,q3⟩
 |pr t0 t1 ha=>cases hk
 |rp t0 t1 ha=>cases hk
structure LsP(l:Li)(x:Gr)(i z1:Int)(j0 j1:Jt):Prop where
  y1:x.jo[1]?=some z1
  t1:TieO l 1 x.bo z1 i j1
theorem C6{l:Li}{x:Gr}{i z0:Int}{j0:Jt}(h:DyK l x)(hk:x.kind=2)(hi:x.bo[0]?=some i)(hz:x.jo[0]?=some z0)(hj:l.jo[z0.toNat]?=some j0) :
  ∃z1 j1,LsP l x i z1 j0 j1/\j1.a=i/\(∀j,ep l j x=DF l j i j0 j1)/\gN l x=[sK l i j0 j1,uf l j1]/\gj x=4:=by
 cases h with
 |drv t d0 hd hb=>cases hk
 |rrr ne t0 t1 h0 h2 kd tie=>cases hk
 | @pr i' z0' z1 j0' j1 t0 t1 ha =>
  have jH:i'=i:=Option.some.inj hi;have Px:z0'=z0:=Option.some.inj hz;have e0:l.jo.getD z0'.toNat default=j0:=by rw[Px];exact aQ hj
  have e1:l.jo.getD z1.toNat default=j1:=aQ t1.hj;refine⟨z1,j1,⟨rfl,jH▸t1⟩,jH▸ha,fun j=>?_,?_,rfl⟩
  ·show DF l j i' (l.jo.getD z0'.toNat default) (l.jo.getD z1.toNat default)=_;rw[e0,e1,jH]
  ·show[sK l i' (l.jo.getD z0'.toNat default) (l.jo.getD z1.toNat default),uf l (l.jo.getD z1.toNat default)]=_;rw[e0,e1,jH]
 |rp t0 t1 ha=>cases hk
theorem BU{l:Li}{x:Gr}{i z0:Int}{j0:Jt}(h:DyK l x)(h0:x.kind≠0)(h1:x.kind≠1)(h2:x.kind≠2)(hi:x.bo[0]?=some i)(hz:x.jo[0]?=some z0)(hj:l.jo[z0.toNat]?=some j0) :
  ∃z1 j1,LsP l x i z1 j0 j1/\j1.a≠i/\(∀j,ep l j x=EY l j i j0 j1)/\gN l x=[f7 (lK l i j1)]/\gj x=2:=by
 cases h with
 |drv t d0 hd hb=>exact aiz rfl h0
 |rrr ne t0 t1 h0 h2 kd tie=>exact aiz rfl h1
 |pr t0 t1 ha=>exact aiz rfl h2
 | @rp i' z0' z1 j0' j1 t0 t1 ha =>
  have jH:i'=i:=Option.some.inj hi;obtain⟨q1,q2,q3⟩:=P1 (l:=l) (x:=⟨3,[i'],[z0',z1],0⟩) (by show ¬(3:Int)=1;decide) (by show ¬(3:Int)=2;decide) hi hz hj rfl t1.hj;exact⟨z1,j1,⟨rfl,jH▸t1⟩,jH▸ha,q1,q2,q3⟩
section
variable(l:Li)(G:List Gr)
theorem R0(hl:l.ok)(ae:ax l=0){j:Jt}{dv:Int}(hp:Pj l G j dv){x:Gr}(hx:Lg l dv x) :
  Con prog 84 [.ptr 1000 0,x.av] (ck l G 0) (.tup [nA (ep l j x),i64 (gj x)]) (ck l G (cP 0 (gN l x))):=by
 have hd:=hx.dy;obtain⟨i,z0,j0,hi,aX,t0⟩:=EB hx.dy hx.nd;have oo:=hl.lj;have ac3:=t0.hz;have F0:=sQ hx ae rfl t0 (ahg aX);have n0:=F0.n hp hl ae;obtain⟨o1,o2⟩:=nN ae t0.hj (qP t0);have m0:=cu hl ae o1 o2;have hW:=oH;refine gF func84 (fun k z h=>eQ h) ?_;refine gi (ay hi) ?_;refine gi (ay aX) ?_;refine gi (fI (n:=z0.toNat) oz t0.hj) ?_;refine gc (zM j0 i) ?_;refine gD ?_;refine gt (be (vS l G 0 hl ae hp F0) (a6 rfl rfl rfl) rfl rfl rfl) ?_;refine gt (be (jS l G 0 hl ae o1 o2) (a6 rfl rfl rfl) rfl rfl rfl) ?_;refine gc yi ?_;refine gC (fun u=>?_) (fun u=>?_)
 ·have hk:x.kind = 1:=dV u;obtain ⟨k,z1,z2,j1,j2,P⟩:=DH hx.dy hk hi aX t0.hj;rw [P.eE,P.eX,P.eN];have co:=P.t1.hz;have ki:=P.h0;have F1:=sQ hx ae rfl P.t1 (ahg P.y1);have n1:=F1.n hp hl ae;obtain ⟨o3,o4⟩:=nN ae P.t1.hj (qP P.t1);have m1:=cu hl ae o3 o4;obtain ⟨o5,o6⟩:=nN ae P.h2 (b:=i) (by rcases P.ti with h9 | h9; exact .inl h9.1; exact .inr h9.1);have m2:=cu hl ae o5 o6
  have o7:aV (cc j2 i) (bV l k).length=true:=by
   obtain⟨i1,i2,i3,i4,_⟩:=d8 ae P.h2;have aG:=P.ne;unfold cc;rcases P.ti with⟨h8,h9⟩ |⟨h8,h9⟩
   ·rw[ait h8,<- h9];exact i4
   ·rw[ais (fun h=>aG (h.symm.trans h9)),<- h9];exact i3
  have m3:=cu hl ae o3 o7;have vr:=m2.sub m0;have vs:=m3.sub m1;have qr:=jg vr;have qs:=jg vs;have nd:=kE n1 n0;obtain⟨A1,B1,sh0⟩:=p6 l j (fD j0 i) (cc j0 i);obtain⟨A2,B2,sh1⟩:=p6 l j (fD j1 k) (cc j1 k);have shd:=y7 sh1 sh0;have dz:=G3 shd shd;have ng:=(lh nd nd).1.dvQ;obtain⟨e1,xL⟩:∃e1,e1=cP 0 [tq l i j0 j2,tP l i k j1 j2]:=⟨_,rfl⟩
  have fY:=E8 l G 0 [tq l i j0 j2,tP l i k j1 j2] (fun y hy=>by simp only[ah3,ahy,or_false]at hy;rcases hy with rfl |rfl;exact qr.qs oz;exact qs.qs oz) (by show 2<=100;omega);rw[<- xL]at fY ⊢;have b1:=(fc 3).add hW (qr.sub qs);have s1:=qK l G e1 (rq (hW.po oz) (qr.sub qs) oz);have s2:=Ac l G e1 (yU (b1.po oz) (ng.po oz) oz);have h1:Qb 1 (((1:Int):Rat)):=Qb.one;have nr:=(b1.add ng h1).mono (m:=5) (f:=600000) oz oz;have s3:=oK l G e1 (oy (ng.po oz) (hW.po oz) oz);have nm:=(ng.mul hW).mono (m:=7) (f:=3000000) oz oz;have s4:=qK l G e1 (rq (nm.po oz) (qL.mul qr) oz);have nf:=((fc 7).add nm (qL.mul qr)).mono (m:=7) (f:=3100000) oz oz;have s5:=oK l G e1 (oy (nr.po oz) (nr.po oz) oz);have nq:=(nr.mul nr).mono (m:=9) (f:=6100000) oz oz;have s6:=ta l G e1 (tV (nf.po oz) (nq.po oz) oz);refine gi (ay P.b1) ?_;refine gi (ay P.y1) ?_;refine gi (fI (n:=z1.toNat) oz P.t1.hj) ?_;refine gc (zM j1 k) ?_;refine gD ?_;refine gt (be (vS l G 0 hl ae hp F1) (a6 rfl rfl rfl) rfl rfl rfl) ?_;refine gt (be (zk l G 0 n1 n0 oz oz) (a6 rfl rfl rfl) rfl rfl rfl) ?_;refine gD ?_;refine gt (be (jS l G 0 hl ae o3 o4) (a6 rfl rfl rfl) rfl rfl rfl) ?_;refine gi (ay P.y2) ?_;refine gi (fI (n:=z2.toNat) oz P.h2) ?_;refine gc (zM j2 i) ?_;refine gD ?_;refine gt (be (jS l G 0 hl ae o5 o6) (a6 rfl rfl rfl) rfl rfl rfl) ?_;refine gc (rP m2 m0) ?_;refine gc (tb vr) ?_;refine gt (be (jS l G 0 hl ae o3 o7) (a6 rfl rfl rfl) rfl rfl rfl) ?_;refine gc (rP m3 m1) ?_;refine gc (tb vs) ?_;refine gD ?_;refine gt (bq fY (cV rfl rfl) bU rfl rfl) ?_;refine gt (be (GW l G e1 nd nd oz oz dz) (a6 rfl rfl rfl) rfl rfl rfl) ?_;refine gc (tc (qr.qs oz) (qs.qs oz)) ?_;refine gt (be s1 (a6 rfl rfl rfl) rfl rfl rfl) ?_;refine gt (be s2 (a6 rfl rfl rfl) rfl rfl rfl) ?_;refine gc (oG 4 oz) ?_;refine gc (jP (qL.qs oz) (qr.qs oz)) ?_;refine gt (be s3 (a6 rfl rfl rfl) rfl rfl rfl) ?_;refine gt (be s4 (a6 rfl rfl rfl) rfl rfl rfl) ?_;refine gD ?_;refine gt (be s5 (a6 rfl rfl rfl) rfl rfl rfl) ?_;refine gt (be s6 (a6 rfl rfl rfl) rfl rfl rfl) ?_;refine gR ?_;exact aI.keep (d6 rfl)
 have iy:x.kind≠1:=dC u;refine gC (fun u=>?_) (fun u=>?_)
 ·have hk:x.kind = 2:=dV u;obtain ⟨z1,j1,P,ha,eE,eX,eN⟩:=C6 hx.dy hk hi aX t0.hj;rw [eE,eX,eN];have co:=P.t1.hz;obtain ⟨i1,i2,i3,i4,i5⟩:=d8 ae P.t1.hj;have i5:=i5 (by rw [P.t1.kd]; decide);have xM:=(hx.an z1 (ahg P.y1) j1 P.t1.hj).2;have F1:Fd l dv j1.b j1.on:=⟨i2,i4,xM (by rcases P.t1.tie with h9 | h9; exact h9.2; exact aiz (ha ▸ ahg hi) h9.2)⟩
  have F2:Fd l dv j1.b j1.to:=⟨i2,i5,F1.hd⟩
  have n1:=F1.n hp hl ae;have n2:=F2.n hp hl ae;have m1:=cu hl ae i2 i4;have m2:=cu hl ae i2 i5;rw[ha]at i1 i3;have m3:=cu hl ae i1 i3;have vm:=m2.sub m1;have vr:=m3.sub m0;have qm:=jg vm;have qr:=jg vr;have na:=kE n2 n1;have nb:=kE n0 n1;obtain⟨A1,B1,sh0⟩:=p6 l j (fD j0 i) (cc j0 i);obtain⟨A2,B2,sh1⟩:=p6 l j j1.b j1.on;obtain⟨A3,B3,sh2⟩:=p6 l j j1.b j1.to;have dz:=Yu (y7 sh2 sh1) (y7 sh0 sh1);have ng:=(lh na nb).2.dvQ;obtain⟨e1,xL⟩:∃e1,e1=cP 0 [sK l i j0 j1,uf l j1]:=⟨_,rfl⟩
  have fY:=E8 l G 0 [sK l i j0 j1,uf l j1] (fun y hy=>by simp only[ah3,ahy,or_false]at hy;rcases hy with rfl |rfl;exact qr.qs oz;exact qm.qs oz) (by show 2<=100;omega);rw[<- xL]at fY ⊢;have s1:=oK l G e1 (oy (hW.po oz) (hW.po oz) oz);have nw:=hW.mul hW;have s2:=qK l G e1 (rq (nw.po oz) (qm.mul qr) oz);have nf:=(fc 5).add nw (qm.mul qr);have s3:=oK l G e1 (oy (ng.po oz) (ng.po oz) oz);have nq:=ng.mul ng;have s4:=ta l G e1 (tV (nf.po oz) (nq.po oz) oz);refine gi (ay P.y1) ?_;refine gi (fI (n:=z1.toNat) oz P.t1.hj) ?_;refine gD ?_;refine gt (be (jS l G 0 hl ae i2 i5) (a6 rfl rfl rfl) rfl rfl rfl) ?_;refine gt (be (jS l G 0 hl ae i2 i4) (a6 rfl rfl rfl) rfl rfl rfl) ?_;refine gc (rP m2 m1) ?_;refine gc (tb vm) ?_;refine gt (be (jS l G 0 hl ae i1 i3) (a6 rfl rfl rfl) rfl rfl rfl) ?_;refine gc (rP m3 m0) ?_;refine gc (tb vr) ?_;refine gD ?_;refine gt (bq fY (cV rfl rfl) bU rfl rfl) ?_;refine gt (be (vS l G e1 hl ae hp F1) (a6 rfl rfl rfl) rfl rfl rfl) ?_;refine gt (be (vS l G e1 hl ae hp F2) (a6 rfl rfl rfl) rfl rfl rfl) ?_;refine gt (be (zk l G e1 n2 n1 oz oz) (a6 rfl rfl rfl) rfl rfl rfl) ?_;refine gt (be (zk l G e1 n0 n1 oz oz) (a6 rfl rfl rfl) rfl rfl rfl) ?_;refine gt (be (aav l G e1 na nb oz oz dz) (a6 rfl rfl rfl) rfl rfl rfl) ?_;refine gD ?_;refine gc (jP (qm.qs oz) (qr.qs oz)) ?_;refine gt (be s1 (a6 rfl rfl rfl) rfl rfl rfl) ?_;refine gt (be s2 (a6 rfl rfl rfl) rfl rfl rfl) ?_;refine gt (be s3 (a6 rfl rfl rfl) rfl rfl rfl) ?_;refine gt (be s4 (a6 rfl rfl rfl) rfl rfl rfl) ?_;refine gR ?_;exact aI.keep (d6 rfl)
 have cC:x.kind≠2:=dC u;obtain⟨z1,j1,P,ha,eE,eX,eN⟩:=BU hx.dy hx.nd iy cC hi aX t0.hj;rw[eE,eX,eN];have co:=P.t1.hz;obtain⟨i1,i2,i3,i4,i5⟩:=d8 ae P.t1.hj;have i5:=i5 (by rw[P.t1.kd];decide);have xN:=(hx.an z1 (ahg P.y1) j1 P.t1.hj).1;have hb:j1.b=i:=by rcases P.t1.tie with h9 |h9;exact aiz h9.1 ha;exact h9.1
 have F1:Fd l dv j1.a j1.point:=⟨i1,i3,xN (by rcases P.t1.tie with h9 |h9;exact aiz h9.1 ha;exact h9.2)⟩
 have n1:=F1.n hp hl ae;rw[hb]at i2 i4 i5;have m1:=cu hl ae i2 i4;have m2:=cu hl ae i2 i5;have vv:Sm 2001 (lK l i j1):=m2.sub m1;have vu:Sm 2001 (Ap l i j0 j1):=m1.sub m0;have qv:=jg vv;have qh:=vv.cross vu;have nd:=kE n1 n0;obtain⟨A1,B1,sh0⟩:=p6 l j (fD j0 i) (cc j0 i);obtain⟨A2,B2,sh1⟩:=p6 l j j1.a j1.point;have shd:=y7 sh1 sh0;have dz:=G3 shd shd;have ng:=(lh nd nd).1.dvQ;obtain⟨e1,xL⟩:∃e1,e1=cP 0 [f7 (lK l i j1)]:=⟨_,rfl⟩
 have fY:=E8 l G 0 [f7 (lK l i j1)] (fun y hy=>by simp only[ah3,ahy,or_false]at hy;rcases hy with rfl;exact qv.qs oz) (by show 1<=100;omega);rw[<- xL]at fY ⊢;have s1:=qK l G e1 (rq (ng.po oz) qv oz);have na:=(fc 5).add ng qv;have s2:=qK l G e1 (rq (hW.po oz) (qh.mul qh) oz);have nb:=(fc 3).add hW (qh.mul qh);have s3:=ta l G e1 (tV (na.po oz) (nb.po oz) oz);refine gi (ay P.y1) ?_;refine gi (fI (n:=z1.toNat) oz P.t1.hj) ?_;refine gD ?_;refine gt (be (jS l G 0 hl ae i2 i4) (a6 rfl rfl rfl) rfl rfl rfl) ?_;refine gt (be (jS l G 0 hl ae i2 i5) (a6 rfl rfl rfl) rfl rfl rfl) ?_;refine gc (rP m2 m1) ?_;refine gc (rP m1 m0) ?_;refine gD ?_;refine gc (jP (vv.x.qs oz) (vu.y.qs oz)) ?_;refine gc (jP (vv.y.qs oz) (vu.x.qs oz)) ?_;refine gc (tc ((vv.x.mul vu.y).qs oz) ((vv.y.mul vu.x).qs oz)) ?_;refine gD ?_;refine gc (tb vv) ?_;refine gt (bq fY (cV rfl rfl) bU rfl rfl) ?_;refine gt (be (vS l G e1 hl ae hp F1) (a6 rfl rfl rfl) rfl rfl rfl) ?_;refine gt (be (zk l G e1 n1 n0 oz oz) (a6 rfl rfl rfl) rfl rfl rfl) ?_;refine gD ?_;refine gc (tb vv) ?_;refine gt (be (GW l G e1 nd nd oz oz dz) (a6 rfl rfl rfl) rfl rfl rfl) ?_;refine gt (be s1 (a6 rfl rfl rfl) rfl rfl rfl) ?_;refine gc (jP (qh.qs oz) (qh.qs oz)) ?_;refine gt (be s2 (a6 rfl rfl rfl) rfl rfl rfl) ?_;refine gt (be s3 (a6 rfl rfl rfl) rfl rfl rfl) ?_;refine gD ?_;refine gR ?_;exact aI.keep (d6 rfl)
end
open Lean.Grind (CommRing)
structure Nxt(l:Li)(kw:List Bool)(g:Gr):Prop where
  b:∀x∈g.bo,kn kw x=false
  j:∀z∈g.jo,∀j,l.jo[z.toNat]?=some j->(j.a∈g.bo\/kn kw j.a=true)/\(j.b∈g.bo\/kn kw j.b=true)
theorem wj{l:Li}{kind b:Int}{kw:List Bool}{bs:List Int}(hb:b∈bs)(h:0<=bB l kind b kw){j:Jt}(hj:l.jo[(bB l kind b kw).toNat]?=some j) :
  (j.a∈bs\/kn kw j.a=true)/\(j.b∈bs\/kn kw j.b=true):=by
 obtain⟨i,j',e,h1,_,h2⟩:=yA h;rw[e,aij,h1]at hj;cases hj;rcases h2 with⟨e1,e2⟩ |⟨e1,e2⟩
 ·exact⟨.inl (e1▸hb),.inr e2⟩
 ·exact⟨.inr e2,.inl (e1▸hb)⟩
theorem Z3{l:Li}(hl:ax l=0){kw:List Bool}{g:Gr}(h:bY l kw=some g):Nxt l kw g:=by
 unfold bY at h;cases h1:dt l kw with
 |some g' =>
  rw[h1]at h;cases h;unfold dt at h1;rw[ahl]at h1;obtain⟨i,hi,rfl⟩:=h1;obtain⟨h1,h2⟩:=fm hi;unfold f9 at h2;simp only[agr,ahj,aiu,agt]at h2;refine⟨yD h2.1,fun z hz j hj=>?_⟩;rw[ae4.1 hz]at hj;exact wj (by simp) h2.2 hj
 |none =>
  rw[h1]at h;cases h2:cG l kw with
  |some g' =>
   rw[h2]at h;cases h;have hf:=Xp h2;unfold cG at h2;rw[ahl]at h2;obtain⟨i,hi,h3⟩:=h2;obtain⟨_,h4⟩:=fm hi;split at h3
   ·rename_i k hk;subst h3;unfold gV at hk;rw [ahl] at hk;obtain ⟨k',hk',rfl⟩:=hk;obtain ⟨h5,h6⟩:=fm hk';rw [show i + 1 + k' = k' + (i + 1) by omega] at h6;unfold df at h6;simp only [agr,ahj,aiu] at h6;obtain ⟨_,⟨j1,j2⟩,j3⟩:=h6;refine ⟨fun x hx=>sL (hf x hx),fun z hz j hj=>?_⟩;simp only [il,ah3,ahy,or_false] at hz;rcases hz with rfl | rfl | rfl
    ·exact wj (by simp[il]) j1 hj
    ·exact wj (by simp[il]) j2 hj
    ·obtain⟨n,a2,e,p5,iw,ht⟩:=yA j3;rw[e,aij,p5]at hj;cases hj;obtain⟨i1,i2,_⟩:=d8 hl p5;have i1:=(dJ i1).1;have i2:=(dJ i2).1;rcases ht with⟨e1,e2⟩ |⟨e1,e2⟩
     ·rw[sJ i2 oz oz]at e2;have e2:=aiv e2;exact⟨.inl (by simp[il,e1]),.inl (by simp[il,e2])⟩
     ·rw[sJ i1 oz oz]at e2;have e2:=aiv e2;exact⟨.inl (by simp[il,e2]),.inl (by simp[il,e1])⟩
   ·rename_i hk;rw[hk]at h4;cases h4
  |none =>
   rw[h2]at h;have hf:=X4 (show d9 l kw=some g from h);have h3:d9 l kw=some g:=h;unfold d9 at h3;rw[ahl]at h3;obtain⟨i,hi,rfl⟩:=h3;obtain⟨_,h4⟩:=fm hi;unfold fU at h4;simp only[agr,ahj,aiu]at h4;obtain⟨_,j1,j2⟩:=h4;refine⟨fun x hx=>sL (hf x hx),fun z hz j hj=>?_⟩;simp only[iO,ah3,ahy,or_false]at hz;rcases hz with rfl |rfl
   ·exact wj (by simp[iO]) j1 hj
   ·exact wj (by simp[iO]) j2 hj
def EA(l:Li):List Bool->List Gr->Prop
  |_,[]=>True
  |kw,g::gs=>Nxt l kw g/\EA l (a9 kw g.bo) gs
theorem IC{l:Li}(hl:ax l=0):∀(n:Nat)(kw:List Bool)(out:List Gr),∃gs,(cr l n kw out).2=out++gs/\EA l kw gs
 |0,kw,out=>⟨[],(ae5 _).symm,trivial⟩
 |n+1,kw,out=>by
  unfold cr;cases hg:bY l kw with
  |none=>exact⟨[],(ae5 _).symm,trivial⟩
  |some g =>
   obtain⟨gs,e,h⟩:=IC hl n (a9 kw g.bo) (out++[g]);refine⟨g::gs,?_,Z3 hl hg,h⟩;show(cr l n (a9 kw g.bo) (out++[g])).2=_;rw[e,aip];rfl
def lA(l:Li)(gs:List Gr)(m:Nat):List Bool:=(gs.take m).foldl (fun k g=>a9 k g.bo) (cz l.bo.length 0)
theorem KW{l:Li}:∀(gs:List Gr)(kw:List Bool),EA l kw gs->∀(m:Nat)(g:Gr),gs[m]?=some g->Nxt l ((gs.take m).foldl (fun k g=>a9 k g.bo) kw) g
 |[],kw,h,m,g,hg=>by simp at hg
 |g0::gs,kw,h,0,g,hg=>by
  rw[List.getElem?_cons_zero]at hg;cases hg;exact h.1
 |g0::gs,kw,h,m+1,g,hg=>by
  rw[List.getElem?_cons_succ]at hg;exact KW gs _ h.2 m g hg
theorem Xi(l:Li)(gs:List Gr)(m:Nat):(lA l gs m).length=l.bo.length:=by
 have:∀(gs:List Gr)(k:List Bool),(gs.foldl (fun k g=>a9 k g.bo) k).length=k.length:=by
  intro gs
  induction gs with
  |nil=>intro k;rfl
  |cons g gs ih=>intro k;rw[afw,ih,lL]
 unfold lA;rw[this,jd]
theorem Yv{l:Li}{gs:List Gr}{m:Nat}{g:Gr}(hg:gs[m]?=some g):lA l gs (m+1)=a9 (lA l gs m) g.bo:=by
 unfold lA;rw[List.take_add_one,hg,List.foldl_append];rfl
theorem KA{l:Li}{gs:List Gr}{m:Nat}{g:Gr}(hg:gs[m]?=some g)(ok:GrOk l g){b:Int}(h0:0<=b):kn (lA l gs (m+1)) b=(g.bo.any (fun x=>decide (x=b))||kn (lA l gs m) b):=by
 rw[Yv hg,EJ h0 (fun x hx=>by rw[Xi];exact ok.b x hx)]
theorem QD{l:Li}(hl:ax l=0)(hs:bS l=0){m:Nat}{g:Gr}(hg:(aC l)[m]?=some g):Nxt l (lA l (aC l) m) g:=by
 obtain⟨gs,e,h⟩:=IC hl l.bo.length (cz l.bo.length 0) []
 have e2:aC l=gs:=by
  unfold aC b8;rw[ait hs,e];rfl
 rw[e2]at hg ⊢;exact KW gs _ h m g hg
theorem yx{n e:Nat}{a:List Rat}(h:Nm n e a):a.length<=2^n:=h.nl.le
theorem Pq.ok.nq{n e:Nat}{p:Pq}(h:Pq.ok n e p):Nq n p:=⟨yx h.c,yx h.s,yx h.x,yx h.y⟩
section
variable{l:Li}{xs:List Tn}{s g:Nat}(W:WkC l xs s g){gr:Gr}{a:Aq}(hg:(aC l)[a.ms.length]?=some gr)
variable{j r E:Nat}(Q:QInv l j r E a)
include W hg Q
end
end Go.Lw
namespace Go.Lw
open Go.Proofs
theorem mC{α:Type}{l:List α}{i:Nat}{d:α}(h:i<l.length):l[i]?=some (l.getD i d):=by
 rw[ahh,ahm h];rfl
def i9(dv:Int)(k:Nat)(b:Int):Bool:=!(decide (0<b)&&(decide (k=0)||!decide (b=dv)))
def qp(l:Li)(dv:Int)(k:Nat)(g:Gr):Bool:=(ci l g).all (i9 dv k)
def fC(l:Li)(G:List Gr):Int:=(G.getD 0 default).bo.getD 0 0
def iZ(l:Li)(G:List Gr)(n:Nat):Bool:=(List.range n).all fun k=>qp l (fC l G) k (G.getD k default)
def eY(l:Li)(G:List Gr):Bool:=decide (G.length≠0/\(G.getD 0 default).kind=0)&&iZ l G G.length
theorem Ry(l:Li)(G:List Gr):iZ l G 0=true:=rfl
theorem yW(l:Li)(G:List Gr)(n:Nat):iZ l G (n+1)=(iZ l G n&&qp l (fC l G) n (G.getD n default)):=by
 unfold iZ;rw[afm,all_append];simp
theorem BI{l:Li}{G:List Gr}{n m:Nat}(h:iZ l G n=true)(hm:m<=n):iZ l G m=true:=by
 unfold iZ at h ⊢;rw[ahs]at h ⊢;exact fun k hk=>h k (afu.2 (by have:=afu.1 hk;omega))
theorem ZA{l:Li}{G:List Gr}{n m:Nat}(h:iZ l G m=false)(hm:m<=n):iZ l G n=false:=by
 cases h1:iZ l G n
 ·rfl
 ·rw[BI h1 hm]at h;cases h
theorem JC{dv:Int}{k:Nat}{b:Int}:cond (aa .gtr b 0) (cond (aa .eql (k:Int) 0) true (aa .neq b dv)) false=!i9 dv k b:=by
 have e1:aa .gtr b 0=decide (0<b):=rfl
 have e2:aa .eql (k:Int) 0=decide (k=0):=by
  show decide ((k:Int)=0)=_;exact decide_eq_decide.2 oz
 have e3:aa .neq b dv=!decide (b=dv):=by by_cases h9:b=dv <;> simp[aa,h9]
 unfold i9;rw[e1,e2,e3];cases decide (0<b) <;> cases decide (k=0) <;> cases decide (b=dv) <;> rfl
theorem Iw{α:Type}{p:α->Bool}{l:List α}{i:Nat}{x:α}(h:l[i]?=some x)(hp:p x=false):l.all p=false:=by
 cases h1:l.all p
 ·rfl
 ·rw[ahs]at h1;rw[h1 x (ahg h)]at hp;cases hp
theorem VA{n:Nat}{k:Int}(h:cond (aa .eql (n:Int) 0) true (aa .neq k 0)=true):¬(n≠0/\k=0):=by
 cases h1:aa .eql (n:Int) 0
 ·rw[h1]at h
  have h2:k≠0:=by
   intro h9;rw[h9]at h;cases h
  exact fun h9=>h2 h9.2
 ·have:=dV h1;exact fun h9=>h9.1 oz
theorem TZ{n:Nat}{k:Int}(h:cond (aa .eql (n:Int) 0) true (aa .neq k 0)=false):n≠0/\k=0:=by
 cases h1:aa .eql (n:Int) 0
 ·rw[h1]at h;have h2:=dC h1;refine⟨by omega,?_⟩;have h3:aa .neq k 0=false:=h;simpa[aa]using h3
 ·rw[h1]at h;cases h
theorem aat(l:Li)(hl:l.ok)(ae:ax l=0)(G:List Gr)(hG:∀g∈G,GrOk l g)(Py:0<G.length->(G.getD 0 default).bo[0]?=some (fC l G))(Gm:G.length<=100) :
  FP 83 [l.av,.lst 4 (G.map Gr.av)] (.tup [bl (eY l G),.v .nilIface]):=by
 refine ak func83 ?_;refine gl ?_;refine mh (fun h=>(ay (mC (l:=G) (i:=0) (d:=default) (by have:=dC h;omega)))) ?_;refine gC (fun z=>?_) (fun z=>?_)
 ·have h1:=VA z;refine bZ ?_;unfold eY;rw[aiy h1,agq];rfl
 obtain⟨h1,h2⟩:=TZ z;obtain⟨dv,mW⟩:∃dv,dv=fC l G:=⟨_,rfl⟩
 rw[<- mW]at Py;have hs:eY l G=iZ l G G.length:=by unfold eY;rw[aix ⟨h1,h2⟩,agu]
 rw[hs];refine gi (ay (mC (l:=G) (i:=0) (d:=default) oz)) ?_;refine gi (ay (Py oz)) ?_;refine gl ?_;refine aL [2,6,29,30] [2] (fun(k:Nat)=>[pP 31 (i64 k)]) (fun _=>[]) (fun k=>k<=G.length/\iZ l G k=true) (fun k=>G.length-k) 0 ⟨ahv _,rfl⟩ ?_;rintro k ⟨hk,xO⟩ K1 J1;refine gC (fun z=>?_) (fun z=>?_)
 ·have af:=aK z;have hg:=mC (l:=G) (i:=k) (d:=default) af;obtain⟨g,eg⟩:∃g,g=G.getD k default:=⟨_,rfl⟩
  rw[<- eg]at hg;have jp:=hG g (ahg hg);have hgj:=jp.lj;refine gi (ay hg) ?_;refine gt (bq (U8 l hl ae g jp) (cV rfl rfl) bU rfl rfl) ?_;refine gf ?_ (77777,0);refine gW ((Wk.freeze (k:=900) rfl).trans<|Wk.of (sl:=[pP 2 (.ptr 2 0),pP 6 (i64 dv),pP 7 (i64 k),pP 9 (.lst 1 ((ci l g).map i64)),pP 29 (.lst 4 (G.map Gr.av)),pP 30 (i64 G.length),pP 31 (i64 k)]) (hp:=[pP 2 (.box l.av.cells)]) (.k (.k (.k (.cons rfl (.of (cf (by rw[ahk,pv]))) (.k (.k (.k .nil))))))) (.k .nil)) ?_;refine gl ?_;refine aL [2,6,7,29,30,31,45,46] [2] (fun(q:Nat)=>[pP 47 (i64 q)]) (fun _=>[]) (fun q=>q<=(ci l g).length/\((ci l g).take q).all (i9 dv k)=true) (fun q=>(ci l g).length-q) 0 ⟨ahv _,rfl⟩ ?_;rintro q ⟨hq,oe⟩ K2 J2;refine gC (fun z=>?_) (fun z=>?_)
  ·have bC:=aK z;obtain⟨b,hb⟩:=aB bC;refine gi (ay hb) ?_;refine gC (fun z=>?_) (fun z=>?_)
   ·have h3 : i9 dv k b = false := by rw [JC] at z; simpa using z
    have h4:iZ l G (k+1)=false:=by rw[yW,<- eg,<- mW];unfold qp;rw[Iw hb h3,agp]
    refine bZ ?_;rw[ZA h4 af];rfl
   have h3:i9 dv k b=true:=by rw[JC]at z;simpa using z
   refine ga (zT (by unfold az;have:=pv l g;omega)) ?_;exact aE J2 (q+1) ⟨bC,tp oe hb h3⟩
  have bC:=aW hq z;refine ga aF ?_;exact aE J1 (k+1) ⟨af,by rw[yW,xO,<- eg,<- mW,agu];exact ss bC oe⟩
 have af:=aW hk z;subst af;refine bZ ?_;rw[xO];rfl
def l9(l:Li)(G:List Gr):Jt:=l.jo.getD ((G.getD 0 default).jo.getD 0 0).toNat default
def gz(l:Li)(j:Jt)(x:Gr):Nat:=if cP 0 (gN l x)=0/\ep l j x≠[]then 0 else 15
def dB(l:Li):Nat :=
  if ax l≠0 then ax l else if bS l≠0 then bS l else if l.drivers.length≠1 then 7 else if eY l (aC l)=false then 15
  else if ∀x∈(aC l).tail,gz l (l9 l (aC l)) x=0 then 0 else 15
def dX(l:Li):LL:=if dB l=0 then(aC l).tail.map (ep l (l9 l (aC l)))else[]
def dR(l:Li):List Int:=if dB l=0 then(aC l).tail.map gj else[]
theorem ab2(xs:List Rat):cP 0 xs=0\/cP 0 xs=15:=by unfold cP;rw[ais (by decide)];split;exact .inl rfl;exact .inr rfl
theorem W1{l:Li}{x:Gr}(h:DyK l x){z:Int}(hz:z∈x.jo){j:Jt}(hj:l.jo[z.toNat]?=some j):j.a∈x.bo\/j.b∈x.bo:=by
 have key:∀{kd z b:Int}{bs:List Int}{j j':Jt},TieO l kd bs z b j'->l.jo[z.toNat]?=some j->b∈bs->j.a∈bs\/j.b∈bs:=by
  intro kd z b bs j j' t hj hb;have e:j'=j:=Option.some.inj (t.hj.symm.trans hj);rw[<- e];rcases t.tie with h9 |h9
  ·exact .inl (h9.1▸hb)
  ·exact .inr (h9.1▸hb)
 cases h with
 |drv t d0 hd hb =>
  rw[ae4.1 hz]at hj;exact key t hj (by simp)
 |rrr ne t0 t1 h0 h2 kd tie =>
  simp only[ah3,ahy,or_false]at hz;rcases hz with rfl |rfl |rfl
  ·exact key t0 hj (by simp)
  ·exact key t1 hj (by simp)
  ·cases h2.symm.trans hj;rcases tie with h9 |h9
   ·exact .inl (by rw[h9.1];simp)
   ·exact .inr (by rw[h9.1];simp)
 |pr t0 t1 ha =>
  simp only[ah3,ahy,or_false]at hz;rcases hz with rfl |rfl
  ·exact key t0 hj (by simp)
  ·exact key t1 hj (by simp)
 |rp t0 t1 ha =>
  simp only[ah3,ahy,or_false]at hz;rcases hz with rfl |rfl
  ·exact key t0 hj (by simp)
  ·exact key t1 hj (by simp)
structure Sg0(l:Li):Prop where
  pj:Pj l (aC l) (l9 l (aC l)) (fC l (aC l))
  ne:0<(aC l).length
  b0:(((aC l).getD 0 default).bo)[0]?=some (fC l (aC l))
  dr:∃x,l.drivers[0]?=some x/\x.body=fC l (aC l)
theorem Tz{dv b:Int}(h:i9 dv 0 b=true):b<=0:=by
 unfold i9 at h;simp at h;exact h
theorem aaz{dv b:Int}{k:Nat}(h:i9 dv (k+1) b=true):b<=0\/b=dv:=by
 unfold i9 at h;simp at h;exact h
theorem Ee{l:Li}{g:Gr}(h:DyK l g)(hk:g.kind=0):∃b z d j x,g=⟨0,[b],[z],d⟩/\TieO l 0 [b] z b j/\0<=d/\l.drivers[d.toNat]?=some x/\x.body=b:=by
 cases h with
 |drv t d0 hd hb=>exact⟨_,_,_,_,_,rfl,t,d0,hd,hb⟩
 |rrr ne t0 t1 h0 h2 kd tie=>cases hk
 |pr t0 t1 ha=>cases hk
 |rp t0 t1 ha=>cases hk
theorem x3{l:Li}(ae:ax l=0)(hd:l.drivers.length=1)(hs:eY l (aC l)=true):Sg0 l:=by
 unfold eY at hs;simp only[ahj,aiu]at hs;obtain⟨⟨h1,h2⟩,h3⟩:=hs;have hg:=mC (l:=aC l) (i:=0) (d:=default) oz;obtain⟨g,eg⟩:∃g,g=(aC l).getD 0 default:=⟨_,rfl⟩
 rw[<- eg]at hg h2;obtain⟨ov,bc⟩:=lw ae (ahg hg);obtain⟨b,z,d,j,x,rfl,t,d0,fM,hb⟩:=Ee ov h2;have e1:fC l (aC l)=b:=by unfold fC;rw[<- eg];rfl
 have e2:l9 l (aC l)=j:=by unfold l9;rw[<- eg];exact aQ t.hj
 have h4:=BI h3 (show 1<=_ by omega);rw[yW,Ry,agu,<- eg,e1]at h4;unfold qp at h4;rw[ahs]at h4;have hz:=bc.j z (by simp);obtain⟨i1,i2,_⟩:=d8 ae t.hj;have i1:=dJ i1;have i2:=dJ i2
 have aG:j.a≠j.b:=by
  intro h9;rcases t.tie with⟨a1,a2⟩ |⟨a1,a2⟩
  ·exact a2 (by rw[<- h9,a1];simp)
  ·exact a2 (by rw[h9,a1];simp)
 have ha:ci l ⟨0,[b],[z],d⟩=[eI ⟨0,[b],[z],d⟩ j]:=by show[eI _ (l.jo.getD z.toNat default)]=_;rw[aQ t.hj]
 have h5:=Tz (h4 _ (by rw[ha];exact ae4.2 rfl))
 have h6:fD j b=0:=by
  unfold fD;unfold eI at h5;rcases t.tie with⟨a1,a2⟩ |⟨a1,a2⟩
  ·rw[ait a1];rw[ait (zZ (by rw[a1];simp)),ais (by rw[pz a2];simp)]at h5;omega
  ·have a3:¬j.a=b:=fun h9=>aG (h9.trans a1.symm)
   rw[ais a3];rw[ais (by rw[pz a2];simp)]at h5;omega
 refine⟨?_,by omega,by rw[<- eg,e1];rfl,?_⟩
 ·rw[e1,e2];exact⟨⟨_,z,hg,rfl,hz.1,hz.2,t.hj⟩,qP t,h6⟩
 ·have pY:=(afh.1 fM).1;rw[show d.toNat=0 by omega]at fM;exact⟨x,fM,by rw[e1];exact hb⟩
theorem Vp{l:Li}(ae:ax l=0){b:Int}(h0:0<=b):∀{n m:Nat},n<=m->m<=(aC l).length->kn (lA l (aC l) n) b=true->kn (lA l (aC l) m) b=true:=by
 intro n m
 induction m with
 |zero=>intro h _ hk;rwa [show n=0 by omega]at hk
 |succ m ih =>
  intro h hm hk
  by_cases e:n=m+1
  ·rwa [e]at hk
  ·obtain⟨g,hg⟩:=aB (l:=aC l) (i:=m) oz;rw[KA hg (lw ae (ahg hg)).2 h0,ih oz oz hk,Bool.or_true]
theorem Dz{l:Li}(ae:ax l=0)(gq:bS l=0)(hd:l.drivers.length=1)(hs:eY l (aC l)=true){k:Nat}{x:Gr}(hx:(aC l)[k+1]?=some x):Lg l (fC l (aC l)) x:=by
 have h0:=x3 ae hd hs;obtain⟨ov,bc⟩:=lw ae (ahg hx);have hl:=(afh.1 hx).1;refine⟨ov,bc,fun hk=>?_,fun z hz jt hj=>?_⟩
 ·obtain ⟨b, z, d, j, y, rfl, t, d0, fM, hb⟩:=Ee ov hk;have pY:=(afh.1 fM).1;rw [show d.toNat = 0 by omega] at fM;obtain ⟨y',h1,h2⟩:=h0.dr;have h3:y = y':=Option.some.inj (fM.symm.trans h1);have h4:b = fC l (aC l):=by rw [<- hb,h3,h2]
  have hn:=(QD ae gq hx).b b (by simp);have n8:=mC (l:=aC l) (i:=0) (d:=default) h0.ne;have PA:=(lw ae (ahg n8)).2;have mT:=ahg h0.b0;have iA:=(PA.b _ mT).1
  have h5:kn (lA l (aC l) 1) (fC l (aC l))=true:=by
   rw[KA n8 PA iA];rw[show((aC l).getD 0 default).bo.any (fun x=>decide (x=fC l (aC l)))=true from List.any_eq_true.2 ⟨_,mT,aix rfl⟩];rfl
  rw[h4,Vp ae iA (show 1<=k+1 by omega) oz h5]at hn;cases hn
 ·unfold eY at hs;simp only [ahj,aiu] at hs;have h4:=BI hs.2 (show k + 2 <= _ by omega);rw [yW,aQ hx,ahj] at h4;have h5:=h4.2;unfold qp at h5;rw [ahs] at h5
  have h6:i9 (fC l (aC l)) (k+1) (eI x jt)=true:=h5 _ (by
   unfold ci;exact aft.2 ⟨z,hz,by rw[aQ hj]⟩)
  obtain⟨i1,i2,_⟩:=d8 ae hj;have i1:=dJ i1;have i2:=dJ i2;have h7:=aaz h6;have h8:=W1 ov hz hj;unfold eI at h7;refine⟨fun ha=>?_,fun hb=>?_⟩
  ·rw [ais (by rw [pz ha]; simp)] at h7;rcases h7 with h7 | h7
   ·exact .inl oz
   ·exact .inr h7
  ·have ha:jt.a∈x.bo:=by
    rcases h8 with h9 |h9
    ·exact h9
    ·exact aiz h9 hb
   rw[ait (zZ ha),ais (by rw[pz hb];simp)]at h7;rcases h7 with h7 |h7
   ·exact .inl oz
   ·exact .inr h7
theorem NZ{l:Li}(h:ax l≠0):dB l=ax l:=by unfold dB;rw[ait h]
theorem H7{l:Li}(h1:ax l=0)(h:bS l≠0):dB l=bS l:=by unfold dB;rw[ais oz,ait h]
theorem Kp{l:Li}(h1:ax l=0)(h2:bS l=0)(h:l.drivers.length≠1):dB l=7:=by unfold dB;rw[ais oz,ais oz,ait h]
theorem No{l:Li}(h1:ax l=0)(h2:bS l=0)(h3:l.drivers.length=1)(h:eY l (aC l)=false):dB l=15:=by unfold dB;rw[ais oz,ais oz,ais oz,ait h]
theorem EK{l:Li}(h1:ax l=0)(h2:bS l=0)(h3:l.drivers.length=1)(h4:eY l (aC l)=true){x:Gr}(hx:x∈(aC l).tail)(h:gz l (l9 l (aC l)) x≠0):dB l=15:=by
 unfold dB;rw[ais oz,ais oz,ais oz,ais (by rw[h4];decide),ais (fun h9=>h (h9 x hx))]
theorem G0{l:Li}(h1:ax l=0)(h2:bS l=0)(h3:l.drivers.length=1)(h4:eY l (aC l)=true)(h:∀x∈(aC l).tail,gz l (l9 l (aC l)) x=0):dB l=0:=by
 unfold dB;rw[ais oz,ais oz,ais oz,ais (by rw[h4];decide),ait h]
structure ExP(l:Li):Prop where
  li:ax l=0
  sp:bS l=0
  dr:l.drivers.length=1
  si:eY l (aC l)=true
  al:∀x∈(aC l).tail,gz l (l9 l (aC l)) x=0
theorem JP{l:Li}(h:dB l=0):ExP l:=by
 have h1:ax l=0:=Decidable.byContradiction fun h1=>by rw[NZ h1]at h;omega
 have h2:bS l=0:=Decidable.byContradiction fun h2=>by rw[H7 h1 h2]at h;omega
 have h3:l.drivers.length=1:=Decidable.byContradiction fun h3=>by rw[Kp h1 h2 h3]at h;omega
 have h4:eY l (aC l)=true:=by
  cases h4:eY l (aC l)
  ·rw[No h1 h2 h3 h4]at h;omega
  ·rfl
 refine⟨h1,h2,h3,h4,fun x hx=>Decidable.byContradiction fun h5=>?_⟩;rw[EK h1 h2 h3 h4 hx h5]at h;omega
theorem uQ{x k:Int}(h:aa .neq x k=true):x≠k:=by simpa[aa]using h
theorem uG{x k:Int}(h:aa .neq x k=false):x=k:=by simpa[aa]using h
theorem XS{e n:Nat}(h:cond (eK (ip e)) (aa .eql (n:Int) 0) false=true):e=0/\n=0:=by
 cases h1:eK (ip e)
 ·rw[h1]at h;cases h
 ·rw[h1]at h;exact⟨Nx h1,by have:=dV (x:=(n:Int)) (y:=0) h;omega⟩
theorem VR{e n:Nat}(h:cond (eK (ip e)) (aa .eql (n:Int) 0) false=false):e≠0\/n≠0:=by
 cases h1:eK (ip e)
 ·exact .inl (WB h1)
 ·rw[h1]at h;exact .inr (by have:=dC (x:=(n:Int)) (y:=0) h;omega)
theorem ZZ{l:Li}{j:Jt}{x:Gr}(h:cP 0 (gN l x)=0/\(ep l j x).length=0):gz l j x=15:=by
 unfold gz;rw[ais (fun h9=>h9.2 (afp.1 h.2))]
theorem UD{l:Li}{j:Jt}{x:Gr}(h:cP 0 (gN l x)≠0\/(ep l j x).length≠0):gz l j x=cP 0 (gN l x):=by
 unfold gz;rcases ab2 (gN l x)with h1 |h1
 ·rw[ait ⟨h1,fun h9=>by rw[h9]at h;rcases h with h |h;exact h h1;exact h rfl⟩,h1]
 ·rw[ais (fun h9=>by rw[h1]at h9;exact aiz h9.1 (by decide)),h1]
theorem yt{α β:Type}(f:α->β){L:List α}{i:Nat}{x:α}(h:L[i]?=some x):(L.take (i+1)).map f=(L.take i).map f++[f x]:=by rw[gB h,aih];rfl
theorem By(l:Li)(hl:l.ok):FP 33 [l.av] (.tup [.lst 1 ((dX l).map nA),.lst 1 ((dR l).map i64),dh (dB l)]):=by
 refine ak func33 ?_;refine gc (Yz l hl) ?_;refine gC (fun z=>?_) (fun z=>?_)
 ·have h9:=p9 z
  have he:dB l=(if ax l=0 then bS l else ax l):=by
   by_cases h1:ax l=0
   ·rw[ait h1]at h9 ⊢;exact H7 h1 h9
   ·rw[ais h1];exact NZ h1
  have hn:dB l≠0:=by rw[he];exact h9
  refine gR ?_;exact gP (by unfold dX dR;rw[ais hn,ais hn,he];exact Sub.tup (.cons (.nil _ _ _) (.cons (.nil _ _ _) (.cons (.refl _) .nil))))
 have h9:=qI z;have ae:ax l=0:=Decidable.byContradiction fun h1=>by rw[ais h1]at h9;exact h1 h9
 have gq:bS l=0:=by rw[ait ae]at h9;exact h9
 rw[ait ae,ait ae];have ux:=hl.ld;refine gl ?_;refine gC (fun z=>?_) (fun z=>?_)
 ·have h3 : l.drivers.length ≠ 1 := by have := uQ z; omega
  have he:=Kp ae gq h3;refine gR ?_;exact gP (by unfold dX dR;rw[he];exact Sub.tup (.cons (.nil _ _ _) (.cons (.nil _ _ _) (.cons (.refl _) .nil))))
 have h3:l.drivers.length=1:=by have:=uG z;omega
 obtain⟨G,hG⟩:∃G,G=aC l:=⟨_,rfl⟩
 have Gm:G.length<=100:=by have:=yE ae;rw[hG];omega
 have ac4:=aat l hl ae G (fun g hg=>(lw ae (hG▸hg)).2) (fun h0=>by
  have hg:=mC (l:=G) (i:=0) (d:=default) h0;have hm:G.getD 0 default∈aC l:=by have h9:=ahg hg;rw[hG]at h9 ⊢;exact h9
  have ov:=(lw ae hm).1
  have key:∀x,DyK l x->x.bo[0]?=some (x.bo.getD 0 0):=by
   intro x hx;cases hx <;> rfl
  exact key _ ov) Gm
 rw[<- hG];refine gc ac4 ?_;refine gf ?_;refine gC (fun z=>?_) (fun z=>?_) (st2:=(77777,0))
 ·have h4 : eY l (aC l) = false := by rw [<- hG]; simpa using z
  have he:=No ae gq h3 h4;refine gR ?_;exact gP (by unfold dX dR;rw[he];exact Sub.tup (.cons (.nil _ _ _) (.cons (.nil _ _ _) (.cons (.refl _) .nil))))
 have h4:eY l (aC l)=true:=by rw[<- hG];simpa using z
 have hS:=x3 ae h3 h4;have aG:0<G.length:=by rw[hG];exact hS.ne
 obtain⟨T,hT⟩:∃T,T=G.tail:=⟨_,rfl⟩
 have hTl:T.length<=100:=by rw[hT,aet];omega
 obtain⟨j,hj⟩:∃j,j=l9 l G:=⟨_,rfl⟩
 have iU:Pj l G j (fC l G):=by rw[hj,hG];exact hS.pj
 have Gn:∀(i:Nat)(x:Gr),T[i]?=some x->Lg l (fC l G) x:=fun i x hx=>by
  rw[hG];refine Dz ae gq h3 h4 (k:=i) ?_;rw[<- hG];rw[hT,afx]at hx;exact hx
 refine gW (Wk.o (sl:=[pP 1 (.ptr 1 0),pP 5 (.lst 4 (G.map Gr.av))]) (hp:=[pP 1 (.box l.av.cells)])) ?_ (14,2);refine gs ((eF (l:=1) (es:=G.map Gr.av) (.tmp rfl) (.some _ (.const _) oz) (.none _) T53 rfl T104 rfl (by rw[ahk];omega) (ahr _) rfl)) ?_;refine ge rfl ?_;refine gW (Wk.of (sl:=[pP 8 (.ptr 8 0),pP 9 (nS),pP 10 (nS),pP 44 (.lst 4 (T.map Gr.av)),pP 45 (i64 T.length),pP 46 (i64 0)]) (hp:=[pP 8 (.box (tu l G 0))]) (.k (.k (.k (.cons rfl (.of (by rw[hT,<- List.drop_one,afk,ah1 (by rw[afi];omega)])) (.cons rfl (Sub.int (by have h8:T.length=G.length-1:=(by rw[hT,aet]);rw[h8,ah5,afi,ahk,Nat.min_self])) (.k .nil)))))) (.k .nil)) ?_ (99999,0)
 refine gW (Wk.virt 900 1 rfl) ?_ (99999,0);refine gW (Wk.virt 901 1 rfl) ?_;refine aL [8,44,45] [8] (fun(i:Nat)=>[pP 9 (.ms 900 1 0 i),pP 10 (.ms 901 1 0 i),pP 46 (i64 i)]) (fun i=>[pP 900 (.row 1 (((T.take i).map (ep l j)).map nA)),pP 901 (.row 1 (((T.take i).map gj).map i64))]) (fun i=>i<=T.length/\∀x∈T.take i,gz l j x=0) (fun i=>T.length-i) 0 ⟨ahv _,fun x hx=>by simp at hx⟩ ?_ (h1:=(.cons rfl (Sub.nM _ _ _) (.cons rfl (Sub.nM _ _ _) (.k .nil))))
 rintro i ⟨hi,bc⟩ K1 J1;refine gC (fun z=>?_) (fun z=>?_) (st2:=(24,0))
 ·have af:=aK z;obtain ⟨x,hx⟩:=aB af;have Gp:x ∈ (aC l).tail:=by rw [<- hG,<- hT]; exact ahg hx
  refine gi (ay hx) ?_;refine gt (bq (Con.rekeyB 8 rfl rfl rfl rfl (R0 l G hl ae iU (Gn i x hx))) (cV rfl rfl) bU rfl rfl) ?_;refine cm ?_;refine Fn [8,13,14,44,45,46] [900,901] [pP 9 (.ms 900 1 0 i),pP 10 (.ms 901 1 0 i)] [pP 8 (.box (tu l G (gz l j x)))] (True) ?_ ?_
  ·intro K2 J2;refine gC (fun z=>?_) (fun z=>?_)
   ·have h5:=XS z;exact qo J2 trivial (hw:=Wk.of aY (.cons rfl (.of (by rw[ZZ h5];rfl)) (.k (.k .nil))))
   have h5:=VR z;exact qo J2 trivial (hw:=Wk.of aY (.cons rfl (.of (by rw[UD h5])) (.k (.k .nil))))
  rintro -;refine gC (fun z=>?_) (fun z=>?_)
  ·have h5:=p9 z;have he:=EK ae gq h3 h4 Gp (by rw [<- hG,<- hj]; exact h5);have h6:gz l j x = 15:=by unfold gz at h5 ⊢; split at h5; exact aiz rfl h5; rw [ais (by assumption)]
   refine gD ?_;refine gR ?_;exact gP (by unfold dX dR;rw[he,h6];exact Sub.tup (.cons (.nil _ _ _) (.cons (.nil _ _ _) (.cons (.refl _) .nil))))
  have h5:=qI z;refine gs (eD (.tmp rfl) rfl (by rw[ahk,ahk,ah5];omega) (.tmp rfl) T29 rfl T41 rfl rfl (by simp only[ahx,ah9];omega) rfl rfl) ?_;refine gs (eD (.tmp rfl) rfl (by rw[ahk,ahk,ah5];omega) (.tmp rfl) T30 rfl T3 rfl rfl (by simp only[ahx,ah9];omega) rfl rfl) ?_ (23,0);refine gW (Wk.of (sl:=[pP 8 (.ptr 8 0),pP 9 (.ms 73 1 0 (i+1)),pP 10 (.ms 77 1 0 (i+1)),pP 44 (.lst 4 (T.map Gr.av)),pP 45 (i64 T.length),pP 46 (i64 i)]) (hp:=[pP 8 (.box (tu l G 0)),pP 73 (.row 1 (((T.take (i+1)).map (ep l j)).map nA)),pP 77 (.row 1 (((T.take (i+1)).map gj).map i64))]) aY (.cons rfl (.of (by rw[h5])) (.cons rfl (.of (by rw[yt _ hx,aih];rfl)) (.cons rfl (.of (by rw[yt _ hx,aih];rfl)) .nil)))) ?_ (23,0)
  refine gW (Wk.rk (k:=73) (d:=900) rfl rfl) ?_ (23,0);refine gW (Wk.rk (k:=77) (d:=901) rfl rfl) ?_;refine ga aF ?_;exact aE J1 (i+1) ⟨af,fun y hy=>by rw[gB hx]at hy;rcases ahn.1 hy with h9 |h9;exact bc y h9;rw[ae4.1 h9];exact h5⟩
 have af:=aW hi z;subst af;have he:=G0 ae gq h3 h4 (by rw[<- hG,<- hT,<- hj,<- ahw (l:=T)];exact bc);have eP:dX l=T.map (ep l j):=by unfold dX;rw[ait he,<- hG,<- hT,<- hj]
 have eN:dR l=T.map gj:=by unfold dR;rw[ait he,<- hG,<- hT]
 refine gW ((Wk.freeze (k:=900) rfl).trans<|(Wk.freeze (k:=901) rfl).trans<|Wk.of (sl:=[pP 9 (.lst 1 ((T.map (ep l j)).map nA)),pP 10 (.lst 1 ((T.map gj).map i64))]) (hp:=[]) (.cons rfl (.of (by rw[cf (by rw[ahk,ahk,ah5];omega),ahw];rfl)) (.cons rfl (.of (by show AV.fz 901 1 _ (.ms 901 1 0 T.length)=_;rw[cf (by rw[ahk,ahk,ah5];omega),ahw])) .nil)) .nil) ?_;refine lM ?_;rw[eP,eN,he];rfl
theorem Vi(l:Li)(hl:l.ok):FP 8 [l.av] (.tup [.lst 1 ((dX l).map nA),.lst 1 ((dR l).map i64),dh (dB l)]):=by
 refine ak func8 ?_;refine gc (By l hl) ?_;refine lM ?_
 first |rfl |(simp;done)
variable{P:ai5}{N:Nat}{R:Array Oper}{s:AS}{pos:String}{after:Array Edge}
theorem Kn{ρ:ai2->ai3}{d:Option Tmp}{x y:ai2}{T T2 t:ai4}{w w':ai6}{v:ai3}
  (h:(Builtin.copy_ #[T,T2] t #[ρ x,ρ y]).run P w=.ok v w') :
  (execOp ρ ⟨d,.call ⟨.builtin .copy,#[x,y],#[T,T2]⟩,t,pos,after,none⟩).run P w=.ok (.value v) w':=by
 simp[execOp,resolve,invoke,builtin,h]
set_option maxHeartbeats 1000000 in
theorem aas{d k sz len:Nat}{es xs:List AV}{x y:ai2}{T T2 E t:ai4}{ti te:TI}
  (hx:Ev s x (.ms k sz 0 len)) (hk:s.blk k=some (.row sz es)) (ch:len=es.length) (hy:Ev s y (.lst sz xs)) (hT:aq P T=some ti) (iw:ti.k=.slice E) (hE:aq P E=some te)
  (aN:te.size=sz) (co:aem 0 te.size=true) (hb:xs.length<=len) (hN:aem d N=true) :
  Step P N R s ⟨some d,.call ⟨.builtin .copy,#[x,y],#[T,T2]⟩,t,pos,after,none⟩
   ⟨some (.v (.int .i64 xs.length)),[(k,some (.row sz (xs++es.drop xs.length)))],ai x++ai y,[k]⟩:=by
 refine w7 rfl ?_;intro s' am bj C m a w next hC hr hnext;subst aN;subst ch
 rw[adx]at hN co;have cp:lk s'.hp k=some (.row te.size es):=(am.2 k (by simp)).trans hk;have hd:d<C.nt:=by omega
 have di:=(hx.agree am (fun _ h=>ahn.2 (.inl h))).rep hr;have kP:=(hy.agree am (fun _ h=>ahn.2 (.inr h))).rep hr;obtain⟨dd2,h3,h4,-,hu⟩:=cM hT w;obtain rfl:=gI (h4.trans iw);obtain⟨ll,jh⟩:∃ll,ll=es.length:=⟨_,rfl⟩
 rw[<- jh]at di
 have xm:∀(w':ai6),RelM C ⟨s'.sl,(k,some (.row te.size (xs++es.drop xs.length)))::s'.hp⟩ m a w'->next (a.put (some d) (goInt xs.length)) w':=by
  intro w' hr';refine hnext m _ _ ?_;have:=hr'.put d (.int .i64 xs.length) (some (.v (.int .i64 xs.length))) (fun z hz=>by cases hz;exact⟨ah2 hd hr'.nt,.v _⟩);simpa[AS.app,Act.put,goInt]using this
 have xn:∀(b1 a1:Option Addr)(c1 c2 l1:Nat),a.eval x=.slice b1 l1 c1->a.eval y=.slice a1 0 c2->xs=[] ->
   (⟨some d,.call ⟨.builtin .copy,#[x,y],#[T,T2]⟩,t,pos,after,none⟩:Oper).upon P a next (fun _ _ _=>False) ((execOp a.eval ⟨some d,.call ⟨.builtin .copy,#[x,y],#[T,T2]⟩,t,pos,after,none⟩).run P w):=by
  intro b1 a1 c1 c2 l1 e1 e2 e3;subst e3
  have iQ:(Builtin.firstCells te.size 0 (.slice a1 0 c2)).run P w=.ok #[] w:=by
   cases a1 with
   |none=>rfl
   |some a1=>exact run_firstCells_some w _ _ a1 _ _ [] (by simp) (by simp)
  have dG:(Builtin.copy_ #[T,T2] t #[.slice b1 l1 c1,.slice a1 0 c2]).run P w=.ok (goInt 0) w:=by
   have e0:Nat.min 0 l1=0:=Nat.zero_min _;cases b1 with
   |none=>simp[Builtin.copy_,h3,eM hE,Builtin.lenOf,e0,iQ]
   |some b1=>simp[Builtin.copy_,h3,eM hE,Builtin.lenOf,e0,iQ,storeCells]
  rw[Kn (ρ:=a.eval) (by rw[e1,e2];exact dG)];refine xm w ?_;refine RelM.congr (s:=s') (fun t=>rfl) ?_ hr;intro k';simp only[AS.blk,aA];split
  ·subst_vars;rw[cp];rfl
  ·rfl
 rcases Fo kP co with⟨rfl,a1,cap1,gk⟩ |⟨b1,off1,cap1,cs,gk,kS,cE,OB,pM,iS,gn,aP⟩
 ·generalize db:a.eval x=u at di;cases di with
  |ms0 a0=>exact xn _ _ _ _ _ db gk rfl
  |ms hm hc hS=>exact xn _ _ _ _ _ db gk rfl
 ·obtain ⟨OC, OD, t1, f1, kR⟩:=cE;have cJ:(cs.extract off1 (off1 + xs.length * te.size)).toList.length = xs.length * te.size:=by simp; omega
  have mR:∀(j:Nat) v,(cs.extract off1 (off1+xs.length*te.size)).toList[j]?=some v->w.cell? ((⟨b1,off1,none⟩:Addr).add j)=some v:=by
   intro j v hj;rw[iX,qt kR];rw[ag9,ag1]at hj;split at hj
   ·exact hj
   ·cases hj
  have iR:∀u∈(cs.extract off1 (off1+xs.length*te.size)).toList,u.oneCell'=true:=by
   intro u hu;obtain⟨p,hp,rfl⟩:=afa.1 hu;rw[cJ]at hp;have hi':p/te.size<xs.length:=by rw[aer co];exact hp
   have he:=ahm hi';have lS:=iS _ _ he;have kQ:p%te.size<te.size:=adn _ co;have jI:=ahm (show p%te.size<(xs[p/te.size]).cells.length by omega);have pJ:p/te.size*te.size+p%te.size=p:=by rw[aef];exact adz _ _
   have kT:cs[off1+p/te.size*te.size+p%te.size]?=some ((cs.extract off1 (off1+xs.length*te.size)).toList[p]'oz):=by
    rw[aec,pJ];simp only[Array.getElem_toList,Array.getElem_extract];exact ag7 oz
   exact(aP _ _ _ _ _ he jI kT).one (gn _ _ _ _ he jI)
  generalize db:a.eval x=u at di;cases di with
  |ms0 a0=>omega
  | @ms _ _ _ _ _ cap b hm hc hS =>
   subst jh;obtain⟨c,t2,hw,hn,hl,kV,pN,ji⟩:=sN hr.heap cp hm;have AQ:xs.length*te.size<=es.length*te.size:=ah0 _ hb;have iQ:=run_firstCells_some (P:=P) w te.size xs.length ⟨b1,off1,none⟩ xs.length cap1 _ cJ mR;have cg:=zO (P:=P) (cs.extract off1 (off1+xs.length*te.size)).toList c w 0 0 hw (by rw[cJ];omega) iR;simp only[aep]at cg;have FQ:Nat.min xs.length es.length=xs.length:=adi hb
   have dG:(Builtin.copy_ #[T,T2] t #[.slice (some ⟨b,0*te.size,none⟩) es.length cap,.slice (some ⟨b1,off1,none⟩) xs.length cap1]).run P w =
     .ok (goInt xs.length) { w with heap:=w.heap.setIfInBounds b (.cells (over c.toList 0 (cs.extract off1 (off1+xs.length*te.size)).toList).toArray t2 (0,0)) }:=by
    rw[Nat.zero_mul];generalize(cs.extract off1 (off1+xs.length*te.size)).toList=news at iQ cg ⊢;simp[Builtin.copy_,h3,eM hE,Builtin.lenOf,FQ,iQ,cg]
   rw[Kn (ρ:=a.eval) (by rw[db,gk];exact dG)];refine xm _ ?_
   have bp:(over c.toList 0 (cs.extract off1 (off1+xs.length*te.size)).toList).toArray.size=c.size:=by
    simp only[afd];rw[se _ _ _ (by rw[cJ];simp;omega)];simp
   refine hr.write (x':=.row te.size (xs++es.drop xs.length)) cp hm hw bp rfl (fun g S hg hS hw'=>?_)
   have n6:∀(i:Nat)(e:AV),(xs++es.drop xs.length)[i]?=some e->(i<xs.length/\xs[i]?=some e)\/(xs.length<=i/\es[i]?=some e):=by
    intro i e he;rcases ahq i xs.length with h |h
    ·rw[ah4 h]at he;exact .inl ⟨h,he⟩
    ·rw[ahz h,aii,show xs.length+(i-xs.length)=i by omega]at he;exact .inr ⟨h,he⟩
   refine .row hw' ?_ (by simp;omega) ?_ ?_ ?_
   ·rw [bp];have:(xs ++ es.drop xs.length).length = es.length:=by simp; omega
    rw[this];exact hn
   ·intro i e he;rcases n6 i e he with⟨_,h⟩ |⟨_,h⟩
    ·exact iS i e h
    ·exact kV i e h
   ·intro i j e z he hz;rcases n6 i e he with⟨_,h⟩ |⟨_,h⟩
    ·exact gn i j e z h hz
    ·exact pN i j e z h hz
   ·intro i j e u z he hz hu;refine Rep.mono hg hS ?_ (fun _ _ _ h=>h);rw [afs,jz _ _ _ (by rw [cJ]; simp; omega),ais oz,cJ] at hu;rcases n6 i e he with ⟨hi,h⟩ | ⟨hi,h⟩
    ·have hj:j<te.size:=by
      rw[<- iS i e h];rcases ahq j e.cells.length with h |h
      ·exact h
      ·rw[aht h]at hz;cases hz
     have:=mz (sz:=te.size) hi;rw[ait oz,ag9,ag1,ait oz]at hu;exact aP i j e z u h hz (by rw[<- hu];congr 1;omega)
    ·have h9:xs.length*te.size<=i*te.size:=ah0 _ hi;rw[ais oz,ag9]at hu;exact ji i j e u z h hz hu
end Go.Lw
namespace Go.Lw
open Go.Proofs
section
theorem G1{p q:Rat}(hp:Qs p)(hq:Qs q):FP 193 [qA p,qA q] (qA (p+q)):=by
 have h:=BA (rt p) (rt q) hp.ok hq.ok;rw[bG,bG]at h;exact h
theorem mH{p q:Rat}(hp:Qs p)(hq:Qs q):FP 96 [qA p,qA q] (qA (p-q)):=by
 have h:=LI (rt p) (rt q) hp.ok hq.ok;rw[bG,bG]at h;exact h
theorem o0{p q:Rat}(hp:Qs p)(hq:Qs q):FP 99 [qA p,qA q] (qA (p*q)):=by
 have h:=PN (rt p) (rt q) hp.ok hq.ok;rw[bG,bG]at h;exact h
theorem WK{p q:Rat}(hp:Qs p)(hq:Qs q):FP 371 [qA p,qA q] (.tup [qA (p/q),i64 (if q=0 then 8 else 0)]):=by
 have h:=Wc (rt p) (rt q) hp.ok hq.ok;rw[bG,bG]at h;exact h
theorem W9{p:Rat}(hp:Qs p):FP 197 [qA p] (qA (-p)):=by
 have h:=N4 (rt p) hp.ok;rw[bG]at h;exact h
theorem BM{p:Rat}(hp:Qs p):FP 107 [qA p] (i64 (a7 p)):=by
 have h:=Oe (rt p) hp.ok;rw[bG]at h;exact h
end
def j5(s:Nat)(q:List Rat):List Rat:=afq s 0++q
theorem Hf(t:Rat)(q:List Rat):∀s,au (j5 s q) t=t^s*au q t
 |0=>by show au q t=t^0*au q t;rw[Rat.pow_zero];grind
 |s+1=>by
  have ih:=Hf t q s;show 0+t*au (j5 s q) t=t^(s+1)*au q t;rw[ih,age];grind
theorem LM(t:Rat)(n:Nat):∀p:List Rat,au (p++afq n 0) t=au p t
 |[]=>Ej n t
 |c::p=>by show c+t*au (p++afq n 0) t=c+t*au p t;rw[LM t n p]
theorem NJ(p:List Rat)(n j:Nat):(p++afq n 0).getD j 0=p.getD j 0:=by
 rw[ahh,ahh,List.getElem?_append];split
 ·rfl
 ·rename_i h;rw[aia,aht oz];split <;> rfl
theorem LA(k:Nat)(e:Nat):e+4<=4^k*(e+4):=Nat.le_mul_of_pos_left _ (ad7 oz)
def kA(p q:List Rat)(c:Rat)(s:Nat):List Rat:=padd p (j5 s q) c
theorem zn(p q:List Rat)(c t:Rat)(s:Nat):au (kA p q c s) t=au p t+c*t^s*au q t:=by unfold kA;rw[kg,Hf];grind
theorem nK{e:Nat}{p:List Rat}(hp:Po e p)(he:e<=1000000000000):FP 298 [nA p] (i64 0):=by
 have iT:=hp.len;have AT:=El hp.td;refine ak func298 ?_;refine gl ?_;refine gC (fun y=>?_) (fun y=>?_) (st1:=(2,0));exact aiz (dN (b:=65) y) oz;refine gl ?_;refine aL [0,8,9] [] (fun(i:Nat)=>[pP 10 (i64 i)]) (fun _=>[]) (fun i=>i<=p.length) (fun i=>p.length-i) 0 (ahv _) ?_;rintro i hi K1 J1;refine gC (fun y=>?_) (fun y=>?_)
 ·have af:=aK y;obtain⟨q,hq⟩:=aB af;have hv:=zf (rt q) (hp.qs he (ahg hq)).ok;rw[An]at hv;refine gi (ay hq) ?_;refine gc hv ?_;refine gf ?_;refine ga aF ?_;exact aE J1 (i+1) af
 obtain⟨z,hz⟩:∃z,0<p.length->p[p.length-1]?=some z/\z≠0:=by
  by_cases h:0<p.length
  ·obtain⟨z,h1⟩:=AT h;exact⟨z,fun _=>h1⟩
  ·exact⟨0,fun h1=>aiz h1 h⟩
 refine gl ?_;refine cm ?_;refine kD (fun h=>(gM (by have:=dN (b:=0) h;omega) (by unfold az;omega))) ?_;refine mh (fun h=>(ay (hz (dN (b:=0) h)).1)) ?_;refine bJ (fun h=>(BM (hp.qs he (ahg (hz (dN (b:=0) h)).1)))) ?_;refine gC (fun y=>?_) (fun y=>?_) (st1:=(10,0));exact(NY (fun h=>(hz h).2) y).elim;refine ah ?_
 first |rfl |(simp;done)
theorem x8{p q:List Rat}(hp:FP 298 [nA p] (i64 0))(hq:FP 298 [nA q] (i64 0)):FP 295 [nA p,nA q] (i64 0):=by
 refine ak func295 ?_;refine gc hp ?_;refine gf ?_;refine gc hq ?_;refine ah ?_
 first |rfl |(simp;done)
theorem Sl(d:Nat)(hd:aem d 1000=true)(p:List Rat)(hq:∀c∈p,Qs c)(hl:p.length<=1000) :
  Con prog 293 [nA p] [] (.ms d 3 0 (ptr p).length) [(d,some (.row 3 (p.map qA)))]:=by
 refine gF func293 (fun k z h=>by cases h) ?_;refine gl ?_;refine gW (Wk.virt 900 3 rfl) ?_;refine aL [6,7] [] (fun(j:Nat)=>[pP 3 (.ms 900 3 0 j),pP 8 (i64 j)]) (fun j=>[pP 900 (.row 3 ((p.take j).map qA))]) (fun j=>j<=p.length) (fun j=>p.length-j) 0 (ahv _) ?_ (h1:=(.cons rfl (Sub.nM _ _ _) (.k .nil)));rintro j hj K1 J1;refine gC (fun y=>?_) (fun y=>?_)
 ·have lc:=aK y;obtain⟨q,mX⟩:=aB lc;have od:=BA (rt q) (rt 0) (hq q (ahg mX)).ok Qs.zero.ok;rw[NX,bG]at od;refine gi (ay mX) ?_;refine gc (Con.sA (.cons (.refl _) (.cons qF .nil)) od) ?_;refine gs (eD (.tmp rfl) rfl (by rw[ahk,ah5];omega) (.tmp rfl) T41 rfl T44 rfl rfl (by simp only[ahx,ah9];omega) rfl rfl) ?_ (6,0);refine gW (Wk.of (sl:=[pP 6 (nA p),pP 7 (i64 p.length),pP 8 (i64 j),pP 3 (.ms 17 3 0 (j+1))]) (hp:=[pP 17 (.row 3 ((p.take (j+1)).map qA))]) aY (.cons rfl (.of (by rw[gB mX,aih];rfl)) .nil)) ?_ (6,0);refine gW (Wk.rk (k:=17) (d:=900) rfl rfl) ?_;refine ga aF ?_;exact aE J1 (j+1) lc
 have lc:=aW hj y;subst lc;refine gW (Wk.of (sl:=[pP 3 (.ms 900 3 0 p.length)]) (hp:=[pP 900 (.row 3 (p.map qA))]) aY (.cons rfl (.of (by rw[ahw])) .nil)) ?_;refine aL [] [900] (fun(n:Nat)=>[pP 3 (.ms 900 3 0 n)]) (fun _=>[]) (fun n=>n<=p.length/\ptr (p.take n)=ptr p) (fun n=>n) p.length ⟨ahr _,by rw[ahw]⟩ ?_;rintro n ⟨hn,hv⟩ K2 J2;refine kD (fun h=>(gM (dN (b:=0) h) (by unfold az;omega))) ?_;refine gs (fT rfl rfl rfl (fun h=>br (n:=n-1) (.opt rfl (o1 h)) (.opt rfl (o1 h)) T41 rfl T44 rfl oz (by have:=dN (b:=0) h;omega) rfl)) ?_;refine gs (fT rfl rfl rfl (fun h=>dx (.opt rfl (o1 h)) rfl (ay (gw (l:=p) (i:=n-1) (by have:=dN (b:=0) h;omega))) T44 rfl rfl rfl)) ?_;refine bJ (fun h=>(BM (hq _ (ahg (gw (l:=p) (i:=n-1) (by have:=dN (b:=0) h;omega)))))) ?_;refine gC (fun t31=>?_) (fun t31=>?_)
 ·obtain ⟨h1, h2⟩:=DC t31;have h3:p[n - 1]? = some 0:=by rw [gw (l:=p) (i:=n - 1) oz,h2]
  refine ga (gM oz (by unfold az;omega)) ?_;refine gs (qN (.tmp rfl) (.none _) (.some _ (.tmp rfl) oz) T41 rfl T44 rfl oz oz rfl) ?_;exact aE J2 (n-1) ⟨by omega,E5 (by rw[show n-1+1=n by omega];exact hv) h3⟩ (hw:=Wk.of (.cons rfl (.of (by congr 1)) .nil) (.k .nil))
 have iR:n=(ptr p).length:=by
  rcases adm n with h |h
  ·subst h;rw[List.take_zero]at hv;rw[<- hv];rfl
  ·exact IF hv ⟨_,gw (l:=p) (i:=n-1) oz,Nw t31 h⟩ hn h
 subst iR;refine gR ?_;exact aI.own1 rfl hd rfl
theorem Bo(p:List Rat)(hq:∀c∈p,Qs c)(hl:p.length<=1000):FP 293 [nA p] (nA (ptr p)):=by
 have h:=Con.freeze (by rw[ahk,aeg];exact jf p) (Sl 0 rfl p hq hl)
 rwa [aim,<- map_take,<- rr]at h
theorem sM{e f k:Nat}{p q:List Rat}{c:Rat}(hp:Pb e p)(hq:Pb f q)(hc:Qb k c)(s:Nat)(h:e+k+f+5<=1000000000000)(lp:p.length<=60)(lq:q.length+s<=60):FP 297 [nA p,nA q,qA c,i64 s] (nA (kA p q c s)):=by
 obtain⟨n,hn⟩:∃n,n=max p.length (q.length+s):=⟨_,rfl⟩
 have ou:Qs c:=hc.qs oz;refine ak func297 ?_;refine gl ?_;refine gl ?_;refine ga (fw (by unfold az;omega) (by unfold az;omega)) ?_;refine gs (ri (.tmp rfl) (.tmp rfl) rfl) ?_;refine gs (gh (.tmp rfl) T40 rfl T44 rfl rfl oz (by dsimp only;omega) rfl) ?_ (2,0);refine gW (Wk.of (sl:=[pP 0 (nA p),pP 1 (nA q),pP 3 (i64 s),pP 6 (.ptr 6 0),pP 9 (.ms 19 3 0 n)]) (hp:=[pP 6 (.box (qA c).cells),pP 19 (.row 3 ((afq n (0:Rat)).map qA))]) (.k (.k (.k (.k (.cons rfl (.of (by rw[hn];congr 1;omega)) .nil))))) (.k (.cons rfl (Ao (by rw[hn];congr 1;omega)) .nil))) ?_ (2,3);refine gs ((aas (k:=19) (len:=n) (es:=(afq n (0:Rat)).map qA) (xs:=p.map qA) (.tmp rfl) rfl (by rw[ahk,ah7]) (.tmp rfl) T40 rfl T44 rfl rfl (by rw[ahk];omega) rfl)) ?_ (3,0);refine gW (Wk.of (sl:=[pP 0 (nA p),pP 1 (nA q),pP 3 (i64 s),pP 6 (.ptr 6 0),pP 9 (.ms 19 3 0 n)]) (hp:=[pP 6 (.box (qA c).cells),pP 19 (.row 3 ((p++afq (n-p.length) (0:Rat)).map qA))]) aY (.k (.cons rfl (.of (by rw[aih,ahk,<- afk,List.drop_replicate])) .nil))) ?_ (3,0);refine gW (Wk.rk (k:=19) (d:=900) rfl rfl) ?_;refine gl ?_;refine fH [0,1,3,6,23,24] [6] (fun(i:Nat)(M:List Rat)=>[pP 9 (.ms 900 3 0 n),pP 25 (i64 i)]) (fun _ M=>[pP 900 (.row 3 (M.map qA))]) (fun i M=>i<=q.length/\M.length=n/\(∀t,au M t=au p t+c*t^s*au (q.take i) t)/\(∀j,Qb (e+k+f+4) (M.getD j 0))/\∀j,i+s<=j->M.getD j 0=p.getD j 0) (fun i _=>q.length-i) 0 (p++afq (n-p.length) 0) ⟨ahv _,by rw[aid,ah7];omega,fun t=>by rw[LM];show _=_+c*t^s*0;grind,fun j=>by rw[NJ];exact(u4 hp j).mono oz,fun j _=>NJ p _ j⟩ ?_
 rintro i M ⟨hi,hM,cZ,hb,heq⟩ K1 J1;refine gC (fun z=>?_) (fun z=>?_) (st2:=(8,0))
 ·have af:=aK z;obtain ⟨x,hx⟩:=aB af;have l6:=hq x (ahg hx);have jL:i + s < M.length:=by omega
  have cD:=gw jL;have xJ:=heq (i+s) (ahr _);have xK:=hc.mul l6
  have bj:Qb (e+k+f+4) (M.getD (i+s) 0+c*x):=by
   rw[xJ];exact((u4 hp _).add xK).mono oz
  refine gi (ay hx) ?_;refine ga (fw (by unfold az;omega) (by unfold az;omega)) ?_;refine ga (fw (by unfold az;omega) (by unfold az;omega)) ?_;refine gs (br (n:=i+s) (.tmp rfl) (.tmp rfl) T40 rfl T44 rfl oz oz rfl) ?_;refine gs (dx (.tmp rfl) rfl (ay cD) T44 rfl rfl rfl) ?_;refine gc (o0 ou (l6.qs oz)) ?_;refine gc (G1 (by rw[xJ];exact DQ hp oz _) (xK.qs oz)) ?_;refine gs (br (n:=i+s) (.tmp rfl) (.tmp rfl) T40 rfl T44 rfl oz oz rfl) ?_;refine gs (dc (.tmp rfl) rfl (ay cD) rfl (.tmp rfl) rfl rfl T44 rfl rfl) ?_;refine gD ?_ (7,0);refine gW (Wk.of (sl:=[pP 0 (nA p),pP 1 (nA q),pP 3 (i64 s),pP 6 (.ptr 6 0),pP 9 (.ms 900 3 0 n),pP 23 (nA q),pP 24 (i64 q.length),pP 25 (i64 i)]) (hp:=[pP 6 (.box (qA c).cells),pP 900 (.row 3 ((M.set (i+s) (M.getD (i+s) 0+c*x)).map qA))]) aY (.k (.cons rfl (.of (by rw[ain])) .nil))) ?_;refine ga aF ?_;exact fE J1 (i+1) (M.set (i+s) (M.getD (i+s) 0+c*x)) ⟨af,by rw[air];exact hM,fun t=>by rw[uC _ _ _ _ jL,cZ,rV t hx,yk];grind,fun j=>by rw[nc _ _ _ _ jL];split;exact bj;exact hb j,fun j hj=>by rw[nc _ _ _ _ jL,ais oz];exact heq j oz⟩
 have af:=aW hi z;subst af;have hr:ptr M=kA p q c s:=nD (dp _) (dp _) (fun t=>by rw[ib,cZ,ahw,zn]);refine gW ((Wk.freeze (k:=900) rfl).trans<|Wk.of (sl:=[pP 9 (nA M)]) (hp:=[]) (.cons rfl (.of (by rw[cf (by rw[ahk];exact hM.symm)];rfl)) .nil) .nil) ?_;refine gc (Bo M (fun x hx=>((yJ hb) x hx).qs oz) oz) ?_;refine ah ?_;rw[hr]
theorem R6{e f:Nat}{p q:List Rat}(hp:Pb e p)(hq:Pb f q)(lp:p.length<=30)(lq:q.length<=30)(h:31*(e+f+4)+f<=900000000000):FP 300 [nA p,nA q] (nA (fq p q)):=by
 refine ak func300 ?_;refine gl ?_;refine fH [1,8,9] [] (fun(i:Nat)(R:List Rat)=>[pP 5 (nA R),pP 10 (i64 i)]) (fun _ _=>[]) (fun i R=>i<=p.length/\cR R/\R.length<=i+q.length/\(∀t,au R t=au (p.take i) t*au q t)/\Pb (i*(e+f+4)+1) R) (fun i _=>p.length-i) 0 ([]) ⟨ahv _,rfl,ahv _,fun t=>by show(0:Rat)=0*au q t;grind,fun c hc=>by cases hc⟩ ?_ (h1:=(.cons rfl (Sub.nil _ _ _) (.k .nil)));rintro i R ⟨hi,hR,hl,cZ,hb⟩ K1 J1;refine gC (fun z=>?_) (fun z=>?_)
 ·have af:=aK z;obtain⟨x,hx⟩:=aB af;have l6:=hp x (ahg hx);have ac1:i*(e+f+4)<=30*(e+f+4):=ah0 _ oz
  have hlS:(kA R q x i).length<=i+1+q.length:=by
   refine ah8 (EE _ _ _) ?_;unfold j5;rw[aid,ah7];omega
  have hbS:Pb ((i+1)*(e+f+4)+1) (kA R q x i):=by
   have hs:Pb (f+1) (j5 i q):=fun c hc=>by
    unfold j5 at hc;rcases ahn.1 hc with h9 |h9
    ·rw[ae2 h9];exact Qb.zero.mono oz
    ·exact(hq c h9).mono oz
   exact(hb.add l6 hs).mono (by rw[ad2];omega)
  refine gi (ay hx) ?_;refine gc (sM hb hq l6 i oz oz oz) ?_;refine ga aF ?_;exact fE J1 (i+1) (kA R q x i) ⟨af,dp _,hlS,fun t=>by rw[zn,cZ,rV t hx];grind,hbS⟩
 have af:=aW hi z;subst af;have hr:R=fq p q:=nD hR (dp _) (fun t=>by rw[cZ,ahw,rX]);refine ah ?_;rw[hr]
theorem VB(p:List Rat)(h:p.length<=65):FP 299 [nA p] (.tup [nA p,i64 0]):=by
 refine ak func299 ?_;refine gl ?_;refine gC (fun z=>?_) (fun z=>?_) (st1:=(2,0));exact aiz (dN (b:=65) z) oz;refine bZ ?_
 first |rfl |(simp;done)
theorem vt{e f:Nat}{p q:List Rat}(hp:Po e p)(hq:Po f q)(h:e+f+6<=1000000000000):FP 195 [nA p,nA q] (.tup [nA (padd p q 1),i64 0]):=by
 have l1:=hp.len;have l2:=hq.len;have h1:Qb 1 (((1:Int):Rat)):=Qb.one;have kj:=sM hp.b hq.b h1 0 oz oz oz;refine ak func195 ?_;refine gc (x8 (nK hp oz) (nK hq oz)) ?_;refine gf ?_;refine gc (sY 1 oz) ?_;refine gc kj ?_;refine bZ ?_
 first |rfl |(simp;done)
theorem ru{e f:Nat}{p q:List Rat}(hp:Po e p)(hq:Po f q)(h:e+f+6<=1000000000000):FP 198 [nA p,nA q] (.tup [nA (padd p q (-1)),i64 0]):=by
 have l1:=hp.len;have l2:=hq.len;have h1:Qb 1 (((-1:Int):Rat)):=⟨by decide,by decide⟩
 have kj:=sM hp.b hq.b h1 0 oz oz oz;refine ak func198 ?_;refine gc (x8 (nK hp oz) (nK hq oz)) ?_;refine gf ?_;refine gc (sY (-1) oz) ?_;refine gc kj ?_;refine bZ ?_
 first |rfl |(simp;done)
theorem oS{e f:Nat}{p q:List Rat}(hp:Po e p)(hq:Po f q)(h:31*(e+f+4)+f<=900000000000):FP 199 [nA p,nA q] (.tup [nA (fq p q),i64 0]):=by
 have l1:=hp.len;have l2:=hq.len;have l3:=Jo p q;refine ak func199 ?_;refine gc (x8 (nK hp oz) (nK hq oz)) ?_;refine gf ?_;refine gc (R6 hp.b hq.b l1 l2 h) ?_;refine gc (VB _ oz) ?_;refine bZ ?_
 first |rfl |(simp;done)
theorem j4{e k:Nat}{p:List Rat}{c:Rat}(hp:Po e p)(hc:Qb k c)(h:k+e+8<=1000000000000):FP 196 [nA p,qA c] (.tup [nA (padd [] p c),i64 0]):=by
 have l1:=hp.len;have kj:FP 297 [nS,nA p,qA c,i64 0] (nA (padd [] p c)):=Con.sA (.cons (Sub.nil 3 none 0) (.cons (.refl _) (.cons (.refl _) (.cons (.refl _) .nil)))) (sM (p:=[]) (e:=1) (fun x hx=>by cases hx) hp.b hc 0 oz (by simp) oz);refine ak func196 ?_;refine gc (nK hp oz) ?_;refine gf ?_;refine gc kj ?_;refine bZ ?_
 first |rfl |(simp;done)
theorem YU{e:Nat}{p:List Rat}(hp:Pb e p)(lp:p.length<=12)(h:1048576*(e+4)<=900000000000):FP 296 [nA p,nA pW] (.tup [nA (dvQ p),nA (fS p)]):=by
 have Gi:Qs (1:Rat):=Qb.one.qs oz;have PB:Pb 1 pW:=fun c hc=>by simp only[pW,ah3,ahy,or_false]at hc;rcases hc with rfl |rfl |rfl;exact Qb.one;exact Qb.zero;exact Qb.one
 refine ak func296 ?_;refine gc (Bo p (fun c hc=>(hp c hc).qs oz) oz) ?_;refine fH [1] [] (fun(Q R:List Rat)=>[pP 6 (nA Q),pP 7 (nA R)]) (fun _ _=>[]) (fun Q R=>cR Q/\cR R/\R.length<=p.length/\Q.length<=12/\(∀t,au p t=au Q t*(1+t*t)+au R t)/\Pb (4^(p.length-R.length)*(e+4)) R/\Pb (4^(p.length-R.length)*(e+4)) Q) (fun _ R=>R.length) ([]) (ptr p) ⟨rfl,dp _,jf p,by simp,fun t=>by rw[ib];show _=(0:Rat)*_+_;grind,hp.tr.mono (by have:=LA (p.length-(ptr p).length) e;omega),fun c hc=>by cases hc⟩ ?_ (h1:=(.cons rfl (Sub.nil _ _ _) (.k .nil)))
 rintro Q R ⟨hQ,hR,hRl,Pt,cZ,Bj,uz⟩ K1 J1;refine gl ?_;refine gl ?_;refine gC (fun z=>?_) (fun z=>?_)
 ·have rH : 3 <= R.length := by have h9 := aiv (p := (R.length : Int) >= 3) z; omega
  obtain⟨c,hc⟩:∃c,c=R.getD (R.length-1) 0:=⟨_,rfl⟩
  have PC:R[R.length-1]?=some c:=by rw[hc];exact gw oz
  obtain⟨B,hB⟩:∃B,B=4^(p.length-R.length)*(e+4):=⟨_,rfl⟩
  have hB9:B<=4^9*(e+4):=by rw[hB];exact ah0 _ (ad8 oz oz)
  have hp9:(4:Nat)^9=262144:=by decide
  rw[<- hB]at Bj uz;have hBe:e+4<=B:=by rw[hB];exact LA _ e
  have lT:Qb B c:=Bj c (ahg PC);have ou:Qs c:=lT.qs oz;have eL:c/1=c:=by grind
  have PD:=WK ou Gi;rw[eL]at PD;have jm:=W9 ou;have PF:Qb 1 (((1:Int):Rat)):=Qb.one;have hs9:R.length-3+1<=12:=by omega
  have ac5:=sM (q:=[c]) uz (fun x hx=>by rw[ae4.1 hx];exact lT) PF (R.length-3) oz oz (by simp only[ahx,ah9];omega);have ac6:=sM Bj PB lT.neg (R.length-3) oz oz (by show 3+_<=60;omega)
  have hRn:(kA R pW (-c) (R.length-3)).length<R.length:=by
   unfold kA padd;refine HJ (by rw[m8];unfold j5;rw[aid,ah7];show max _ (_+3)=_;omega) oz ?_;rw[Dj,<- hc];unfold j5;rw[ahh,ahz (by rw[ah7];omega),ah7,show R.length-1-(R.length-3)=2 by omega];show c+-c*1=0;grind
  have FH:4*B<=4^(p.length-(kA R pW (-c) (R.length-3)).length)*(e+4):=by
   rw[hB,<- ad0,<- Nat.pow_succ'];exact ah0 _ (ad8 oz oz)
  have hsW:Pb 1 (j5 (R.length-3) pW):=fun x hx=>by
   unfold j5 at hx;rcases ahn.1 hx with h9 |h9
   ·rw[ae2 h9];exact Qb.zero
   ·exact PB x h9
  have hsC:Pb B (j5 (R.length-3) [c]):=fun x hx=>by
   unfold j5 at hx;rcases ahn.1 hx with h9 |h9
   ·rw[ae2 h9];exact Qb.zero.mono oz
   ·rw[ae4.1 h9];exact lT
  refine gl ?_;refine ga (gM oz (by unfold az;omega)) ?_;refine gi (ay PC) ?_;refine gl ?_;refine ga (show _=(2:Int)from rfl) ?_;refine gi (rfl) ?_;refine gc PD ?_;refine gD ?_;refine gl ?_;refine gl ?_;refine ga (show _=((R.length-3:Nat):Int)from KV (by show 3<=R.length;omega) (by unfold az;omega)) ?_;refine gc (sY 1 oz) ?_;refine gc ac5 ?_;refine gD ?_;refine gc jm ?_;refine gc ac6 ?_;exact fE J1 (kA Q [c] 1 (R.length-3)) (kA R pW (-c) (R.length-3)) ⟨dp _,dp _,by omega,by refine ah8 (EE _ _ _) ?_;unfold j5;rw[aid,ah7];simp only[ahx,ah9];omega,fun t=>by rw[zn,zn,uL,cZ t];show _=(_+1*t^(R.length-3)*(c+t*0))*_+_;grind,(Bj.add lT.neg hsW).mono oz,(uz.add PF hsC).mono oz⟩
 have rH:R.length<=2:=by have h9:=aiw (p:=(R.length:Int)>=3) z;omega
 obtain⟨r1,r2⟩:=DL (p:=p) hQ hR rH cZ;refine bZ ?_;rw[r1,r2]
theorem Wa{e:Nat}{p:List Rat}(hp:Po e p)(lp:p.length<=12)(h:1048576*(e+4)<=900000000000):FP 194 [nA p,nA pW] (.tup [nA (dvQ p),nA (fS p),i64 0]):=by
 have hW:Po 1 pW:=⟨rfl,by decide,fun c hc=>by simp only[pW,ah3,ahy,or_false]at hc;rcases hc with rfl |rfl |rfl;exact Qb.one;exact Qb.zero;exact Qb.one⟩
 refine ak func194 ?_;refine gc (x8 (nK hp oz) (nK hW oz)) ?_;refine gf ?_;refine gl ?_;refine gf ?_;refine gc (YU hp.b lp h) ?_;refine lM ?_
 first |rfl |(simp;done)
def kH(xs:List Int):List Rat:=xs.map fun z:Int=>(z:Rat)
def oX:List Rat:=[1,0,-1]
def oY:List Rat:=[0,2]
theorem yT:Plm 3 2 oX:=⟨rfl,by decide,fun c hc=>by simp only[oX,ah3,ahy,or_false]at hc;rcases hc with rfl |rfl |rfl;exact Qb.one.mono oz;exact Qb.zero.mono oz;exact⟨by decide,by decide⟩⟩
theorem yh:Plm 2 2 oY:=⟨rfl,by decide,fun c hc=>by simp only[oY,ah3,ahy,or_false]at hc;rcases hc with rfl |rfl;exact Qb.zero.mono oz;exact⟨by decide,by decide⟩⟩
theorem NO(t:Rat):au oX t=1-t*t:=by show(1:Rat)+t*(0+t*(-1+t*0))=_;grind
theorem Ha(t:Rat):au oY t=2*t:=by show(0:Rat)+t*(2+t*0)=_;grind
theorem C7(xs:List Int)(hx:∀z∈xs,z.natAbs<1000)(hl:xs.length<=100):FP 192 [.lst 1 (xs.map i64)] (nA (ptr (kH xs))):=by
 have hq:∀c∈kH xs,Qs c:=fun c hc=>by
  unfold kH at hc;obtain⟨z,hz,rfl⟩:=aft.1 hc;have:=hx z hz;exact BB oz
 refine ak func192 ?_;refine gl ?_;refine gW (Wk.virt 900 3 rfl) ?_;refine aL [6,7] [] (fun(i:Nat)=>[pP 3 (.ms 900 3 0 i),pP 8 (i64 i)]) (fun i=>[pP 900 (.row 3 (((kH xs).take i).map qA))]) (fun i=>i<=xs.length) (fun i=>xs.length-i) 0 (ahv _) ?_ (h1:=(.cons rfl (Sub.nM _ _ _) (.k .nil)));rintro i hi K1 J1;refine gC (fun y=>?_) (fun y=>?_) (st2:=(7,0))
 ·have af:=aK y;obtain ⟨z,hz⟩:=aB af;have hz9:=hx z (ahg hz);have hzq:(kH xs)[i]? = some (z:Rat):=by unfold kH; rw [aho,hz]; rfl
  refine gi (ay hz) ?_;refine gc (sY z oz) ?_;refine gs (eD (.tmp rfl) rfl (by rw[ahk,ah5];unfold kH;rw[ahk];omega) (.tmp rfl) T40 rfl T44 rfl rfl (by simp only[ahx,ah9];omega) rfl rfl) ?_ (6,0);refine gW (Wk.of (sl:=[pP 6 (.lst 1 (xs.map i64)),pP 7 (i64 xs.length),pP 8 (i64 i),pP 3 (.ms 16 3 0 (i+1))]) (hp:=[pP 16 (.row 3 (((kH xs).take (i+1)).map qA))]) aY (.cons rfl (.of (by rw[gB hzq,aih];rfl)) .nil)) ?_ (6,0);refine gW (Wk.rk (k:=16) (d:=900) rfl rfl) ?_;refine ga aF ?_;exact aE J1 (i+1) af
 have af:=aW hi y;subst af;have jh:(kH xs).length=xs.length:=by unfold kH;rw[ahk]
 refine gW ((Wk.freeze (k:=900) rfl).trans<|Wk.of (sl:=[pP 3 (nA (kH xs))]) (hp:=[]) (.cons rfl (.of (by rw[cf (by rw[ahk,ah5];omega),<- jh,ahw];rfl)) .nil) .nil) ?_;refine gc (Bo (kH xs) hq oz) ?_;refine ah ?_
 first |rfl |(simp;done)
theorem mo:FP 95 [] (nA pW):=by
 have h:FP 192 [.lst 1 [i64 1,i64 0,i64 1]] (nA pW):=C7 [1,0,1] (by decide) (by decide);refine ak func95 ?_;refine gc h ?_;refine ah ?_
 first |rfl |(simp;done)
theorem vg{p q r:List Rat}(h:FP 195 [nA p,nA q] (.tup [nA r,i64 0])):FP 93 [nA p,nA q] (nA r):=by
 refine ak func93 ?_;refine gc h ?_;refine ah ?_
 first |rfl |(simp;done)
theorem rv{p q r:List Rat}(h:FP 198 [nA p,nA q] (.tup [nA r,i64 0])):FP 97 [nA p,nA q] (nA r):=by
 refine ak func97 ?_;refine gc h ?_;refine ah ?_
 first |rfl |(simp;done)
theorem pC{p q r:List Rat}(h:FP 199 [nA p,nA q] (.tup [nA r,i64 0])):FP 98 [nA p,nA q] (nA r):=by
 refine ak func98 ?_;refine gc h ?_;refine ah ?_
 first |rfl |(simp;done)
theorem jN{p r:List Rat}{c:Rat}(h:FP 196 [nA p,qA c] (.tup [nA r,i64 0])):FP 94 [nA p,qA c] (nA r):=by
 refine ak func94 ?_;refine gc h ?_;refine ah ?_
 first |rfl |(simp;done)
theorem C4{e:Nat}{p:List Rat}(hp:Po e p)(lp:p.length<=12)(he:e<=800000):FP 91 [nA p] (nA (dvQ p)):=by
 refine ak func91 ?_;refine gc mo ?_;refine gc (Wa hp lp oz) ?_;refine ah ?_
 first |rfl |(simp;done)
theorem yj{f h:Nat}{a b:List Rat×List Rat}(ha:Vn f a)(hb:Vn h b)(hf:f<=10000000)(hh:h<=10000000):FP 90 [ir a,ir b] (ir (m6 a b)):=by
 refine ak func90 ?_;refine gc (rv (ru (ha.x.po oz) (hb.x.po oz) oz)) ?_;refine gc (rv (ru (ha.y.po oz) (hb.y.po oz) oz)) ?_;refine gD ?_;refine ah ?_
 first |rfl |(simp;done)
theorem N1{f h:Nat}{a b:List Rat×List Rat}(ha:Vn f a)(hb:Vn h b)(hf:f<=1000000)(hh:h<=1000000):FP 92 [ir a,ir b] (nA (oM a b)):=by
 have m1:=ha.x.mul hb.x;have m2:=ha.y.mul hb.y;refine ak func92 ?_;refine gc (pC (oS (ha.x.po oz) (hb.x.po oz) oz)) ?_;refine gc (pC (oS (ha.y.po oz) (hb.y.po oz) oz)) ?_;refine gc (vg (vt (m1.po oz) (m2.po oz) oz)) ?_;refine gD ?_;refine ah ?_
 first |rfl |(simp;done)
theorem Y1{f h:Nat}{a b:List Rat×List Rat}(ha:Vn f a)(hb:Vn h b)(hf:f<=1000000)(hh:h<=1000000):FP 101 [ir a,ir b] (nA (qk a b)):=by
 have m1:=ha.x.mul hb.y;have m2:=ha.y.mul hb.x;refine ak func101 ?_;refine gc (pC (oS (ha.x.po oz) (hb.y.po oz) oz)) ?_;refine gc (pC (oS (ha.y.po oz) (hb.x.po oz) oz)) ?_;refine gc (rv (ru (m1.po oz) (m2.po oz) oz)) ?_;refine gD ?_;refine ah ?_
 first |rfl |(simp;done)
theorem yZ(j:Jt)(b:Int):FP 87 [j.av,i64 b] (.tup [i64 (de j b),i64 (fD j b),i64 (cc j b)]):=by
 refine ak func87 ?_;refine gC (fun z=>?_) (fun z=>?_)
 ·have h1:j.a=b:=dV z;refine gD ?_;refine lM ?_;unfold de fD cc;rw[ait h1,ait h1,ait h1]
 have h1:j.a≠b:=dC z;refine gD ?_;refine lM ?_;unfold de fD cc;rw[ais h1,ais h1,ais h1]
theorem oT(l:Li)(hl:l.ok)(ae:ax l=0){body pt:Int}(h1:aV body l.bo.length=true)(h2:aV pt (bV l body).length=true) :
  FP 102 [l.av,i64 body,i64 pt] (.tup [qA (aJ l body pt).1,qA (aJ l body pt).2]):=by
 obtain⟨n,k,bd,m,mp⟩:=vN hl ae h1 h2;have e1:qA (aJ l body pt).1=m.x.av:=by rw[mp.ex];rfl
 have e2:qA (aJ l body pt).2=m.y.av:=by rw[mp.ey];rfl
 rw[e1,e2];have hn:=mp.hn;have hk:=mp.hk;have fK:=hl.lb;subst hn;subst hk;refine ak func102 ?_;refine gi (ay mp.gbd) ?_;refine gi (ay mp.gm) ?_;refine gD ?_;refine bZ ?_
 first |rfl |(simp;done)
theorem Jz(t:Rat):au [] t=0:=rfl
theorem Wq{f:Rat}{d:Rat×Rat}:padd (padd [] pW f) (padd (padd [] oX d.1) (padd [] oY d.2) (-1)) 1=padd (padd [] pW f) (ptr (oU d)) 1 :=
 nD (dp _) (dp _) (fun t=>by
  simp only[kg,Le,NO,Ha,uL,Jz];grind)
theorem RJ{f:Rat}{d:Rat×Rat}:padd (padd [] pW f) (padd (padd [] oY d.1) (padd [] oX d.2) 1) 1=padd (padd [] pW f) (ptr (pw d)) 1 :=
 nD (dp _) (dp _) (fun t=>by
  simp only[kg,Hc,NO,Ha,uL,Jz];grind)
theorem abw{p q:Rat×Rat}(hp:Sm 1000 p)(hq:Sm 1000 q):Qs ((b9 p q).1)/\Qs ((b9 p q).2)/\Qs ((b9 p q).1*(b9 p q).1)/\Qs ((b9 p q).2*(b9 p q).2):=by
 have h:=hp.sub hq;exact⟨h.x.qs oz,h.y.qs oz,(h.x.mul h.x).qs oz,(h.y.mul h.y).qs oz⟩
theorem vj(l:Li)(hl:l.ok)(ae:ax l=0){body p q:Int}(h1:aV body l.bo.length=true)(h2:aV p (bV l body).length=true)(h3:aV q (bV l body).length=true) :
  FP 89 [l.av,i64 body,i64 p,i64 q] (qA (f7 (b9 (aJ l body p) (aJ l body q)))):=by
 have s1:=cu hl ae h1 h2;have s2:=cu hl ae h1 h3;obtain⟨k1,k2,k3,k4⟩:=abw s1 s2;refine ak func89 ?_;refine gc (oT l hl ae h1 h2) ?_;refine gc (oT l hl ae h1 h3) ?_;refine gc (mH (s1.x.qs oz) (s2.x.qs oz)) ?_;refine gc (mH (s1.y.qs oz) (s2.y.qs oz)) ?_;refine gD ?_;refine gc (o0 k1 k1) ?_;refine gc (o0 k2 k2) ?_;refine gc (G1 k3 k4) ?_;refine gD ?_;refine ah ?_
 first |rfl |(simp;done)
theorem uM{x:Rat}(hx:Qs x):FP 100 [qA x] (bl (decide (x=0))):=by
 refine ak func100 ?_;refine gc (BM hx) ?_;refine ah ?_;rw[Fc];rfl
theorem wl(l:Li)(hl:l.ok)(ae:ax l=0){G:List Gr}{j:Jt}{dv b pt:Int}(hp:Pj l G j dv)(hF:Fd l dv b pt) :
  FP 88 [l.av,j.av,i64 b,i64 pt] (ir (eR l j b pt)):=by
 obtain⟨d1,d2,d3,d4⟩:=hp.in ae;have s5:=cu hl ae hF.hb hF.hp;have hW:=oH;refine ak func88 ?_;refine gc (oT l hl ae hF.hb hF.hp) ?_;refine gC (fun z=>?_) (fun z=>?_)
 ·have hb:b = 0:=dV z;have e9:eR l j b pt = jW (aJ l b pt):=by unfold eR; rw [ait hb,hb]
  rw[e9];refine gc mo ?_;refine gc (jN (j4 (hW.po oz) s5.x oz)) ?_;refine gc mo ?_;refine gc (jN (j4 (hW.po oz) s5.y oz)) ?_;refine gD ?_;refine ah ?_
  first |rfl |(simp;done)
 have hb:b≠0:=dC z;obtain rfl:b=dv:=by rcases hF.hd with h9 |h9;exact aiz h9 hb;exact h9
 obtain⟨s6,s7⟩:=hp.sm hl ae;rw[<- abm]at s6;have s8:=s5.sub s6;obtain⟨d,hd⟩:∃d,d=b9 (aJ l b pt) (aJ l b (de j b)):=⟨_,rfl⟩
 have ev:eR l j b pt=(padd (padd [] pW (aJ l 0 (cc j b)).1) (padd (padd [] oX d.1) (padd [] oY d.2) (-1)) 1,padd (padd [] pW (aJ l 0 (cc j b)).2) (padd (padd [] oY d.1) (padd [] oX d.2) 1) 1):=by
  rw[Wq,RJ,hd];unfold eR;rw[ais hb];rfl
 rw[ev];have ho:=hp.o;rw[<- hd]at s8;have h1:Qb 1 (((1:Int):Rat)):=Qb.one;have h2:Qb 1 (((-1:Int):Rat)):=⟨by decide,by decide⟩
 have f1:=(fc 3).add hW s7.x;have f2:=(fc 3).add hW s7.y;have c1:=(fc 3).add yT s8.x;have c2:=(fc 3).add yT s8.y;have n1:=(fc 2).add yh s8.y;have n2:=(fc 2).add yh s8.x;have a1:=c1.add n1 h2;have a2:=n2.add c2 h1;have hC:FP 192 [.lst 1 [i64 1,i64 0,i64 (-1)]] (nA oX):=C7 [1,0,-1] (by decide) (by decide);have hS:FP 192 [.lst 1 [i64 0,i64 2]] (nA oY):=C7 [0,2] (by decide) (by decide);have hx:=mH (s5.x.qs oz) (s6.x.qs oz);have hy:=mH (s5.y.qs oz) (s6.y.qs oz);have ex:(aJ l b pt).1-(aJ l b (de j b)).1=d.1:=by rw[hd];rfl
 have ey:(aJ l b pt).2-(aJ l b (de j b)).2=d.2:=by rw[hd];rfl
 rw[ex]at hx;rw[ey]at hy;have hpf:FP 102 [l.av,i64 (fD j b),i64 (cc j b)] (.tup [qA (aJ l 0 (cc j b)).1,qA (aJ l 0 (cc j b)).2]):=by rw[ho];exact oT l hl ae d3 d4
 refine gc (yZ j b) ?_;refine gc (oT l hl ae d1 d2) ?_;refine gc hpf ?_;refine gc hx ?_;refine gc hy ?_;refine gD ?_;refine gc hC ?_;refine gc hS ?_;refine gc mo ?_;refine gc (jN (j4 (hW.po oz) s7.x oz)) ?_;refine gc (jN (j4 (yT.po oz) s8.x oz)) ?_;refine gc (jN (j4 (yh.po oz) s8.y oz)) ?_;refine gc (rv (ru (c1.po oz) (n1.po oz) oz)) ?_;refine gc (vg (vt (f1.po oz) (a1.po oz) oz)) ?_;refine gc mo ?_;refine gc (jN (j4 (hW.po oz) s7.y oz)) ?_;refine gc (jN (j4 (yh.po oz) s8.x oz)) ?_;refine gc (jN (j4 (yT.po oz) s8.y oz)) ?_;refine gc (vg (vt (n2.po oz) (c2.po oz) oz)) ?_;refine gc (vg (vt (f2.po oz) (a2.po oz) oz)) ?_;refine gD ?_;refine ah ?_
 first |rfl |(simp;done)
def qH(xs:List Rat):Bool:=xs.all fun y=>!decide (y=0)
theorem DP(p:Rat×Rat):0<=f7 p:=by
 have h:∀x:Rat,0<=x*x:=fun x=>by
  rcases Rat.le_total (a:=0) (b:=x)with h |h
  ·exact agj h h
  ·have := agj (show 0 <= -x by grind) (show 0 <= -x by grind);grind
 have h1:=h p.1;have h2:=h p.2;unfold f7;grind
theorem Ii(p q:Rat×Rat):f7 (b9 p q)=f7 (b9 q p):=by unfold f7 b9;dsimp only;grind
theorem SV{xs:List Rat}(h:∀y∈xs,0<=y):decide (cP 0 xs=0)=qH xs:=by
 have e:xs.all (fun x=>decide (0<x))=qH xs:=by
  unfold qH;rw[ags,ahs,ahs];constructor
  ·intro h1 y hy;have:=aiv (h1 y hy);simp only[agt,decide_eq_false_iff_not];grind
  ·intro h1 y hy;have h2:=h1 y hy;simp only[agt,decide_eq_false_iff_not]at h2;have:=h y hy;exact aix (by grind)
 unfold cP;rw[ais (by decide),e];cases qH xs <;> rfl
theorem abc(l:Li)(x:Gr):∀y∈gN l x,0<=y:=by
 intro y hy;unfold gN at hy;split at hy
 ·simp only[ah3,ahy,or_false]at hy;rcases hy with rfl |rfl <;> exact DP _
 ·split at hy
  ·simp only[ah3,ahy,or_false]at hy;rcases hy with rfl |rfl <;> exact DP _
  ·rw[ae4.1 hy];exact DP _
theorem Rw{l:Li}{j:Jt}{x:Gr}:cond (qH (gN l x)) (aa .gtr ((ep l j x).length:Int) 0) false=decide (gz l j x=0):=by
 rw[<- SV (abc l x)];unfold gz
 by_cases h1:cP 0 (gN l x)=0
 ·rw[aix h1]
  by_cases h2:ep l j x=[]
  ·rw[ais (fun h=>h.2 h2),h2];rfl
  ·rw[ait ⟨h1,h2⟩];have:=aez.2 h2;exact aix oz
 ·rw[aiy h1,ais (fun h=>h1 h.1)];rfl
theorem LQ(a b:Rat):cond (!decide (a=0)) (!decide (b=0)) false=qH [a,b]:=by
 show _=(!decide (a=0)&&(!decide (b=0)&&true));cases decide (a=0) <;> cases decide (b=0) <;> rfl
theorem UP{l:Li}{x:Gr}(h:DyK l x)(nd:x.kind≠0):∃z1 j1,x.jo[1]?=some z1/\0<=z1/\l.jo[z1.toNat]?=some j1:=by
 cases h with
 |drv t d0 hd hb=>exact aiz rfl nd
 |rrr ne t0 t1 h0 h2 kd tie=>exact⟨_,_,rfl,t1.hz,t1.hj⟩
 |pr t0 t1 ha=>exact⟨_,_,rfl,t1.hz,t1.hj⟩
 |rp t0 t1 ha=>exact⟨_,_,rfl,t1.hz,t1.hj⟩
theorem WR{l:Li}{x:Gr}(h:DyK l x)(nd:x.kind≠0)(n1:x.kind≠1)(n2:x.kind≠2):x.kind=3:=by
 cases h with
 |drv t d0 hd hb=>exact aiz rfl nd
 |rrr ne t0 t1 h0 h2 kd tie=>exact aiz rfl n1
 |pr t0 t1 ha=>exact aiz rfl n2
 |rp t0 t1 ha=>rfl
theorem SC(l:Li)(hl:l.ok)(ae:ax l=0){G:List Gr}{j:Jt}{dv:Int}(hp:Pj l G j dv){x:Gr}(hx:Lg l dv x) :
  FP 35 [l.av,j.av,x.av] (.tup [nA (ep l j x),i64 (gj x),bl (decide (gz l j x=0))]):=by
 have hd:=hx.dy;obtain⟨i,z0,j0,hi,aX,t0⟩:=EB hx.dy hx.nd;obtain⟨z1,j1,co,adf,ur⟩:=UP hx.dy hx.nd;have oo:=hl.lj;have ac3:=t0.hz;have F0:=sQ hx ae rfl t0 (ahg aX);have n0:=F0.n hp hl ae;obtain⟨o1,o2⟩:=nN ae t0.hj (qP t0);have m0:=cu hl ae o1 o2;have hW:=oH;refine ak func35 ?_;refine gi (ay hi) ?_;refine gi (ay aX) ?_;refine gi (fI (n:=z0.toNat) oz t0.hj) ?_;refine gD ?_;refine gc (yZ j0 i) ?_;refine gc (wl l hl ae hp F0) ?_;refine gi (ay co) ?_;refine gi (fI (n:=z1.toNat) oz ur) ?_;refine gD ?_ (9,0);refine Fn [] [] [pP 16 (nA (ep l j x)),pP 17 (i64 (gj x)),pP 18 (bl (qH (gN l x)))] [] (True) ?_ ?_ 2
 ·intro K1 J1;refine gC (fun z=>?_) (fun z=>?_)
  ·have hk:x.kind = 1:=dV z;obtain ⟨k,z1',z2,j1',j2,P⟩:=DH hx.dy hk hi aX t0.hj;obtain rfl:z1' = z1:=Option.some.inj (P.y1.symm.trans co);obtain rfl:j1' = j1:=Option.some.inj (P.t1.hj.symm.trans ur);have ki:=P.h0;have F1:=sQ hx ae rfl P.t1 (ahg P.y1);have n1:=F1.n hp hl ae;obtain ⟨o3,o4⟩:=nN ae P.t1.hj (qP P.t1);have m1:=cu hl ae o3 o4;obtain ⟨o5,o6⟩:=nN ae P.h2 (b:=i) (by rcases P.ti with h9 | h9; exact .inl h9.1; exact .inr h9.1);have m2:=cu hl ae o5 o6
   have o7:aV (cc j2 i) (bV l k).length=true:=by
    obtain⟨i1,i2,i3,i4,_⟩:=d8 ae P.h2;have aG:=P.ne;unfold cc;rcases P.ti with⟨h8,h9⟩ |⟨h8,h9⟩
    ·rw[ait h8,<- h9];exact i4
    ·rw[ais (fun h=>aG (h.symm.trans h9)),<- h9];exact i3
   have m3:=cu hl ae o3 o7;have qr:=jg (m2.sub m0);have qs:=jg (m3.sub m1);have nd:=kE n1 n0;have nw:=(lh nd nd).1;have ng:=nw.dvQ;have b1:=(fc 3).add hW (qr.sub qs);have h1:Qb 1 (((1:Int):Rat)):=Qb.one;have nr:=(b1.add ng h1).mono (m:=5) (f:=600000) oz oz;have nm:=(ng.mul hW).mono (m:=7) (f:=3000000) oz oz;have nf:=((fc 7).add nm (qL.mul qr)).mono (m:=7) (f:=3100000) oz oz;have nq:=(nr.mul nr).mono (m:=9) (f:=6100000) oz oz;refine gi (ay P.b1) ?_;refine gc (yZ j1' k) ?_;refine gc (wl l hl ae hp F1) ?_;refine gi (ay P.y2) ?_;refine gi (fI (n:=z2.toNat) oz P.h2) ?_;refine gc (yZ j2 i) ?_;refine gD ?_;refine gc (vj l hl ae o5 o6 o2) ?_;refine gc (vj l hl ae o3 o7 o4) ?_;refine gD ?_;refine gc (yj n1 n0 oz oz) ?_;refine gc (N1 nd nd oz oz) ?_;refine gc (C4 (nw.po oz) (by have:=nw.len;omega) oz) ?_;refine gc mo ?_;refine gc (mH (qr.qs oz) (qs.qs oz)) ?_;refine gc (jN (j4 (hW.po oz) (qr.sub qs) oz)) ?_;refine gc (vg (vt (b1.po oz) (ng.po oz) oz)) ?_;refine gD ?_;refine gc mo ?_;refine gc (pC (oS (ng.po oz) (hW.po oz) oz)) ?_;refine gc (sY 4 oz) ?_;refine gc (o0 (qL.qs oz) (qr.qs oz)) ?_;refine gc (jN (j4 (nm.po oz) (qL.mul qr) oz)) ?_;refine gc (pC (oS (nr.po oz) (nr.po oz) oz)) ?_;refine gc (rv (ru (nf.po oz) (nq.po oz) oz)) ?_;refine gD ?_;refine gc (uM (qr.qs oz)) ?_;refine bJ (fun _=>(uM (qs.qs oz))) ?_;exact qo J1 trivial (hw:=Wk.of (.cons rfl (.of (by rw[P.eE];rfl)) (.cons rfl (.of (by rw[P.eN];rfl)) (.cons rfl (.of (by rw[P.eX,<- LQ];rfl)) .nil))) .nil)
  have iy:x.kind≠1:=dC z;refine gC (fun z=>?_) (fun z=>?_)
  ·have hk:x.kind = 2:=dV z;obtain ⟨z1',j1',P,ha,eE,eX,eN⟩:=C6 hx.dy hk hi aX t0.hj;obtain rfl:z1' = z1:=Option.some.inj (P.y1.symm.trans co);obtain rfl:j1' = j1:=Option.some.inj (P.t1.hj.symm.trans ur);obtain ⟨i1,i2,i3,i4,i5⟩:=d8 ae P.t1.hj;have i5:=i5 (by rw [P.t1.kd]; decide);have xM:=(hx.an z1' (ahg P.y1) j1' P.t1.hj).2;have F1:Fd l dv j1'.b j1'.on:=⟨i2,i4,xM (by rcases P.t1.tie with h9 | h9; exact h9.2; exact aiz (ha ▸ ahg hi) h9.2)⟩
   have F2:Fd l dv j1'.b j1'.to:=⟨i2,i5,F1.hd⟩
   have n1:=F1.n hp hl ae;have n2:=F2.n hp hl ae;have m1:=cu hl ae i2 i4;have m2:=cu hl ae i2 i5;rw[ha]at i1 i3;have m3:=cu hl ae i1 i3;have Bk:=vj l hl ae i2 i4 i5;rw[Ii]at Bk;have qm:=jg (m2.sub m1);have qr:=jg (m3.sub m0);have na:=kE n2 n1;have nb:=kE n0 n1;have nw:=(lh na nb).2;have ng:=nw.dvQ;have nx:=hW.mul hW;have nf:=(fc 5).add nx (qm.mul qr);have nq:=(ng.mul ng).mono (m:=9) (f:=6100000) oz oz;refine gc (wl l hl ae hp F1) ?_;refine gc (wl l hl ae hp F2) ?_;refine gD ?_;refine gc (vj l hl ae i1 i3 o2) ?_;refine gc Bk ?_;refine gD ?_;refine gc (yj n2 n1 oz oz) ?_;refine gc (yj n0 n1 oz oz) ?_;refine gc (Y1 na nb oz oz) ?_;refine gc (C4 (nw.po oz) (by have:=nw.len;omega) oz) ?_;refine gD ?_;refine gc mo ?_;refine gc mo ?_;refine gc (pC (oS (hW.po oz) (hW.po oz) oz)) ?_;refine gc (o0 (qm.qs oz) (qr.qs oz)) ?_;refine gc (jN (j4 (nx.po oz) (qm.mul qr) oz)) ?_;refine gc (pC (oS (ng.po oz) (ng.po oz) oz)) ?_;refine gc (rv (ru (nf.po oz) (nq.po oz) oz)) ?_;refine gD ?_;refine gc (uM (qr.qs oz)) ?_;refine bJ (fun _=>(uM (qm.qs oz))) ?_;exact qo J1 trivial (hw:=Wk.of (.cons rfl (.of (by rw[eE];rfl)) (.cons rfl (.of (by rw[eN];rfl)) (.cons rfl (.of (by rw[eX,<- LQ];rfl)) .nil))) .nil)
  have cC:x.kind≠2:=dC z;have mU:=WR hx.dy hx.nd iy cC;refine gC (fun z=>?_) (fun z=>?_) (st2:=(77777,0))
  ·obtain ⟨z1', j1', P, ha, eE, eX, eN⟩:=BU hx.dy hx.nd iy cC hi aX t0.hj;obtain rfl:z1' = z1:=Option.some.inj (P.y1.symm.trans co);obtain rfl:j1' = j1:=Option.some.inj (P.t1.hj.symm.trans ur);obtain ⟨i1,i2,i3,i4,i5⟩:=d8 ae P.t1.hj;have i5:=i5 (by rw [P.t1.kd]; decide);have xN:=(hx.an z1' (ahg P.y1) j1' P.t1.hj).1;have hb:j1'.b = i:=by rcases P.t1.tie with h9 | h9; exact aiz h9.1 ha; exact h9.1
   have F1:Fd l dv j1'.a j1'.point:=⟨i1,i3,xN (by rcases P.t1.tie with h9 |h9;exact aiz h9.1 ha;exact h9.2)⟩
   have n1:=F1.n hp hl ae;rw[hb]at i2 i4 i5;have m1:=cu hl ae i2 i4;have m2:=cu hl ae i2 i5;have vv:Sm 2001 (lK l i j1'):=m2.sub m1;have vu:Sm 2001 (Ap l i j0 j1'):=m1.sub m0
   have Bk:FP 89 [l.av,i64 i,i64 j1'.on,i64 j1'.to] (qA (f7 (lK l i j1'))):=by
    have h9:=vj l hl ae i2 i4 i5;rw[Ii]at h9;exact h9
   have qv:=jg vv;have qh:=vv.cross vu;have nd:=kE n1 n0;have nw:=(lh nd nd).1;have ng:=nw.dvQ;have na:=(fc 5).add ng qv;have nb:=(fc 3).add hW (qh.mul qh);refine gc (wl l hl ae hp F1) ?_;refine gc (yj n1 n0 oz oz) ?_;refine gc (N1 nd nd oz oz) ?_;refine gc (C4 (nw.po oz) (by have:=nw.len;omega) oz) ?_;refine gc Bk ?_;refine gc (oT l hl ae i2 i4) ?_;refine gc (oT l hl ae i2 i5) ?_;refine gc (oT l hl ae o1 o2) ?_;refine gc (mH (m2.x.qs oz) (m1.x.qs oz)) ?_;refine gc (mH (m2.y.qs oz) (m1.y.qs oz)) ?_;refine gD ?_;refine gc (mH (m1.y.qs oz) (m0.y.qs oz)) ?_;refine gc (o0 (vv.x.qs oz) (vu.y.qs oz)) ?_;refine gc (mH (m1.x.qs oz) (m0.x.qs oz)) ?_;refine gc (o0 (vv.y.qs oz) (vu.x.qs oz)) ?_;refine gc (mH ((vv.x.mul vu.y).qs oz) ((vv.y.mul vu.x).qs oz)) ?_;refine gD ?_;refine gc (jN (j4 (ng.po oz) qv oz)) ?_;refine gc mo ?_;refine gc (o0 (qh.qs oz) (qh.qs oz)) ?_;refine gc (jN (j4 (hW.po oz) (qh.mul qh) oz)) ?_;refine gc (rv (ru (na.po oz) (nb.po oz) oz)) ?_;refine gD ?_;refine gc (uM (qv.qs oz)) ?_;exact qo J1 trivial (hw:=Wk.of (.cons rfl (.of (by rw[eE];rfl)) (.cons rfl (.of (by rw[eN];rfl)) (.cons rfl (.of (by rw[eX];show bl (!decide (_=0))=bl (!decide (_=0)&&true);rw[Bool.and_true])) .nil))) .nil)
  exact aiz mU (dC z)
 rintro -;refine cm ?_;refine lM ?_;rw[Rw];rfl
def mG(dv:Int)(b:Int):Bool:=!(decide (0<b)&&!decide (b=dv))
def oJ(l:Li)(dv:Int)(k:Nat)(g:Gr):Bool:=!(decide (k=0)&&!decide (g.kind=0))&&(ci l g).all (mG dv)
def iF(l:Li)(dv:Int)(G:List Gr)(n:Nat):Bool:=(List.range n).all fun k=>oJ l dv k (G.getD k default)
theorem xW(l:Li)(dv:Int)(G:List Gr)(n:Nat):iF l dv G (n+1)=(iF l dv G n&&oJ l dv n (G.getD n default)):=by
 unfold iF;rw[afm,all_append];simp
theorem RP{l:Li}{dv:Int}{G:List Gr}{n m:Nat}(h:iF l dv G n=true)(hm:m<=n):iF l dv G m=true:=by
 unfold iF at h ⊢;rw[ahs]at h ⊢;exact fun k hk=>h k (afu.2 (by have:=afu.1 hk;omega))
theorem Eu{l:Li}{dv:Int}{G:List Gr}{n m:Nat}(h:iF l dv G m=false)(hm:m<=n):iF l dv G n=false:=by
 cases h1:iF l dv G n
 ·rfl
 ·rw[RP h1 hm]at h;cases h
theorem KJ{dv b:Int}:cond (aa .gtr b 0) (aa .neq b dv) false=!mG dv b:=by
 have e1:aa .gtr b 0=decide (0<b):=rfl;have e3:aa .neq b dv=!decide (b=dv):=by by_cases h9:b=dv <;> simp[aa,h9]
 unfold mG;rw[e1,e3];cases decide (0<b) <;> cases decide (b=dv) <;> rfl
theorem Lq{k:Nat}{z:Int}:cond (aa .eql (k:Int) 0) (aa .neq z 0) false=(decide (k=0)&&!decide (z=0)):=by
 have e2:aa .eql (k:Int) 0=decide (k=0):=by
  show decide ((k:Int)=0)=_;exact decide_eq_decide.2 oz
 have e3:aa .neq z 0=!decide (z=0):=by by_cases h9:z=0 <;> simp[aa,h9]
 rw[e2,e3];cases decide (k=0) <;> rfl
theorem XC{l:Li}(hs:bS l=0):(eS (bT l)).length=0/\aC l=b8 l:=by
 have h9:(eS (bT l)).length+(eS (fk l)).length=0:=by
  unfold bS at hs;split at hs
  ·assumption
  ·cases hs
 exact⟨by omega,by unfold aC;rw[ait hs]⟩
theorem Zj{l:Li}(h:ax l=0){i:Nat}{d:Dr}(hd:l.drivers[i]?=some d):d.body≠0:=by
 have h1:=(fp h).2.2.1;unfold gG at h1;split at h1
 ·cases h1
 ·have h2:=wi h1 i (afh.1 hd).1;unfold dq at h2;rw[aQ hd]at h2;split at h2
  ·cases h2
  ·split at h2
   ·cases h2
   ·split at h2
    ·cases h2
    ·split at h2
     ·cases h2
     ·assumption
theorem Ux{l:Li}(ae:ax l=0)(gq:bS l=0)(hd:l.drivers.length=1):0<(aC l).length:=by
 refine Nat.pos_of_ne_zero fun h0=>?_
 obtain⟨h1,h3⟩:=XC gq;have hf:b8 l=[]:=by rw[<- h3];exact afp.1 h0
 have hr:bT l=cz l.bo.length 0:=by unfold bT;rw[hf];rfl
 have hg:=mC (l:=l.drivers) (i:=0) (d:=default) oz;have hb:=dJ (qV ae hg);have hnz:=Zj ae hg
 have hk:kn (bT l) (l.drivers.getD 0 default).body=true:=by
  unfold kn;cases h9:(bT l).getD (l.drivers.getD 0 default).body.toNat false
  ·exfalso
   have hm:(((l.drivers.getD 0 default).body.toNat:Nat):Int)∈eS (bT l):=by
    unfold eS;refine aft.2 ⟨_,ae3.2 ⟨afu.2 ?_,by rw[h9];rfl⟩,rfl⟩;rw[hr,jd];omega
   rw[afp.1 h1]at hm;cases hm
  ·rfl
 rw[hr,sJ hb.1 oz oz]at hk;exact hnz (aiv hk)
theorem PR{l:Li}(ae:ax l=0)(gq:bS l=0)(hd:l.drivers.length=1):iF l (l.drivers.getD 0 default).body (aC l) (aC l).length=eY l (aC l):=by
 have aG:=Ux ae gq hd;have hg:=mC (l:=aC l) (i:=0) (d:=default) aG;obtain⟨g,eg⟩:∃g,g=(aC l).getD 0 default:=⟨_,rfl⟩
 rw[<- eg]at hg;obtain⟨ov,bc⟩:=lw ae (ahg hg)
 by_cases hk:g.kind=0
 ·obtain⟨b,z,d,j,x,rfl,t,d0,fM,hb⟩:=Ee ov hk;have pY:=(afh.1 fM).1
  have e0:(l.drivers.getD 0 default).body=b:=by
   rw[show d.toNat=0 by omega]at fM;rw[aQ fM,hb]
  have e1:fC l (aC l)=b:=by unfold fC;rw[<- eg];rfl
  rw[e0];unfold eY;rw[aix (show(aC l).length≠0/\((aC l).getD 0 default).kind=0 from⟨by omega,by rw[<- eg]⟩),agu];unfold iF iZ;rw[ags,ahs,ahs]
  have key:∀k∈List.range (aC l).length,oJ l b k ((aC l).getD k default)=qp l (fC l (aC l)) k ((aC l).getD k default):=by
   intro k uA;rw[e1];unfold oJ qp
   by_cases k0:k=0
   ·subst k0;rw [<- eg];show (!(true && !decide ((0:Int) = 0)) && _) = _;rw [aix rfl];have ha:ci l ⟨0,[b],[z],d⟩ = [eI ⟨0,[b],[z],d⟩ j]:=by show [eI _ (l.jo.getD z.toNat default)] = _; rw [aQ t.hj]
    have rA:eI ⟨0,[b],[z],d⟩ j≠b:=by
     unfold eI;rcases t.tie with⟨a1,a2⟩ |⟨a1,a2⟩
     ·rw[ait (zZ (by rw[a1];simp)),ais (by rw[pz a2];simp)];intro h9;exact a2 (by rw[h9];simp)
     ·rw[ais (by rw[pz a2];simp)];intro h9;exact a2 (by rw[h9];simp)
    rw[ha];show(true&&(mG b _&&true))=(i9 b 0 _&&true);unfold mG i9;rw[aiy rA,aix rfl];simp
   ·rw[aiy k0];show(true&&_)=_;rw[agu]
    have e9:mG b=i9 b k:=by
     funext y;unfold mG i9;rw[aiy k0,Bool.false_or]
    rw[e9]
  constructor
  ·intro h k uA;rw[<- key k uA];exact h k uA
  ·intro h k uA;rw[key k uA];exact h k uA
 ·have h1:eY l (aC l)=false:=by
   unfold eY;rw[aiy (fun h=>hk (by rw[eg];exact h.2)),agq]
  rw[h1];refine Eu (m:=1) ?_ aG;rw[xW,<- eg];unfold oJ;rw[aix (rfl:0=0),aiy hk];simp
def fX(l:Li):Nat:=if ax l≠0 then ax l else if bS l≠0 then bS l else if l.drivers.length≠1 then 7 else if eY l (aC l)=false then 15 else 0
def oQ(l:Li):List Gr:=if fX l=0 then aC l else[]
def qU(l:Li):Int:=if fX l=0 then(l.drivers.getD 0 default).body else 0
theorem Sr(l:Li)(hl:l.ok):FP 34 [l.av] (.tup [.lst 4 ((oQ l).map Gr.av),i64 (qU l),i64 (fX l)]):=by
 refine ak func34 ?_;refine gc (M7 l hl) ?_;refine gC (fun z=>?_) (fun z=>?_)
 ·have h1 : ax l ≠ 0 := by have := uQ z; omega
  have he:fX l=ax l:=by unfold fX;rw[ait h1]
  refine gR ?_;exact gP (by unfold oQ qU;rw[ais oz,ais oz,he];exact Sub.tup (.cons (.nil _ _ _) (.cons (.refl _) (.cons (.refl _) .nil))))
 have ae:ax l=0:=by have:=uG z;omega
 refine gc (SM l hl ae) ?_;refine gC (fun z=>?_) (fun z=>?_)
 ·have h1 : bS l ≠ 0 := by have := uQ z; omega
  have he:fX l=bS l:=by unfold fX;rw[ais oz,ait h1]
  refine gR ?_;exact gP (by unfold oQ qU;rw[ais oz,ais oz,he];exact Sub.tup (.cons (.nil _ _ _) (.cons (.refl _) (.cons (.refl _) .nil))))
 have gq:bS l=0:=by have:=uG z;omega
 have ux:=hl.ld;refine gl ?_;refine gC (fun z=>?_) (fun z=>?_)
 ·have h3 : l.drivers.length ≠ 1 := by have := uQ z; omega
  have he:fX l=7:=by unfold fX;rw[ais oz,ais oz,ait h3]
  refine gR ?_;exact gP (by unfold oQ qU;rw[ais oz,ais oz,he];exact Sub.tup (.cons (.nil _ _ _) (.cons (.refl _) (.cons (.refl _) .nil))))
 have h3:l.drivers.length=1:=by have:=uG z;omega
 have hrs:=PR ae gq h3;have Pi:=yE ae
 have Bl:iF l (l.drivers.getD 0 default).body (aC l) (aC l).length=false->fX l=15:=fun h=>by
  unfold fX;rw[ais oz,ais oz,ais oz,ait (by rw[<- hrs];exact h)]
 have Gq:iF l (l.drivers.getD 0 default).body (aC l) (aC l).length=true->fX l=0:=fun h=>by
  unfold fX;rw[ais oz,ais oz,ais oz,ais (by rw[<- hrs,h];decide)]
 obtain⟨dv,mW⟩:∃dv,dv=(l.drivers.getD 0 default).body:=⟨_,rfl⟩
 rw[<- mW]at Bl Gq;obtain⟨G,hG⟩:∃G,G=aC l:=⟨_,rfl⟩
 have hGo:∀g∈G,GrOk l g:=fun g hg=>(lw ae (hG▸hg)).2
 rw[<- hG]at Bl Gq Pi ⊢;refine gi (ay (mC (l:=l.drivers) (i:=0) (d:=default) oz)) ?_ (10,0);refine gW (Wk.of (sl:=[pP 1 (.ptr 1 0),pP 6 (.lst 4 (G.map Gr.av)),pP 8 (i64 dv)]) (hp:=[pP 1 (.box l.av.cells)]) (.k (.k (.cons rfl (.of (by rw[mW])) .nil))) (.k .nil)) ?_;refine gl ?_;refine aL [1,6,8,37,38] [1] (fun(k:Nat)=>[pP 39 (i64 k)]) (fun _=>[]) (fun k=>k<=G.length/\iF l dv G k=true) (fun k=>G.length-k) 0 ⟨ahv _,rfl⟩ ?_;rintro k ⟨hk,xO⟩ K1 J1;refine gC (fun z=>?_) (fun z=>?_)
 ·have af:=aK z;have hg:=mC (l:=G) (i:=k) (d:=default) af;obtain⟨g,eg⟩:∃g,g=G.getD k default:=⟨_,rfl⟩
  rw[<- eg]at hg;have jp:=hGo g (ahg hg);have hgj:=jp.lj;refine gi (ay hg) ?_;refine gC (fun z=>?_) (fun z=>?_)
  ·have h5 : (decide (k = 0) && !decide (g.kind = 0)) = true := by rw [<- Lq]; exact z
   have h6:iF l dv G (k+1)=false:=by rw[xW,<- eg];unfold oJ;rw[h5];simp
   have he:=Bl (Eu h6 af);refine gR ?_;exact gP (by unfold oQ qU;rw[ais oz,ais oz,he];exact Sub.tup (.cons (.nil _ _ _) (.cons (.refl _) (.cons (.refl _) .nil))))
  have h5:(decide (k=0)&&!decide (g.kind=0))=false:=by rw[<- Lq];exact z
  refine gc (W3 l hl g jp) ?_;refine gl ?_;refine aL [1,6,8,37,38,39,57,58] [1] (fun(q:Nat)=>[pP 59 (i64 q)]) (fun _=>[]) (fun q=>q<=(ci l g).length/\((ci l g).take q).all (mG dv)=true) (fun q=>(ci l g).length-q) 0 ⟨ahv _,rfl⟩ ?_;rintro q ⟨hq,oe⟩ K2 J2;refine gC (fun z=>?_) (fun z=>?_)
  ·have bC:=aK z;obtain⟨b,hb⟩:=aB bC;refine gi (ay hb) ?_;refine gC (fun z=>?_) (fun z=>?_)
   ·have h7 : mG dv b = false := by rw [KJ] at z; simpa using z
    have h6:iF l dv G (k+1)=false:=by rw[xW,<- eg];unfold oJ;rw[Iw hb h7,agp,agp]
    have he:=Bl (Eu h6 af);refine gR ?_;exact gP (by unfold oQ qU;rw[ais oz,ais oz,he];exact Sub.tup (.cons (.nil _ _ _) (.cons (.refl _) (.cons (.refl _) .nil))))
   have h7:mG dv b=true:=by rw[KJ]at z;simpa using z
   refine ga (zT (by unfold az;have:=pv l g;omega)) ?_;exact aE J2 (q+1) ⟨bC,tp oe hb h7⟩
  have bC:=aW hq z;refine ga aF ?_;exact aE J1 (k+1) ⟨af,by rw[xW,xO,<- eg,agu];unfold oJ;rw[h5,ss bC oe];rfl⟩
 have af:=aW hk z;subst af;have he:=Gq xO;refine lM ?_;unfold oQ qU;rw[ait he,ait he,he,<- hG,<- mW];rfl
theorem TS{l:Li}(h:fX l≠0):dB l=fX l:=by
 unfold fX at h ⊢;unfold dB;split
 ·rfl
 ·split
  ·rfl
  ·split
   ·rfl
   ·split
    ·rfl
    ·rename_i h1 h2 h3 h4;rw[ais h1,ais h2,ais h3,ais h4]at h;exact aiz rfl h
structure SmP(l:Li):Prop where
  li:ax l=0
  sp:bS l=0
  dr:l.drivers.length=1
  si:eY l (aC l)=true
theorem Sw{l:Li}(h:fX l=0):SmP l:=by
 unfold fX at h;split at h
 ·omega
 ·split at h
  ·omega
  ·split at h
   ·omega
   ·split at h
    ·omega
    ·rename_i h1 h2 h3 h4;exact⟨by omega,by omega,by omega,by simpa using h4⟩
theorem Od(l:Li)(hl:l.ok):FP 9 [l.av] (.tup [.lst 1 ((dX l).map nA),.lst 1 ((dR l).map i64),i64 (dB l)]):=by
 refine ak func9 ?_;refine gc (Sr l hl) ?_;refine gC (fun u=>?_) (fun u=>?_)
 ·have h1 : fX l ≠ 0 := by have := uQ u; omega
  have he:=TS h1;refine gR ?_;exact gP (by unfold dX dR;rw[ais oz,ais oz,he];exact Sub.tup (.cons (.nil _ _ _) (.cons (.nil _ _ _) (.cons (.refl _) .nil))))
 have h1:fX l=0:=by have:=uG u;omega
 obtain⟨ae,gq,h3,h4⟩:=Sw h1;have eG:oQ l=aC l:=ait h1;rw[eG];obtain⟨G,hG⟩:∃G,G=aC l:=⟨_,rfl⟩
 have Gm:G.length<=100:=by have:=yE ae;rw[hG];omega
 rw[<- hG];have hS:=x3 ae h3 h4;have aG:0<G.length:=by rw[hG];exact hS.ne
 obtain⟨T,hT⟩:∃T,T=G.tail:=⟨_,rfl⟩
 have hTl:T.length<=100:=by rw[hT,aet];omega
 obtain⟨j,hj⟩:∃j,j=l9 l G:=⟨_,rfl⟩
 have iU:Pj l G j (fC l G):=by rw[hj,hG];exact hS.pj
 have Gn:∀(i:Nat)(x:Gr),T[i]?=some x->Lg l (fC l G) x:=fun i x hx=>by
  rw[hG];refine Dz ae gq h3 h4 (k:=i) ?_;rw[<- hG];rw[hT,afx]at hx;exact hx
 obtain⟨g0,z,n8,hz,aX,co,oq⟩:=iU.ex;have oo:=hl.lj;refine gi (ay n8) ?_;refine gi (ay hz) ?_;refine gi (fI (n:=z.toNat) oz oq) ?_;refine gD ?_ (7,2);refine gs ((eF (l:=1) (es:=G.map Gr.av) (.tmp rfl) (.some _ (.const _) oz) (.none _) T53 rfl T104 rfl (by rw[ahk];omega) (ahr _) rfl)) ?_;refine ge rfl ?_;refine gW (Wk.of (sl:=[pP 1 (.ptr 1 0),pP 8 (.ptr 8 0),pP 9 (nS),pP 10 (nS),pP 36 (.lst 4 (T.map Gr.av)),pP 37 (i64 T.length),pP 38 (i64 0)]) (hp:=[pP 1 (.box l.av.cells),pP 8 (.box j.av.cells)]) (.k (.k (.k (.k (.cons rfl (.of (by rw[hT,<- List.drop_one,afk,ah1 (by rw[afi];omega)])) (.cons rfl (Sub.int (by have h8:T.length=G.length-1:=(by rw[hT,aet]);rw[h8,ah5,afi,ahk,Nat.min_self])) (.k .nil))))))) (.k (.k .nil))) ?_ (99999,0)
 refine gW (Wk.virt 900 1 rfl) ?_ (99999,0);refine gW (Wk.virt 901 1 rfl) ?_;refine aL [1,8,36,37] [1,8] (fun(i:Nat)=>[pP 9 (.ms 900 1 0 i),pP 10 (.ms 901 1 0 i),pP 38 (i64 i)]) (fun i=>[pP 900 (.row 1 (((T.take i).map (ep l j)).map nA)),pP 901 (.row 1 (((T.take i).map gj).map i64))]) (fun i=>i<=T.length/\∀x∈T.take i,gz l j x=0) (fun i=>T.length-i) 0 ⟨ahv _,fun x hx=>by simp at hx⟩ ?_ (h1:=(.cons rfl (Sub.nM _ _ _) (.cons rfl (Sub.nM _ _ _) (.k .nil))))
 rintro i ⟨hi,bc⟩ K1 J1;refine gC (fun u=>?_) (fun u=>?_) (st2:=(15,0))
 ·have af:=aK u;obtain ⟨x,hx⟩:=aB af;have Gp:x ∈ (aC l).tail:=by rw [<- hG,<- hT]; exact ahg hx
  refine gi (ay hx) ?_;refine gc (SC l hl ae iU (Gn i x hx)) ?_;refine gC (fun u=>?_) (fun u=>?_)
  ·have h5 : gz l j x ≠ 0 := by simpa using u
   have he:=EK ae gq h3 h4 Gp (by rw[<- hG,<- hj];exact h5);refine gR ?_;exact gP (by unfold dX dR;rw[he];exact Sub.tup (.cons (.nil _ _ _) (.cons (.nil _ _ _) (.cons (.refl _) .nil))))
  have h5:gz l j x=0:=by simpa using u
  refine gs (eD (.tmp rfl) rfl (by rw[ahk,ahk,ah5];omega) (.tmp rfl) T29 rfl T41 rfl rfl (by simp only[ahx,ah9];omega) rfl rfl) ?_;refine gs (eD (.tmp rfl) rfl (by rw[ahk,ahk,ah5];omega) (.tmp rfl) T30 rfl T3 rfl rfl (by simp only[ahx,ah9];omega) rfl rfl) ?_ (14,0);refine gW (Wk.of (sl:=[pP 1 (.ptr 1 0),pP 8 (.ptr 8 0),pP 9 (.ms 55 1 0 (i+1)),pP 10 (.ms 59 1 0 (i+1)),pP 36 (.lst 4 (T.map Gr.av)),pP 37 (i64 T.length),pP 38 (i64 i)]) (hp:=[pP 1 (.box l.av.cells),pP 8 (.box j.av.cells),pP 55 (.row 1 (((T.take (i+1)).map (ep l j)).map nA)),pP 59 (.row 1 (((T.take (i+1)).map gj).map i64))]) aY (.k (.k (.cons rfl (.of (by rw[yt _ hx,aih];rfl)) (.cons rfl (.of (by rw[yt _ hx,aih];rfl)) .nil))))) ?_ (14,0)
  refine gW (Wk.rk (k:=55) (d:=900) rfl rfl) ?_ (14,0);refine gW (Wk.rk (k:=59) (d:=901) rfl rfl) ?_;refine ga aF ?_;exact aE J1 (i+1) ⟨af,fun y hy=>by rw[gB hx]at hy;rcases ahn.1 hy with h9 |h9;exact bc y h9;rw[ae4.1 h9];exact h5⟩
 have af:=aW hi u;subst af;have he:=G0 ae gq h3 h4 (by rw[<- hG,<- hT,<- hj,<- ahw (l:=T)];exact bc);have eP:dX l=T.map (ep l j):=by unfold dX;rw[ait he,<- hG,<- hT,<- hj]
 have eN:dR l=T.map gj:=by unfold dR;rw[ait he,<- hG,<- hT]
 refine gW ((Wk.freeze (k:=900) rfl).trans<|(Wk.freeze (k:=901) rfl).trans<|Wk.of (sl:=[pP 9 (.lst 1 ((T.map (ep l j)).map nA)),pP 10 (.lst 1 ((T.map gj).map i64))]) (hp:=[]) (.cons rfl (.of (by rw[cf (by rw[ahk,ahk,ah5];omega),ahw];rfl)) (.cons rfl (.of (by show AV.fz 901 1 _ (.ms 901 1 0 T.length)=_;rw[cf (by rw[ahk,ahk,ah5];omega),ahw])) .nil)) .nil) ?_;refine lM ?_;rw[eP,eN,he];rfl
theorem Ls(a:List Nat)(ha:a.length<=281474976710656):FP 202 [ws a,ws a] (bl true):=by
 refine ak func202 ?_;refine gl ?_;refine gl ?_;refine gC (fun z=>?_) (fun z=>?_) (st1:=(2,0));exact aiz z (by simp[aa]);refine aL [0,1] [] (fun(i:Nat)=>[pP 5 (i64 i)]) (fun _=>[]) (fun i=>i<=a.length) (fun i=>a.length-i) 0 (ahv _) ?_;rintro i hi K1 J1;refine gl ?_;refine gC (fun z=>?_) (fun z=>?_)
 ·have af:=aK z;obtain⟨x,hx⟩:=aB af;refine gi (ay hx) ?_;refine gi (ay hx) ?_;refine gD ?_;refine gC (fun z=>?_) (fun z=>?_) (st1:=(7,0));exact aiz z (by simp[aa]);refine ga aF ?_;exact aE J1 (i+1) af
 refine ah ?_;rfl
theorem UA(a b:List Int)(ha:a.length<=281474976710656)(hb:b.length<=281474976710656):FP 11 [.lst 1 (a.map i64),.lst 1 (b.map i64)] (bl (decide (a=b))):=by
 refine ak func11 ?_;refine gl ?_;refine gl ?_;refine gC (fun z=>?_) (fun z=>?_)
 ·have h1:=Tk z;refine ah ?_;rw[aiy (fun e=>h1 (by rw[e]))];rfl
 have h1:=RF z;refine aL [0,1] [] (fun(i:Nat)=>[pP 5 (i64 i)]) (fun _=>[]) (fun i=>i<=a.length/\a.take i=b.take i) (fun i=>a.length-i) 0 ⟨ahv _,rfl⟩ ?_;rintro i ⟨hi,hz⟩ K1 J1;refine gl ?_;refine gC (fun z=>?_) (fun z=>?_)
 ·have af:=aK z;obtain⟨x,hx⟩:=aB af;obtain⟨y,hy⟩:=aB (l:=b) (i:=i) oz;refine gi (ay hx) ?_;refine gi (ay hy) ?_;refine gD ?_;refine gC (fun z=>?_) (fun z=>?_)
  ·have h2 : x ≠ y := by simpa [aa] using z
   refine ah ?_;rw[aiy (fun e=>h2 (by rw[e,hy]at hx;cases hx;rfl))];rfl
  have h2:x=y:=by simpa[aa]using z
  have h3:a.take (i+1)=b.take (i+1):=by rw[gB hx,gB hy,hz,h2]
  refine ga aF ?_;exact aE J1 (i+1) ⟨af,h3⟩
 have af:=aW hi z;have h4:a=b:=by rw[af,ahw,h1,ahw]at hz;exact hz
 refine ah ?_;rw[aix h4];rfl
theorem TO(a:List Int)(ha:a.length<=281474976710656):FP 11 [.lst 1 (a.map i64),.lst 1 (a.map i64)] (bl true):=by
 have h:=UA a a ha ha;rw[aix rfl]at h;exact h
theorem VW(x:Rt)(hx:x.ok):FP 103 [x.av,x.av] (bl true):=by
 have h1:x.num.length<=281474976710656:=by have:=hx.2.2.1;unfold fy at this;omega
 have h2:x.den.length<=281474976710656:=by have:=hx.2.2.2;unfold fy at this;omega
 refine ak func103 ?_;refine bJ (fun _=>(Ls x.num h1)) ?_;refine bJ (fun h=>(Ls x.den h2)) ?_;refine ah ?_;simp;rfl
theorem Y2{e:Nat}{q:Rat}(h:Qb e q)(he:e<=1000000000000):FP 103 [qA q,qA q] (bl true):=VW (rt q) (h.qs oz).ok
theorem Ub{e:Nat}{p:List Rat}(h:Pb e p)(he:e<=1000000000000)(hl:p.length<=1000):FP 36 [nA p,nA p] (bl true):=by
 refine ak func36 ?_;refine gl ?_;refine gl ?_;refine gC (fun z=>?_) (fun z=>?_) (st1:=(2,0));exact aiz z (by simp[aa]);refine aL [0,1] [] (fun(i:Nat)=>[pP 5 (i64 i)]) (fun _=>[]) (fun i=>i<=p.length) (fun i=>p.length-i) 0 (ahv _) ?_;rintro i hi K1 J1;refine gl ?_;refine gC (fun z=>?_) (fun z=>?_)
 ·have af:=aK z;obtain⟨x,hx⟩:=aB af;refine gi (ay hx) ?_;refine gi (ay hx) ?_;refine gc (Y2 (h x (ahg hx)) he) ?_;refine gD ?_;refine gf ?_;refine ga aF ?_;exact aE J1 (i+1) af
 refine ah ?_
 first |rfl |(simp;done)
theorem TT{e:Nat}{p:List Rat}(h:Pb e p)(he:e<=1000000000000)(hl:p.length<=1000):FP 12 [nA p,nA p] (bl true):=by
 refine ak func12 ?_;refine gc (Ub h he hl) ?_;refine ah ?_
 first |rfl |(simp;done)
def nh(r:Rt)(n d:Nat):Bool :=
  cond (cond (cond (aa .lss (r.num.length:Int) 2) (aa .lss (r.den.length:Int) 2) false) (cond (aa .eql (r.num.length:Int) 0) true (aa .leq (aj r.num 0:Int) (n:Int))) false)
    (cond (aa .eql (r.den.length:Int) 0) true (aa .leq (aj r.den 0:Int) (d:Int))) false
theorem Gv{r:Rt}{n d:Nat}(h:nh r n d=true):r.num.length<=1/\r.den.length<=1:=by
 unfold nh at h;cases h1:aa .lss (r.num.length:Int) 2
 ·rw[h1]at h;cases h
 ·cases h2:aa .lss (r.den.length:Int) 2
  ·rw[h1,h2]at h;cases h
  ·have a:=aK (b:=2) h1;have b:=aK (b:=2) h2;exact⟨by omega,by omega⟩
theorem Ad(r:Rt)(n d:Nat)(hn:n<4294967296)(hd:d<4294967296):FP 25 [r.av,u32 n,u32 d] (bl (nh r n d)):=by
 refine ak func25 ?_;refine gl ?_;refine cm ?_;refine cm ?_;refine mh (fun⟨h,h2⟩=>(bP (by have:=dC h2;have e:Int.toNat 0=0:=rfl;omega))) ?_;refine cm ?_;refine mh (fun⟨h,h2⟩=>(bP (by have:=dC h2;have e:Int.toNat 0=0:=rfl;omega))) ?_;refine ah ?_
 first |rfl |(simp;done)
def sT(m:Mk):Bool:=!(cond (!nh m.x 60 5) true (!nh m.y 60 5))
def yX(l:Li):Bool:=l.bo.all (fun b=>b.pts.all sT)
def tf(m:Mk):Bool:=!(cond (cond (aa .gtr (m.name.size:Int) 100) true (!nh m.x 200 13)) true (!nh m.y 200 13))
def Az(b:Bd):Bool:=cond (aa .gtr (b.pts.length:Int) 10) true (aa .gtr (b.name.size:Int) 100)
def mD(b:Bd):Bool:=!Az b&&b.pts.all tf
def vY(l:Li):Bool:=cond (cond (aa .gtr (l.bo.length:Int) 6) true (aa .gtr (l.jo.length:Int) 9)) true (aa .gtr (l.drivers.length:Int) 4)
def tj(xs:List Int):Nat->Int
  |0=>0
  |n+1=>tj xs n+xs.getD n 0
def Hr(l:Li):Bool:=cond (cond (aa .neq (dB l:Int) 0) true (aa .lss ((dX l).length:Int) 2)) true (cond (cond (aa .eql ((dX l).length:Int) 2) (aa .leq (tj (dR l) (dR l).length) 6) false) (yX l) false)
def mv(l:Li):Bool:=!vY l&&(l.bo.all mD&&(if ax l=0 then Hr l else true))
theorem UK{m:Mk}(h:tf m=true):m.x.num.length<=1/\m.x.den.length<=1/\m.y.num.length<=1/\m.y.den.length<=1:=by
 unfold tf at h;have h:=dS h;cases h1:nh m.x 200 13
 ·rw[h1]at h;revert h;cases aa .gtr (m.name.size:Int) 100 <;> exact fun h=>by cases h
 ·cases h2:nh m.y 200 13
  ·rw[h1,h2]at h;revert h;cases aa .gtr (m.name.size:Int) 100 <;> exact fun h=>by cases h
  ·have a:=Gv h1;have b:=Gv h2;exact⟨a.1,a.2,b.1,b.2⟩
theorem J8{l:Li}(hw:l.okw)(h1:vY l=false)(h2:l.bo.all mD=true):l.ok:=by
 refine C2 ?_ hw;unfold Ea;unfold vY at h1;rw[ahs]at h2
 have hb:l.bo.all Ay=true:=by
  rw[ahs];intro b hb;have h3:=h2 b hb;unfold mD at h3;rw[ahj]at h3;have h4:=dS h3.1;unfold Az at h4
  have h5:b.pts.length<=10:=by
   cases h9:aa .gtr (b.pts.length:Int) 10
   ·exact jU (b:=10) h9
   ·rw[h9]at h4;cases h4
  unfold Ay;rw[aix oz,agu,ahs];intro m hm;have h6:=UK (ahs.1 h3.2 m hm);unfold z3;exact aix ⟨by omega,by omega,by omega,by omega⟩
 rw[hb,agu];cases h3:aa .gtr (l.bo.length:Int) 6
 ·cases h4:aa .gtr (l.jo.length:Int) 9
  ·cases h5:aa .gtr (l.drivers.length:Int) 4
   ·have a:=jU (b:=6) h3;have b:=jU (b:=9) h4;have c:=jU (b:=4) h5;exact aix ⟨by omega,by omega,by omega⟩
   ·rw[h3,h4,h5]at h1;cases h1
  ·rw[h3,h4]at h1;cases h1
 ·rw[h3]at h1;cases h1
theorem Qc{l:Li}:∀x∈dR l,0<=x/\x<=4:=by
 intro x hx;unfold dR at hx;split at hx
 ·obtain⟨g,_,rfl⟩:=aft.1 hx;unfold gj;split
  ·omega
  ·split <;> omega
 ·cases hx
theorem I5(l:Li):(dX l).length<=8/\(dR l).length=(dX l).length:=by
 unfold dX dR;split
 ·rename_i h;have h1:=yE (JP h).li;rw[ahk,ahk,aet];exact⟨by omega,rfl⟩
 ·exact⟨ahv _,rfl⟩
theorem V0{xs:List Int}{i:Nat}{x:Int}(h:xs[i]?=some x):tj xs (i+1)=tj xs i+x:=by
 show tj xs i+xs.getD i 0=_;rw[aQ h]
theorem Wb(l:Li)(hl:l.ok):FP 27 [l.av] (bl (yX l)):=by
 have fK:=hl.lb;refine ak func27 ?_;refine gl ?_;refine aL [1,8,9] [1] (fun(i:Nat)=>[pP 10 (i64 i)]) (fun _=>[]) (fun i=>i<=l.bo.length/\(l.bo.take i).all (fun b=>b.pts.all sT)=true) (fun i=>l.bo.length-i) 0 ⟨ahv _,rfl⟩ ?_;rintro i ⟨xI,p5⟩ K1 J1;refine gC (fun z=>?_) (fun z=>?_)
 ·have af:=aK z;obtain⟨b,hb⟩:=aB af;have xr:=(hl.bo b (ahg hb)).ll;refine gi (ay hb) ?_;refine gl ?_;refine aL [1,8,9,10,15,16] [1] (fun(k:Nat)=>[pP 17 (i64 k)]) (fun _=>[]) (fun k=>k<=b.pts.length/\(b.pts.take k).all sT=true) (fun k=>b.pts.length-k) 0 ⟨ahv _,rfl⟩ ?_;rintro k ⟨hk,gU⟩ K2 J2;refine gC (fun z=>?_) (fun z=>?_)
  ·have aT:=aK z;obtain⟨p,hp⟩:=aB aT;refine gi (ay hp) ?_;refine gc (Ad p.x 60 5 oz oz) ?_;refine bJ (fun _=>(Ad p.y 60 5 oz oz)) ?_;refine gC (fun z=>?_) (fun z=>?_)
   ·have h1:sT p=false:=ai0 Bool.not z;refine ah ?_;unfold yX;rw[wz hb (wz hp h1)];rfl
   have h1:sT p=true:=ai0 Bool.not z;refine ga aF ?_;exact aE J2 (k+1) ⟨aT,tp gU hp h1⟩
  have hP:b.pts.all sT=true:=ss (aW hk z) gU;refine ga aF ?_;exact aE J1 (i+1) ⟨af,tp p5 hb hP⟩
 have hL:yX l=true:=ss (aW xI z) p5;refine ah ?_;rw[hL];rfl
theorem ab6(l:Li)(hw:l.okw):FP 6 [l.av] (bl (mv l)):=by
 refine ak func6 ?_;refine gl ?_;refine cm ?_;refine cm ?_;refine gC (fun z=>?_) (fun z=>?_)
 ·have h1:vY l=true:=z;refine ah ?_;unfold mv;rw[h1];rfl
 have h1:vY l=false:=z;have fK:=hw.lb;refine gl ?_;refine aL [1,30,31] [1] (fun(i:Nat)=>[pP 32 (i64 i)]) (fun _=>[]) (fun i=>i<=l.bo.length/\(l.bo.take i).all mD=true) (fun i=>l.bo.length-i) 0 ⟨ahv _,rfl⟩ ?_;rintro i ⟨xI,p5⟩ K1 J1;refine gC (fun z=>?_) (fun z=>?_)
 ·have af:=aK z;obtain⟨b,hb⟩:=aB af;have xr:=(hw.pts b (ahg hb)).2.1;refine gi (ay hb) ?_;refine gl ?_;refine gC (fun z=>?_) (fun z=>?_)
  ·have h2 : mD b = false := by unfold mD; rw [show Az b = true from z]; rfl
   refine ah ?_;unfold mv;rw[wz hb h2,agq,agp];rfl
  have h2:Az b=false:=z;refine gl ?_;refine aL [1,30,31,32,47,48] [1] (fun(k:Nat)=>[pP 49 (i64 k)]) (fun _=>[]) (fun k=>k<=b.pts.length/\(b.pts.take k).all tf=true) (fun k=>b.pts.length-k) 0 ⟨ahv _,rfl⟩ ?_;rintro k ⟨hk,gU⟩ K2 J2;refine gC (fun z=>?_) (fun z=>?_)
  ·have aT:=aK z;obtain⟨p,hp⟩:=aB aT;refine gi (ay hp) ?_;refine bJ (fun _=>(Ad p.x 200 13 oz oz)) ?_;refine bJ (fun _=>(Ad p.y 200 13 oz oz)) ?_;refine gC (fun z=>?_) (fun z=>?_)
   ·have h3:tf p=false:=ai0 Bool.not z;refine ah ?_;unfold mv;rw[wz hb (by unfold mD;rw[wz hp h3,agp]),agq,agp];rfl
   have h3:tf p=true:=ai0 Bool.not z;refine ga aF ?_;exact aE J2 (k+1) ⟨aT,tp gU hp h3⟩
  have hP:mD b=true:=by unfold mD;rw[h2,ss (aW hk z) gU];rfl
  refine ga aF ?_;exact aE J1 (i+1) ⟨af,tp p5 hb hP⟩
 have hL:l.bo.all mD=true:=ss (aW xI z) p5;have hl:=J8 hw h1 hL;refine gc (M7 l hl) ?_;refine gC (fun z=>?_) (fun z=>?_)
 ·have h4:=wa z;refine ah ?_;unfold mv;rw[h1,hL,ais h4];rfl
 have h4:=wh z;obtain⟨e1,e2⟩:=I5 l;refine gc (Od l hl) ?_;refine gl ?_;refine fH [1,7,9,80,81] [1] (fun(i:Nat)(s:Int)=>[pP 10 (i64 s),pP 82 (i64 i)]) (fun _ _=>[]) (fun i s=>i<=(dR l).length/\s=tj (dR l) i/\0<=s/\s<=4*i) (fun i _=>(dR l).length-i) 0 0 ⟨ahv _,rfl,by omega,by omega⟩ ?_;rintro i s ⟨hi,hs,kV,hs4⟩ K3 J3;refine gC (fun z=>?_) (fun z=>?_)
 ·have af:=aK z;obtain⟨x,hx⟩:=aB af;have hx4:=Qc x (ahg hx);refine gi (ay hx) ?_;refine ga (cO oz) ?_;refine ga aF ?_;exact fE J3 (i+1) (s+x) ⟨af,by rw[V0 hx,hs],by omega,by omega⟩
 have af:=aW hi z;subst af;refine cm ?_;refine cm ?_;refine bJ (fun _=>(Wb l hl)) ?_;refine ah ?_;unfold mv Hr;rw[h1,hL,ait h4,hs];rfl
theorem Qb.m1:Qb 1 (-1:Rat):=⟨by decide,by decide⟩
theorem Yl{l:Li}{G:List Gr}(hl:l.ok)(ae:ax l=0){j:Jt}{dv:Int}(hp:Pj l G j dv){x:Gr}(hx:Lg l dv x):Plm 9 20000000 (ep l j x):=by
 obtain⟨i,z0,j0,hi,aX,t0⟩:=EB hx.dy hx.nd;have F0:=sQ hx ae rfl t0 (ahg aX);have n0:=F0.n hp hl ae;obtain⟨o1,o2⟩:=nN ae t0.hj (qP t0);have m0:=cu hl ae o1 o2;have hW:=oH;have h1:Qb 1 (((1:Int):Rat)):=Qb.one
 by_cases hk:x.kind=1
 ·obtain ⟨k, z1, z2, j1, j2, P⟩:=DH hx.dy hk hi aX t0.hj;rw [P.eE];have F1:=sQ hx ae rfl P.t1 (ahg P.y1);have n1:=F1.n hp hl ae;obtain ⟨o3,o4⟩:=nN ae P.t1.hj (qP P.t1);have m1:=cu hl ae o3 o4;obtain ⟨o5,o6⟩:=nN ae P.h2 (b:=i) (by rcases P.ti with h9 | h9; exact .inl h9.1; exact .inr h9.1);have m2:=cu hl ae o5 o6
  have o7:aV (cc j2 i) (bV l k).length=true:=by
   obtain⟨i1,i2,i3,i4,_⟩:=d8 ae P.h2;have aG:=P.ne;unfold cc;rcases P.ti with⟨h8,h9⟩ |⟨h8,h9⟩
   ·rw[ait h8,<- h9];exact i4
   ·rw[ais (fun h=>aG (h.symm.trans h9)),<- h9];exact i3
  have m3:=cu hl ae o3 o7;have qr:=jg (m2.sub m0);have qs:=jg (m3.sub m1);have nd:=kE n1 n0;have ng:=(lh nd nd).1.dvQ;have b1:=(fc 3).add hW (qr.sub qs);have nr:=(b1.add ng h1).mono (m:=5) (f:=600000) oz oz;have nm:=(ng.mul hW).mono (m:=7) (f:=3000000) oz oz;have nf:=((fc 7).add nm (qL.mul qr)).mono (m:=7) (f:=3100000) oz oz;have nq:=(nr.mul nr).mono (m:=9) (f:=6100000) oz oz;exact(nf.add nq Qb.m1).mono oz oz
 ·by_cases cC:x.kind=2
  ·obtain ⟨z1, j1, P, ha, eE, eX, eN⟩:=C6 hx.dy cC hi aX t0.hj;rw [eE];obtain ⟨i1,i2,i3,i4,i5⟩:=d8 ae P.t1.hj;have i5:=i5 (by rw [P.t1.kd]; decide);have xM:=(hx.an z1 (ahg P.y1) j1 P.t1.hj).2;have F1:Fd l dv j1.b j1.on:=⟨i2,i4,xM (by rcases P.t1.tie with h9 | h9; exact h9.2; exact aiz (ha ▸ ahg hi) h9.2)⟩
   have F2:Fd l dv j1.b j1.to:=⟨i2,i5,F1.hd⟩
   have n1:=F1.n hp hl ae;have n2:=F2.n hp hl ae;have m1:=cu hl ae i2 i4;have m2:=cu hl ae i2 i5;rw[ha]at i1 i3;have m3:=cu hl ae i1 i3;have qm:=jg (m2.sub m1);have qr:=jg (m3.sub m0);have na:=kE n2 n1;have nb:=kE n0 n1;have ng:=(lh na nb).2.dvQ;have nf:=(fc 5).add (hW.mul hW) (qm.mul qr);exact(nf.add (ng.mul ng) Qb.m1).mono oz oz
  ·obtain ⟨z1, j1, P, ha, eE, eX, eN⟩:=BU hx.dy hx.nd hk cC hi aX t0.hj;rw [eE];obtain ⟨i1,i2,i3,i4,i5⟩:=d8 ae P.t1.hj;have i5:=i5 (by rw [P.t1.kd]; decide);have xN:=(hx.an z1 (ahg P.y1) j1 P.t1.hj).1;have hb:j1.b = i:=by rcases P.t1.tie with h9 | h9; exact aiz h9.1 ha; exact h9.1
   have F1:Fd l dv j1.a j1.point:=⟨i1,i3,xN (by rcases P.t1.tie with h9 |h9;exact aiz h9.1 ha;exact h9.2)⟩
   have n1:=F1.n hp hl ae;rw[hb]at i2 i4 i5;have m1:=cu hl ae i2 i4;have m2:=cu hl ae i2 i5;have vv:Sm 2001 (lK l i j1):=m2.sub m1;have vu:Sm 2001 (Ap l i j0 j1):=m1.sub m0;have qv:=jg vv;have qh:=vv.cross vu;have nd:=kE n1 n0;have ng:=(lh nd nd).1.dvQ;have na:=(fc 5).add ng qv;have nb:=(fc 3).add hW (qh.mul qh);exact(na.add nb Qb.m1).mono oz oz
theorem WD{l:Li}(hl:l.ok){p:List Rat}(h:p∈dX l):Po 20000000 p:=by
 unfold dX at h;split at h
 ·rename_i he;have e:=JP he;obtain⟨g,hg,rfl⟩:=aft.1 h;obtain⟨k,hk⟩:=List.mem_iff_getElem?.1 hg;rw[afx]at hk;exact(Yl hl e.li (x3 e.li e.dr e.si).pj (Dz e.li e.sp e.dr e.si hk)).po oz
 ·cases h
end Go.Lw
