/- LimitsExists: for any linkage and any turn the law returns true and leaves its arguments as they were. No other condition. Part 6 of 8: what the later parts need -/
import Derived.Test.YtmencaoblogmeaaGreatYe
set_option linter.unusedVariables false
open List (map_take all_append drop_length)
open List renaming mem_of_getElem? → ah3, mem_cons_of_mem → ait, mem_append → aia, mem_cons → aiq, length_cons → aij, mem_cons_self → ai2, length_append → ai0, length_nil → aiv, getD_eq_getElem?_getD → ah4, getElem?_append_left → ais, getElem?_eq_none → aig, all_eq_true → aif, getElem?_take → ai1, getElem?_drop → ai5, getElem?_map → aib, append_assoc → ajc, getElem?_append_right → ain, getElem?_eq_getElem → ah9, getElem?_replicate → aix, map_append → ai4, length_take → air, take_of_length_le → aio, drop_zero → ai9, take_length → ail, not_mem_nil → aim, length_map → ah6, length_replicate → aiu, map_replicate → ai7, map_set → aja, length_set → aje, getElem?_toArray → afg, mem_iff_getElem → afh, append_nil → afj, getElem?_eq_some_iff → afl, getElem?_tail → afn, length_pos_iff → afq, mem_singleton → afr, range_succ → aft, mem_of_mem_drop → afu, replicate → afv, mem_range → afy, eq_of_mem_replicate → afz, mem_map → af0, foldl_cons → af1, length_eq_zero_iff → af7, contains_eq_any_beq → af9, map_drop → agc, length_drop → agd, mem_filter → agf, mem_of_mem_take → agi, length_tail → agk, size_toArray → agl
open Nat renaming le_refl → aie, lt_of_lt_of_le → aip, lt_or_ge → aid, le_trans → aiw, mul_le_mul_right → aik, zero_le → aii, blt_eq → ad5, two_pow_pos → aed, mod_lt → aeg, div_add_mod → aeh, blt → aek, add_assoc → aeo, mul_assoc → aer, div_lt_iff_lt_mul → aex, mul_comm → aey, add_mul → aez, eq_zero_or_pos → ae1, add_zero → ae4, pow_succ → ae5, pow_le_pow_right → ae6, zero_add → ae9, pow_pos → afb, min_eq_left → afc
open Option renaming map_eq_some_iff → ah8
open Bool renaming and_eq_true → ah7, not_eq_false' → ahc, and_false → ahd, false_and → ahe, eq_iff_iff → ahf, true_and → ahg, not_eq_true' → ahh
open Array renaming getElem?_eq_getElem → ahm, getElem?_extract → ahy, getElem?_toList → ahz
open Int renaming toNat_natCast → ai6
open Rat renaming mul_nonneg → ag1, pow_succ → ag5
open Go renaming Operand → ajp, Value → ajq, TypeId → ajr, Program → ajs, World → ajt
open Go.Proofs.Tryz
namespace Go.Lw
open Go.Proofs
structure Po(e:Nat)(p:List Rat):Prop where
  td:cV p
  len:p.length<=30
  b:Pb e p
theorem Po.mono{e f:Nat}{p:List Rat}(h:Po e p)(hf:e<=f):Po f p:=⟨h.td,h.len,h.b.mono hf⟩
theorem Po.qs{e:Nat}{p:List Rat}(h:Po e p)(he:e<=1000000000000){c:Rat}(hc:c∈p):Qs c:=(h.b c hc).qs oz
theorem BG:∀{p:List Rat},cV p->0<p.length->∃c,p[p.length-1]?=some c/\c≠0
 |[],_,h=>by simp at h
 |[c],hp,_=>⟨c,rfl,hp.ne rfl⟩
 |c::d::p,hp,_=>by
  obtain⟨x,hx,h0⟩:=BG hp.tail (by simp);exact⟨x,hx,h0⟩
theorem rA:∀p:List Rat,ptr p=p.take (ptr p).length
 |[]=>rfl
 |c::p=>by
  have ih:=rA p;unfold ptr;split
  ·rfl
  ·show c::ptr p=c::p.take (ptr p).length;rw[<- ih]
theorem Kk:∀{p:List Rat}{n:Nat},ptr (p.take n)=ptr p->(∃c,p[n-1]?=some c/\c≠0)->n<=p.length->0<n->n=(ptr p).length:=by
 intro p n h hc hn h0;obtain⟨c,hc,aF⟩:=hc
 have h1:cV (p.take n):=by
  have key:∀(l:List Rat)(c:Rat),l[l.length-1]?=some c->c≠0->cV l:=by
   intro l
   induction l with
   |nil=>intro c h;simp at h
   |cons d l ih =>
    intro c h aF;cases l with
    |nil =>
     simp at h;subst h;exact vN rfl (fun _=>aF)
    |cons d2 l =>
     refine vN (ih c (by simpa using h) aF) (fun e=>by cases e)
  refine key _ c ?_ aF;rw[air,afc hn,ai1,ajg oz];exact hc
 rw[h1]at h;have h2:=ajn List.length h;rw[air]at h2;omega
theorem Ch{p:List Rat}{n:Nat}(h:ptr (p.take (n+1))=ptr p)(hc:p[n]?=some 0):ptr (p.take n)=ptr p:=by
 rw[<- h];refine nV (dC _) (dC _) (fun t=>?_);rw[it,it]
 have key:∀(l:List Rat)(n:Nat),l[n]?=some 0->au (l.take n) t=au (l.take (n+1)) t:=by
  intro l
  induction l with
  |nil=>intro n h;simp at h
  |cons d l ih =>
   intro n h;cases n with
   |zero =>
    simp at h;subst h;show(0:Rat)=0+t*0;grind
   |succ n =>
    show d+t*au (l.take n) t=d+t*au (l.take (n+1)) t;rw[ih n (by simpa using h)]
 exact key p n hc
theorem AO(t:Rat)(i:Nat):∀k,t^(i+k)=t^i*t^k
 |0=>by rw[ae4,Rat.pow_zero];grind
 |k+1=>by rw[<- aeo,ag5,ag5,AO t i k];grind
theorem Xi(n:Nat):BlkSub (.row 3 (afv n (.agg [.v (.bool false),nS,nS]))) (.row 3 ((afv n (0:Rat)).map qA)):=by
 refine .row (by simp) ?_;intro i e e' he he';rw[ai7,aix]at he';rw[aix]at he;split at he
 ·rename_i h;rw[ajg h]at he';cases he;cases he'
  refine⟨rfl,?_⟩;intro j x y hx hy
  match j,hx,hy with
  |0,hx,hy=>cases hx;cases hy;exact⟨rfl,.refl _⟩
  |1,hx,hy=>cases hx;cases hy;exact⟨rfl,.nil _ _ _⟩
  |2,hx,hy=>cases hx;cases hy;exact⟨rfl,.nil _ _ _⟩
 ·cases he
theorem yL{n:Nat}{l:List Rat}(h:l=afv n 0):BlkSub (.row 3 (afv n (.agg [.v (.bool false),nS,nS]))) (.row 3 (l.map qA)):=by rw[h];exact Xi n
def jx(l:List Rat)(i:Nat):List Rat:=l.take i++afv (l.length-i) 0
theorem Rc(l:List Rat):jx l 0=afv l.length 0:=by unfold jx;simp
theorem acr{l:List Rat}{i:Nat}(h:i<=l.length):(jx l i).length=l.length:=by unfold jx;simp;omega
theorem Yj(l:List Rat):jx l l.length=l:=by unfold jx;simp
theorem Ta{l:List Rat}{i:Nat}{x:Rat}(hx:l[i]?=some x):(jx l i).set i x=jx l (i+1):=by
 have hi:=(afl.1 hx).1;unfold jx;rw[List.set_append_right _ _ (by rw[air];omega),air,afc oz,Nat.sub_self];have e:l.length-i=(l.length-(i+1))+1:=by omega
 rw[e,List.replicate_succ];show l.take i++x::afv (l.length-(i+1)) 0=_;rw[g9 hx];simp
theorem ZP{l:List Rat}{i:Nat}(h:i<l.length):(jx l i)[i]?=some 0:=by
 unfold jx;rw[ain (by rw[air];omega),air,afc oz,Nat.sub_self,aix,ajg oz]
theorem Dy{x:Rat}:aa .eql (aR x) 0=decide (x=0):=by
 have h:aa .eql (aR x) 0=decide (aR x=0):=rfl;rw[h];rcases mJ x with h |h |h
 ·rw[ajl oz,ajl (by grind)]
 ·rw[ajk h.1,ajk h.2]
 ·rw[ajl oz,ajl (by grind)]
theorem Cc{n:Nat}{x:Rat}(h:cond (aa .gtr (n:Int) 0) (aa .eql (aR x) 0) false=true):0<n/\x=0:=by
 rw[Dy]at h;cases h1:aa .gtr (n:Int) 0
 ·rw[h1]at h;cases h
 ·rw[h1]at h;exact⟨dU (b:=0) h1,aji h⟩
theorem Ia{n:Nat}{x:Rat}(h:cond (aa .gtr (n:Int) 0) (aa .eql (aR x) 0) false=false)(h0:0<n):x≠0:=by
 intro hx;rw[Dy,hx,show aa .gtr (n:Int) 0=true from ajk oz]at h;cases h
theorem N6{n:Nat}{x:Rat}(h0:0<n->x≠0)(h:cond (aa .gtr (n:Int) 0) (aa .eql (aR x) 0) false=true):False:=by
 obtain⟨h1,h2⟩:=Cc h;exact h0 h1 h2
theorem mi{e:Nat}{p:List Rat}(hp:Po e p)(he:e<=1000000000000):FP 70 [nA p] (db 0):=by
 have iU:=hp.len;have Be:=BG hp.td;refine ak func70 ?_;refine gl ?_;refine gC (fun y=>?_) (fun y=>?_) (st1:=(2,0));exact ajm (dU (b:=65) y) oz;refine gl ?_;refine aK [0,9,10] [] (fun(i:Nat)=>[pP 11 (i64 i)]) (fun _=>[]) (fun i=>i<=p.length) (fun i=>p.length-i) 0 (aii _) ?_;rintro i hi K1 J1;refine gC (fun y=>?_) (fun y=>?_)
 ·have ae:=aI y;obtain⟨q,hq⟩:=aB ae;have hv:=uo (rt q) (hp.qs he (ah3 hq)).ok;rw[ye]at hv;refine gi (ay hq) ?_;refine gc hv ?_;refine gf ?_;refine ga aG ?_;exact aE J1 (i+1) ae
 obtain⟨z,hz⟩:∃z,0<p.length->p[p.length-1]?=some z/\z≠0:=by
  by_cases h:0<p.length
  ·obtain⟨z,h1⟩:=Be h;exact⟨z,fun _=>h1⟩
  ·exact⟨0,fun h1=>ajm h1 h⟩
 refine gl ?_;refine cq ?_;refine kG (fun h=>(gx (by have:=dU (b:=0) h;omega) (by unfold az;omega))) ?_;refine mS (fun h=>(ay (hz (dU (b:=0) h)).1)) ?_;refine bP (fun h=>(qR (hp.qs he (ah3 (hz (dU (b:=0) h)).1)))) ?_;refine gC (fun y=>?_) (fun y=>?_) (st1:=(10,0));exact(N6 (fun h=>(hz h).2) y).elim;refine ah ?_
 first |rfl |(simp;done)
theorem x8{ps:LL}(h:∀p∈ps,FP 70 [nA p] (db 0))(hl:ps.length<=1000):FP 263 [.lst 1 (ps.map nA)] (db 0):=by
 refine ak func263 ?_;refine gl ?_;refine aK [6,7] [] (fun(i:Nat)=>[pP 8 (i64 i)]) (fun _=>[]) (fun i=>i<=ps.length) (fun i=>ps.length-i) 0 (aii _) ?_;rintro i hi K1 J1;refine gC (fun z=>?_) (fun z=>?_)
 ·have ae:=aI z;obtain⟨p,hp⟩:=aB ae;refine gi (ay hp) ?_;refine gc (h p (ah3 hp)) ?_;refine gf ?_;refine ga aG ?_;exact aE J1 (i+1) ae
 refine ah ?_
 first |rfl |(simp;done)
theorem DN(d:Nat)(hd:aek d 1000=true)(p:List Rat)(hq:∀c∈p,Qs c)(hl:p.length<=1000) :
  Con prog 262 [nA p] [] (.ms d 3 0 (ptr p).length) [(d,some (.row 3 (p.map qA)))]:=by
 refine gF func262 (fun k z h=>by cases h) ?_;refine gl ?_;refine gW (Wk.virt 900 3 rfl) ?_;refine aK [6,7] [] (fun(j:Nat)=>[pP 3 (.ms 900 3 0 j),pP 8 (i64 j)]) (fun j=>[pP 900 (.row 3 ((p.take j).map qA))]) (fun j=>j<=p.length) (fun j=>p.length-j) 0 (aii _) ?_ (h1:=(.cons rfl (Sub.nM _ _ _) (.k .nil)));rintro j hj K1 J1;refine gC (fun y=>?_) (fun y=>?_)
 ·have lr:=aI y;obtain⟨q,m7⟩:=aB lr;have ou:=yS (rt q) (rt 0) (hq q (ah3 m7)).ok Qs.zero.ok;rw[MY,bH]at ou;refine gi (ay m7) ?_;refine gc (Con.subA (.cons (.refl _) (.cons o0 .nil)) ou) ?_;refine gs (dX (.tmp rfl) rfl (by rw[ah6,air];omega) (.tmp rfl) T41 rfl T44 rfl rfl (by simp only[aij,aiv];omega) rfl rfl) ?_ (6,0);refine gW (Wk.of (sl:=[pP 6 (nA p),pP 7 (i64 p.length),pP 8 (i64 j),pP 3 (.ms 17 3 0 (j+1))]) (hp:=[pP 17 (.row 3 ((p.take (j+1)).map qA))]) aU (.cons rfl (.of (by rw[g9 m7,ai4];rfl)) .nil)) ?_ (6,0);refine gW (Wk.rk (k:=17) (d:=900) rfl rfl) ?_;refine ga aG ?_;exact aE J1 (j+1) lr
 have lr:=aV hj y;subst lr;refine gW (Wk.of (sl:=[pP 3 (.ms 900 3 0 p.length)]) (hp:=[pP 900 (.row 3 (p.map qA))]) aU (.cons rfl (.of (by rw[ail])) .nil)) ?_;refine aK [] [900] (fun(n:Nat)=>[pP 3 (.ms 900 3 0 n)]) (fun _=>[]) (fun n=>n<=p.length/\ptr (p.take n)=ptr p) (fun n=>n) p.length ⟨aie _,by rw[ail]⟩ ?_;rintro n ⟨hn,hv⟩ K2 J2;refine kG (fun h=>(gx (dU (b:=0) h) (by unfold az;omega))) ?_;refine gs (fX rfl rfl rfl (fun h=>bt (n:=n-1) (.opt rfl (o1 h)) (.opt rfl (o1 h)) T41 rfl T44 rfl oz (by have:=dU (b:=0) h;omega) rfl)) ?_;refine gs (fX rfl rfl rfl (fun h=>dq (.opt rfl (o1 h)) rfl (ay (gO (l:=p) (i:=n-1) (by have:=dU (b:=0) h;omega))) T44 rfl rfl rfl)) ?_;refine bP (fun h=>(qR (hq _ (ah3 (gO (l:=p) (i:=n-1) (by have:=dU (b:=0) h;omega)))))) ?_;refine gC (fun t31=>?_) (fun t31=>?_)
 ·obtain ⟨h1, h2⟩:=Cc t31;have h3:p[n - 1]? = some 0:=by rw [gO (l:=p) (i:=n - 1) oz,h2]
  refine ga (gx oz (by unfold az;omega)) ?_;refine gs (qJ (.tmp rfl) (.none _) (.some _ (.tmp rfl) oz) T41 rfl T44 rfl oz oz rfl) ?_;exact aE J2 (n-1) ⟨by omega,Ch (by rw[show n-1+1=n by omega];exact hv) h3⟩ (hw:=Wk.of (.cons rfl (.of (by congr 1)) .nil) (.k .nil))
 have iS:n=(ptr p).length:=by
  rcases ae1 n with h |h
  ·subst h;rw[List.take_zero]at hv;rw[<- hv];rfl
  ·exact Kk hv ⟨_,gO (l:=p) (i:=n-1) oz,Ia t31 h⟩ hn h
 subst iS;refine gR ?_;exact aJ.own1 rfl hd rfl
theorem Az(p:List Rat)(hq:∀c∈p,Qs c)(hl:p.length<=1000):FP 262 [nA p] (nA (ptr p)):=by
 have h:=Con.freeze (by rw[ah6,ae9];exact ja p) (DN 0 rfl p hq hl)
 rwa [ai9,<- map_take,<- rA]at h
theorem L7(p:List Rat)(i:Nat):FP 402 [nA p,i64 i] (qA (p.getD i 0)):=by
 refine ak func402 ?_;refine gl ?_;refine gC (fun z=>?_) (fun z=>?_)
 ·have h1:i<p.length:=aI z;refine gi (ay (gO (l:=p) h1)) ?_;refine ah ?_
  first |rfl |(simp;done)
 have h1:p.length<=i:=qt z;refine gR ?_;exact lP (by rw[ah4,aig h1];exact o0)
theorem Fb{e f k:Nat}{p q:List Rat}{c:Rat}(hp:Pb e p)(hq:Pb f q)(hc:Qb k c)(h:e+(k+f)+1<=1000000000000)(lp:p.length<=60)(lq:q.length<=60):FP 367 [nA p,nA q,qA c] (nA (padd p q c)):=by
 have iU:=ni c p q;have hb:=hp.lin hc hq;obtain⟨L,hL⟩:∃L,L=gV p q c:=⟨_,rfl⟩
 rw[<- hL]at iU hb;have oa:∀i,Qs (p.getD i 0):=fun i=>Cg hp oz i
 have uJ:∀i,Qs (q.getD i 0):=fun i=>Cg hq oz i
 have kp:Qs c:=hc.qs oz;have bp:∀i,Qs (c*q.getD i 0):=fun i=>(hc.mul (wt hq i)).qs oz
 refine ak func367 ?_;refine gl ?_;refine gl ?_;refine gs (ra (.tmp rfl) (.tmp rfl) rfl) ?_;refine gs (f6 (.tmp rfl) T41 rfl T44 rfl rfl oz (by dsimp only;omega) rfl) ?_ (2,0);refine gW (Wk.of (sl:=[pP 0 (nA p),pP 1 (nA q),pP 5 (.ptr 5 0),pP 7 (.ms 14 3 0 L.length)]) (hp:=[pP 5 (.box (qA c).cells),pP 14 (.row 3 ((jx L 0).map qA))]) (.k (.k (.k (.cons rfl (.of (by rw[iU];show AV.ms 14 3 0 _=_;congr 1;omega)) .nil)))) (.k (.cons rfl (yL (by rw[Rc,iU];congr 1;omega)) .nil))) ?_ (2,0);refine gW (Wk.rk (k:=14) (d:=900) rfl rfl) ?_;refine aK [0,1,5,16] [5] (fun(i:Nat)=>[pP 7 (.ms 900 3 0 L.length),pP 15 (.ms 900 3 0 L.length),pP 17 (i64 i)]) (fun i=>[pP 900 (.row 3 ((jx L i).map qA))]) (fun i=>i<=L.length) (fun i=>L.length-i) 0 (aii _) ?_;rintro i hi K1 J1;refine gC (fun z=>?_) (fun z=>?_) (st2:=(7,0))
 ·have ae:=aI z
  have hx:L[i]?=some (p.getD i 0+c*q.getD i 0):=by
   have h1:=gO (l:=L) ae;rw[hL,Cn,<- hL]at h1;exact h1
  refine gc (L7 p i) ?_;refine gc (L7 q i) ?_;refine gc (jA kp (uJ i)) ?_;refine gc (wX (oa i) (bp i)) ?_;refine gs (bt (n:=i) (.tmp rfl) (.tmp rfl) T41 rfl T44 rfl oz oz rfl) ?_;refine gs (de (.tmp rfl) rfl (ay (ZP ae)) rfl (.tmp rfl) rfl rfl T44 rfl rfl) ?_;refine gD ?_ (6,0);refine gW (Wk.of (sl:=[pP 0 (nA p),pP 1 (nA q),pP 5 (.ptr 5 0),pP 7 (.ms 900 3 0 L.length),pP 15 (.ms 900 3 0 L.length),pP 16 (i64 L.length),pP 17 (i64 i)]) (hp:=[pP 5 (.box (qA c).cells),pP 900 (.row 3 ((jx L (i+1)).map qA))]) aU (.k (.cons rfl (.of (by rw[<- Ta hx,aja])) .nil))) ?_;refine ga aG ?_;exact aE J1 (i+1) ae
 have ae:=aV hi z;subst ae;refine gW ((Wk.freeze (k:=900) rfl).trans<|Wk.of (sl:=[pP 7 (nA L)]) (hp:=[]) (.cons rfl (.of (by rw[b8 (by rw[ah6,acr (aie _)]),Yj];rfl)) .nil) .nil) ?_;refine gc (Az L (fun x hx=>(hb x hx).qs oz) oz) ?_;refine ah ?_;rw[hL];rfl
theorem WU{e f:Nat}{p q:List Rat}(hp:Pb e p)(hq:Pb f q)(lp:p.length<=30)(lq:q.length<=30)(h:31*(e+f+4)<=1000000000000):FP 264 [nA p,nA q] (nA (fA p q)):=by
 refine ak func264 ?_;refine gl ?_;refine cq ?_;refine gC (fun t17=>?_) (fun t17=>?_)
 ·have h1:fA p q=[]:=by
   by_cases h0:p=[]
   ·rw[h0];rfl
   ·have h2:q=[]:=by
     refine Decidable.byContradiction fun h2=>?_
     have h3:=afq.2 h0;have h4:=afq.2 h2;rw[show aa .eql (p.length:Int) 0=false from ajl oz,show aa .eql (q.length:Int) 0=false from ajl oz]at t17;cases t17
    rw[h2];exact Mg p
  refine gR ?_;exact lP (by rw[h1];exact Sub.nil _ _ _)
 have h0:p≠[]:=fun h0=>by rw[h0]at t17;cases t17
 have h1:q≠[]:=fun h1=>by
  rw[h1]at t17;cases h9:aa .eql (p.length:Int) 0 <;> rw[h9]at t17 <;> cases t17
 have h2:=afq.2 h0;have h3:=afq.2 h1;refine gl ?_;refine gl ?_;refine ga (fh (by unfold az;omega) (by unfold az;omega)) ?_;refine ga (gx oz (by unfold az;omega)) ?_;refine gs (f6 (.tmp rfl) T41 rfl T44 rfl rfl oz (by dsimp only;omega) rfl) ?_ (4,0);refine gW (Wk.of (sl:=[pP 0 (nA p),pP 1 (nA q),pP 5 (.ms 24 3 0 (p.length+q.length-1))]) (hp:=[pP 24 (.row 3 ((afv (p.length+q.length-1) (0:Rat)).map qA))]) aU (.cons rfl (yL (by congr 1)) .nil)) ?_ (4,0);refine gW (Wk.rk (k:=24) (d:=900) rfl rfl) ?_;refine gl ?_;refine fF [0,1,25,26] [] (fun(i:Nat)(L:List Rat)=>[pP 5 (.ms 900 3 0 (p.length+q.length-1)),pP 27 (i64 i)]) (fun _ L=>[pP 900 (.row 3 (L.map qA))]) (fun i L=>i<=p.length/\L.length=p.length+q.length-1/\(∀t,au L t=au (p.take i) t*au q t)/\∀j,Qb (i*(e+f+4)+1) (L.getD j 0)) (fun i _=>p.length-i) 0 (afv (p.length+q.length-1) 0) ⟨aii _,aiu,fun t=>by rw[BV];show(0:Rat)=0*au q t;grind,fun j=>by rw[ah4,aix];split <;> exact Qb.zero.mono oz⟩ ?_
 rintro i L ⟨hi,hL,da,hb⟩ K1 J1;refine gC (fun z=>?_) (fun z=>?_) (st2:=(13,0))
 ·have ae:=aI z;obtain ⟨x,hx⟩:=aB ae;have xV:=(hp x (ah3 hx)).qs (show e <= 4398046511104 by omega);have adp:i * (e + f + 4) <= 30 * (e + f + 4):=aik _ oz;refine gi (ay hx) ?_;refine gl ?_;refine fF [0,1,25,26,27,6,7,32,33] [7] (fun (k:Nat) (M:List Rat)=>[pP 5 (.ms 900 3 0 (p.length + q.length - 1)),pP 34 (i64 k)]) (fun _ M=>[pP 900 (.row 3 (M.map qA))]) (fun k M=>k <= q.length /\ M.length = p.length + q.length - 1 /\ (∀ t,au M t = au L t + x * t ^ i * au (q.take k) t) /\ (∀ j,Qb ((i + 1) * (e + f + 4) + 1) (M.getD j 0)) /\ ∀ j,i + k <= j -> M.getD j 0 = L.getD j 0) (fun k _=>q.length - k) 0 L ⟨aii _,hL,fun t=>by show au L t = au L t + x * t ^ i * 0; grind,fun j=>(hb j).mono (by rw [aez]; omega),fun j _=>rfl⟩ ?_
  rintro k M ⟨hk,hM,PP,PQ,heq⟩ K2 J2;refine gC (fun z=>?_) (fun z=>?_)
  ·have aW:=aI z;obtain ⟨y,hy⟩:=aB aW;have hyq:=(hq y (ah3 hy)).qs (show f <= 4398046511104 by omega);have xL:=(hp x (ah3 hx)).mul (hq y (ah3 hy));have PR:=hb (i + k);have xW:=heq (i + k) (aie _);have jQ:i + k < M.length:=by omega
   have cE:=gO jQ
   have bm:Qb ((i+1)*(e+f+4)+1) (M.getD (i+k) 0+x*y):=by
    rw[xW];exact(PR.add xL).mono (by rw[aez];omega)
   refine gi (ay hy) ?_;refine ga (fh (by unfold az;omega) (by unfold az;omega)) ?_;refine ga (fh (by unfold az;omega) (by unfold az;omega)) ?_;refine gs (bt (n:=i+k) (.tmp rfl) (.tmp rfl) T41 rfl T44 rfl oz oz rfl) ?_;refine gs (dq (.tmp rfl) rfl (ay cE) T44 rfl rfl rfl) ?_;refine gc (jA xV hyq) ?_;refine gc (wX (by rw[xW];exact PR.qs oz) (xL.qs oz)) ?_;refine gs (bt (n:=i+k) (.tmp rfl) (.tmp rfl) T41 rfl T44 rfl oz oz rfl) ?_;refine gs (de (.tmp rfl) rfl (ay cE) rfl (.tmp rfl) rfl rfl T44 rfl rfl) ?_;refine gD ?_ (11,0);refine gW (Wk.of (sl:=[pP 0 (nA p),pP 1 (nA q),pP 5 (.ms 900 3 0 (p.length+q.length-1)),pP 25 (nA p),pP 26 (i64 p.length),pP 27 (i64 i),pP 6 (i64 i),pP 7 (.ptr 7 0),pP 32 (nA q),pP 33 (i64 q.length),pP 34 (i64 k)]) (hp:=[pP 7 (.box (qA x).cells),pP 900 (.row 3 ((M.set (i+k) (M.getD (i+k) 0+x*y)).map qA))]) aU (.k (.cons rfl (.of (by rw[aja])) .nil))) ?_
   refine ga aG ?_;exact fC J2 (k+1) (M.set (i+k) (M.getD (i+k) 0+x*y)) ⟨aW,by rw[aje];exact hM,fun t=>by rw[wg _ _ _ _ jQ,PP,sG t hy,AO];grind,fun j=>by rw[m9 _ _ _ _ jQ];split;exact bm;exact PQ j,fun j hj=>by rw[m9 _ _ _ _ jQ,ajf oz];exact heq j oz⟩
  have aW:=aV hk z;subst aW;refine ga aG ?_;exact fC J1 (i+1) M ⟨ae,hM,fun t=>by rw[PP,da,sG t hx,ail];grind,PQ⟩
 have ae:=aV hi z;subst ae;have hr:ptr L=fA p q:=nV (dC _) (dC _) (fun t=>by rw[it,da,ail,ux]);refine gW ((Wk.freeze (k:=900) rfl).trans<|Wk.of (sl:=[pP 5 (nA L)]) (hp:=[]) (.cons rfl (.of (by rw[b8 (by rw[ah6];exact hL.symm)];rfl)) .nil) .nil) ?_;refine gc (Az L (fun x hx=>((zw hb) x hx).qs (by have h9:p.length*(e+f+4)<=30*(e+f+4):=aik _ lp;omega)) oz) ?_;refine ah ?_;rw[hr]
abbrev pW:List Rat:=[1,0,1]
theorem wO(t:Rat):au pW t=1+t*t:=by show(1:Rat)+t*(0+t*(1+t*0))=_;grind
theorem VD{i:Nat}{x:Rat}(h:pW[i]?=some x):(x=0/\i=1)\/(x=1/\(i=0\/i=2)):=by
 match i,h with
 |0,h=>cases h;exact .inr ⟨rfl,.inl rfl⟩
 |1,h=>cases h;exact .inl ⟨rfl,rfl⟩
 |2,h=>cases h;exact .inr ⟨rfl,.inr rfl⟩
 |n+3,h=>simp at h
theorem aab{a b:Nat}(h0:a+b<=60)(h:cond (cond (aa .gtr (a:Int) 0) (aa .gtr (b:Int) 0) false) (aa .gtr (((a+b:Nat):Int)-2) 64) false=true):False:=by
 rw[show aa .gtr (((a+b:Nat):Int)-2) 64=false from ajl oz]at h;cases h1:cond (aa .gtr (a:Int) 0) (aa .gtr (b:Int) 0) false <;> rw[h1]at h <;> cases h
theorem zY{e k:Nat}{p:List Rat}{x:Rat}(hp:Pb e p)(hx:Qb k x):∀n,n<=p.length->Qb ((p.length-n)*(e+k+4)+1) (au (p.drop n) x):=by
 have key:∀q:List Rat,Pb e q->Qb (q.length*(e+k+4)+1) (au q x):=by
  intro q
  induction q with
  |nil=>intro _;exact Qb.zero.mono (by simp)
  |cons c q ih =>
   intro h;have h1:=ih (fun y hy=>h y (ait _ hy));refine((h c (ai2 ..)).add (hx.mul h1)).mono ?_;rw[aij,aez];omega
 intro n hn;have h:=key (p.drop n) (fun c hc=>hp c (afu hc));rw[agd]at h;exact h
theorem AD{e f:Nat}{p q:List Rat}(hp:Po e p)(hq:Po f q)(h:e+(1+f)+1<=1000000000000):FP 286 [nA p,nA q] (.tup [nA (padd p q 1),.v .nilIface]):=by
 have l1:=hp.len;have l2:=hq.len;have r6:FP 263 [.lst 1 [nA p,nA q]] (db 0):=x8 (ps:=[p,q]) (by intro x hx;simp only[aiq,aim,or_false]at hx;rcases hx with rfl |rfl;exact mi hp oz;exact mi hq oz) (by simp);have h1:Qb 1 (((1:Int):Rat)):=Qb.one;refine ak func286 ?_;refine gc r6 ?_;refine gf ?_;refine gc (pM 1 oz) ?_;refine gc (Fb (k:=1) hp.b hq.b h1 h oz oz) ?_;refine bq ?_
 first |rfl |(simp;done)
theorem sD{e f:Nat}{p q:List Rat}(hp:Po e p)(hq:Po f q)(h:e+(1+f)+1<=1000000000000):FP 288 [nA p,nA q] (.tup [nA (padd p q (-1)),.v .nilIface]):=by
 have l1:=hp.len;have l2:=hq.len;have r6:FP 263 [.lst 1 [nA p,nA q]] (db 0):=x8 (ps:=[p,q]) (by intro x hx;simp only[aiq,aim,or_false]at hx;rcases hx with rfl |rfl;exact mi hp oz;exact mi hq oz) (by simp);have h1:Qb 1 (((-1:Int):Rat)):=⟨by decide,by decide⟩
 refine ak func288 ?_;refine gc r6 ?_;refine gf ?_;refine gc (pM (-1) oz) ?_;refine gc (Fb (k:=1) hp.b hq.b h1 h oz oz) ?_;refine bq ?_
 first |rfl |(simp;done)
theorem pc{e f:Nat}{p q:List Rat}(hp:Po e p)(hq:Po f q)(h:31*(e+f+4)<=1000000000000):FP 166 [nA p,nA q] (.tup [nA (fA p q),.v .nilIface]):=by
 have l1:=hp.len;have l2:=hq.len;have r6:FP 263 [.lst 1 [nA p,nA q]] (db 0):=x8 (ps:=[p,q]) (by intro x hx;simp only[aiq,aim,or_false]at hx;rcases hx with rfl |rfl;exact mi hp oz;exact mi hq oz) (by simp);refine ak func166 ?_;refine gc r6 ?_;refine gf ?_;refine gl ?_;refine cq ?_;refine cq ?_;refine cq ?_;refine kG (fun _=>(fh (by unfold az;omega) (by unfold az;omega))) ?_;refine kG (fun _=>(dg oz)) ?_;refine gC (fun z=>?_) (fun z=>?_) (st1:=(5,0));exact(aab (a:=p.length) (b:=q.length) oz z).elim;refine gc (WU hp.b hq.b l1 l2 h) ?_;refine bq ?_
 first |rfl |(simp;done)
theorem ru{e k:Nat}{p:List Rat}{c:Rat}(hp:Po e p)(hc:Qb k c)(h:1+(k+e)+1<=1000000000000):FP 287 [nA p,qA c] (.tup [nA (padd [] p c),.v .nilIface]):=by
 have l1:=hp.len;have kU:FP 367 [nS,nA p,qA c] (nA (padd [] p c)):=Con.subA (.cons (Sub.nil 3 none 0) (.cons (.refl _) (.cons (.refl _) .nil))) (Fb (p:=[]) (e:=1) (fun x hx=>by cases hx) hp.b hc h (by simp) oz);refine ak func287 ?_;refine gc (mi hp oz) ?_;refine gf ?_;refine gc kU ?_;refine bq ?_
 first |rfl |(simp;done)
theorem U7{e k:Nat}{p:List Rat}{x:Rat}(hp:Po e p)(hx:Qb k x)(h:31*(e+k+4)<=1000000000000):FP 23 [nA p,qA x] (.tup [qA (au p x),.v .nilIface]):=by
 have l1:=hp.len;have xV:=hx.qs (show k<=4398046511104 by omega);have ci:∀n,n<=p.length->Qb ((p.length-n)*(e+k+4)+1) (au (p.drop n) x):=zY hp.b hx;refine ak func23 ?_;refine gc (mi hp oz) ?_;refine gf ?_;refine gl ?_;refine ga (dg oz) ?_;refine aK [0,3,4,7] [3,4] (fun(n:Nat)=>[pP 8 (i64 ((n:Int)-1))]) (fun n=>[pP 7 (.box (qA (au (p.drop n) x)).cells)]) (fun n=>n<=p.length) (fun n=>n) p.length (aie _) ?_ (h2:=(.cons rfl (BlkSub.bL (by rw[drop_length];exact .cons (.refl _) (.cons (.nil _ _ _) (.cons (.nil _ _ _) .nil))) rfl) .nil));rintro n hn K1 J1;refine gC (fun z=>?_) (fun z=>?_)
 ·have gT : 0 < n := by have h9 := aji (p := (n : Int) - 1 >= 0) z; omega
  obtain⟨m,rfl⟩:∃m,n=m+1:=⟨n-1,by omega⟩
  obtain⟨c,hc⟩:=aB (l:=p) (i:=m) oz;have kp:=hp.qs oz (ah3 hc);have bh:=ci (m+1) hn;have adq:(p.length-(m+1))*(e+k+4)<=30*(e+k+4):=aik _ oz;refine gc (jA (bh.qs oz) xV) ?_;refine gi (eT (n:=m) oz hc) ?_;refine gc (wX ((bh.mul hx).qs oz) kp) ?_;refine gD ?_ (7,0);refine gW (Wk.of (sl:=[pP 0 (nA p),pP 3 (.ptr 3 0),pP 4 (.ptr 4 0),pP 7 (.ptr 7 0),pP 8 (i64 (((m+1:Nat):Int)-1))]) (hp:=[pP 3 (.box (qA x).cells),pP 4 (.box [.v (.bool false),nS,nS]),pP 7 (.box (qA (au (p.drop m) x)).cells)]) aU (.k (.k (.cons rfl (.of (by rw[KS x hc,Rat.add_comm,Rat.mul_comm];rfl)) .nil)))) ?_;refine ga (dg oz) ?_;exact aE J1 m oz (hw:=Wk.of (.cons rfl (.of (by congr 3;omega)) (.k (.k (.k (.k .nil))))) (.k (.k (.k .nil))))
 have gT:n=0:=by have h9:=ajj (p:=(n:Int)-1>=0) z;omega
 subst gT;refine bq ?_
 first |rfl |(simp;done)
theorem I1{l:List Rat}{m:Nat}(hl:l.length=m)(h0:0<m)(hz:l.getD (m-1) 0=0):(ptr l).length<m:=by
 have h1:l[m-1]?=some 0:=by rw[gO (l:=l) (i:=m-1) oz,hz]
 have h2:ptr (l.take (m-1))=ptr l:=Ch (by rw[show m-1+1=m by omega,<- hl,ail]) h1;have h3:=ja (l.take (m-1));rw[h2,air]at h3;omega
theorem Dp{l:List Rat}{j m:Nat}(h:j<m):(l.take m).getD j 0=l.getD j 0:=by rw[kI,ajg h]
theorem TU{Y:List Rat}{m j:Nat}{v:Rat}(hj:j<m)(hm:m<=Y.length)(t:Rat):au ((Y.set j v).take m) t=au (Y.take m) t+(v-Y.getD j 0)*t^j:=by
 rw[<- Dp hj,<- wg v t (Y.take m) j (by rw[air];omega),List.take_set]
theorem x7(k:Nat)(e:Nat):e+4<=2^k*(e+4):=Nat.le_mul_of_pos_left _ (aed k)
theorem Ms{j k:Nat}(h:j<=k)(e:Nat):2^j*(e+4)<=2^k*(e+4):=aik _ (ef h)
theorem U0{j k:Nat}(h:j<k)(e:Nat):2*(2^j*(e+4))<=2^k*(e+4):=by
 have h1:=Ms (show j+1<=k by omega) e;rw[ae5,aer,Nat.mul_left_comm]at h1;exact h1
theorem abo{e:Nat}{p:List Rat}(hp:Pb e p)(lp:p.length<=12)(h:4096*(e+4)<=1000000000000):FP 346 [nA p,nA pW] (.tup [nA (dvQ p),nA (fM p)]):=by
 have GE:Qs (1:Rat):=Qb.one.qs oz;refine ak func346 ?_;refine gt (br (DN 905 rfl p (fun c hc=>(hp c hc).qs oz) oz) (iL rfl) bT rfl rfl) ?_;refine gl ?_;refine gl ?_;refine ga (dg (by simp only[aij,aiv];omega)) ?_;refine ga (cP (by simp only[aij,aiv];omega)) ?_;refine gs (ra (.const _) (.tmp rfl) rfl) ?_;refine gs (f6 (.tmp rfl) T41 rfl T44 rfl rfl oz (by dsimp only;omega) rfl) ?_;refine gl ?_;refine ga (show _=(2:Int)from rfl) ?_;refine gi (rfl) ?_;refine gW (Wk.of (sl:=[pP 1 (nA pW),pP 6 (.ms 905 3 0 (ptr p).length),pP 7 (.ms 23 3 0 (p.length-2)),pP 8 (.ptr 8 0)]) (hp:=[pP 8 (.box (qA 1).cells),pP 905 (.row 3 (p.map qA)),pP 23 (.row 3 ((afv (p.length-2) (0:Rat)).map qA))]) (.k (.k (.cons rfl (.of (by congr 1;simp only[aij,aiv];omega)) (.k .nil)))) (.k (.k (.cons rfl (yL (by congr 1;simp only[aij,aiv];omega)) .nil)))) ?_ (99999,0)
 refine gW (Wk.rk (k:=905) (d:=902) rfl rfl) ?_ (99999,0);refine gW (Wk.rk (k:=23) (d:=901) rfl rfl) ?_;refine jf [1,8] [8] (fun(X Q:List Rat)(m:Nat)=>[pP 6 (.ms 902 3 0 m),pP 7 (.ms 901 3 0 (p.length-2))]) (fun X Q _=>[pP 901 (.row 3 (Q.map qA)),pP 902 (.row 3 (X.map qA))]) (fun X Q m=>m<=X.length/\X.length<=12/\m<=p.length/\cV (X.take m)/\Q.length=p.length-2/\(∀t,au p t=au Q t*(1+t*t)+au (X.take m) t)/\(∀j,Qb (2^(p.length-m)*(e+4)-3) (X.getD j 0))/\(∀j,j+3<=m->Q.getD j 0=0)/\∀j,Qb (4096*(e+4)) (Q.getD j 0)) (fun _ _ m=>m) p (afv (p.length-2) 0) ((ptr p).length) ⟨ja p,lp,ja p,by rw[<- rA];exact dC p,aiu,fun t=>by rw[BV,<- rA,it];grind,fun j=>(wt hp j).mono (by have:=x7 (p.length-(ptr p).length) e;omega),fun j _=>by rw[ah4,aix];split <;> rfl,fun j=>by rw[ah4,aix];split <;> exact Qb.zero.mono oz⟩ ?_
 rintro X Q m ⟨hmX,ad1,hmp,adr,PS,da,BA,PT,uN⟩ K1 J1;refine gl ?_;refine gC (fun z=>?_) (fun z=>?_) (st2:=(14,0))
 ·have rV : 3 <= m := by have h9 := aji (p := (m : Int) >= 3) z; omega
  obtain⟨c,hc⟩:∃c,c=X.getD (m-1) 0:=⟨_,rfl⟩
  have hcX:X[m-1]?=some c:=by rw[hc];exact gO oz
  have kV:=Ms (show p.length-m<=12 by omega) e;have lX:Qb (2^(p.length-m)*(e+4)-3) c:=by rw[hc];exact BA _
  have kp:Qs c:=lX.qs (by have h9:(2:Nat)^12=4096:=rfl;omega);have eL:c/1=c:=by grind
  have hgQ:=gO (l:=Q) (i:=m-3) oz;refine gl ?_;refine ga (show _=((m-3:Nat):Int)from Il (by show 3<=m;omega) (by unfold az;omega)) ?_;refine ga (gx oz (by unfold az;omega)) ?_;refine gs (bt (n:=m-1) (.tmp rfl) (.tmp rfl) T41 rfl T44 rfl oz oz rfl) ?_;refine gs (dq (.tmp rfl) rfl (ay hcX) T44 rfl rfl rfl) ?_;refine gc (KH kp GE) ?_;refine gD ?_;refine gs (bt (n:=m-3) (.tmp rfl) (.tmp rfl) T41 rfl T44 rfl oz (by show m-3<_;omega) rfl) ?_;refine gs (de (.tmp rfl) rfl (ay hgQ) rfl (.tmp rfl) rfl rfl T44 rfl rfl) ?_ (8,0);refine gW (Wk.of (sl:=[pP 1 (nA pW),pP 6 (.ms 902 3 0 m),pP 7 (.ms 901 3 0 (p.length-2)),pP 8 (.ptr 8 0),pP 9 (i64 ((m-3:Nat):Int)),pP 10 (.ptr 10 0)]) (hp:=[pP 8 (.box (qA 1).cells),pP 10 (.box (qA c).cells),pP 901 (.row 3 ((Q.set (m-3) c).map qA)),pP 902 (.row 3 (X.map qA))]) aU (.k (.cons rfl (.of (by rw[eL];rfl)) (.cons rfl (.of (by rw[aja,eL];rfl)) (.k .nil))))) ?_
  refine gl ?_;refine fF [1,8,9,10,55,56] [8,10,901] (fun(i:Nat)(Y:List Rat)=>[pP 6 (.ms 902 3 0 m),pP 7 (.ms 901 3 0 (p.length-2)),pP 57 (i64 i)]) (fun _ Y=>[pP 902 (.row 3 (Y.map qA))]) (fun i Y=>i<=3/\Y.length=X.length/\(∀t,au (Y.take m) t=au (X.take m) t-c*t^(m-3)*au (pW.take i) t)/\(∀j,Qb (2*(2^(p.length-m)*(e+4))-4) (Y.getD j 0))/\(∀j,m-3+i<=j->Y.getD j 0=X.getD j 0)/\(3<=i->Y.getD (m-1) 0=0)) (fun i _=>3-i) 0 X ⟨aii _,rfl,fun t=>by show _=_-c*t^(m-3)*0;grind,fun j=>(BA j).mono (by have:=x7 (p.length-m) e;omega),fun j _=>rfl,fun h9=>ajm h9 oz⟩ ?_
  rintro i Y ⟨hi,hY,PU,GF,PV,hYz⟩ K2 J2;refine gC (fun z=>?_) (fun z=>?_) (st2:=(13,0))
  ·have ae:i < 3:=aI (b:=3) z;obtain ⟨x,hx⟩:∃ x,pW[i]? = some x:=aB ae;have ma:Qb 1 x:=by rcases VD hx with ⟨h9,_⟩ | ⟨h9,_⟩ <;> rw [h9]; exact Qb.zero; exact Qb.one
   have jQ:m-3+i<Y.length:=by omega
   have cE:=gO jQ;have GG:=PV (m-3+i) (aie _);have bB:=x7 (p.length-m) e;have hpw:(2:Nat)^12=4096:=by decide
   have xX:=lX.mul ma
   have bm:Qb (2*(2^(p.length-m)*(e+4))-4) (Y.getD (m-3+i) 0-c*x):=by
    rw[GG];exact((BA _).sub xX).mono oz
   refine gi (ay hx) ?_;refine ga (fh (by unfold az;omega) (by unfold az;omega)) ?_;refine ga (fh (by unfold az;omega) (by unfold az;omega)) ?_;refine gs (bt (n:=m-3+i) (.tmp rfl) (.tmp rfl) T41 rfl T44 rfl oz oz rfl) ?_;refine gs (dq (.tmp rfl) rfl (ay cE) T44 rfl rfl rfl) ?_;refine gc (jA kp (ma.qs oz)) ?_;refine gc (tp (by rw[GG];exact(BA _).qs oz) (xX.qs oz)) ?_;refine gs (bt (n:=m-3+i) (.tmp rfl) (.tmp rfl) T41 rfl T44 rfl oz oz rfl) ?_;refine gs (de (.tmp rfl) rfl (ay cE) rfl (.tmp rfl) rfl rfl T44 rfl rfl) ?_;refine gD ?_ (12,0);refine gW (Wk.of (sl:=[pP 1 (nA pW),pP 6 (.ms 902 3 0 m),pP 7 (.ms 901 3 0 (p.length-2)),pP 8 (.ptr 8 0),pP 9 (i64 ((m-3:Nat):Int)),pP 10 (.ptr 10 0),pP 55 (nA pW),pP 56 (i64 3),pP 57 (i64 i)]) (hp:=[pP 8 (.box (qA 1).cells),pP 10 (.box (qA c).cells),pP 901 (.row 3 ((Q.set (m-3) c).map qA)),pP 902 (.row 3 ((Y.set (m-3+i) (Y.getD (m-3+i) 0-c*x)).map qA))]) aU (.k (.k (.k (.cons rfl (.of (by rw[aja])) .nil))))) ?_
   refine ga aG ?_;exact fC J2 (i+1) (Y.set (m-3+i) (Y.getD (m-3+i) 0-c*x)) ⟨ae,by rw[aje];exact hY,fun t=>by rw[TU oz oz,PU,sG t hx,AO];grind,fun j=>by rw[m9 _ _ _ _ jQ];split;exact bm;exact GF j,fun j hj=>by rw[m9 _ _ _ _ jQ,ajf oz];exact PV j oz,fun h9=>by obtain rfl:i=2:=oz;cases hx;rw[m9 _ _ _ _ jQ,ajg oz,GG,show m-3+2=m-1 by omega,<- hc];grind⟩
  have GA:i=3:=aV (b:=3) hi z;subst GA;have hYm:(Y.take m).length=m:=by rw[air];omega
  have ad2:(ptr (Y.take m)).length<m:=I1 hYm oz (by rw[Dp oz];exact hYz (aie _));have rY:=U0 (show p.length-m<p.length-(ptr (Y.take m)).length by omega) e;have hpw:(2:Nat)^12=4096:=by decide
  have hTq:∀x∈Y.take m,Qs x:=fun x GH=>((zw GF) x (agi GH)).qs oz
  refine gW ((Wk.freeze (k:=902) rfl).trans<|Wk.of (sl:=[pP 1 (nA pW),pP 6 (nA (Y.take m)),pP 7 (.ms 901 3 0 (p.length-2)),pP 8 (.ptr 8 0)]) (hp:=[pP 8 (.box (qA 1).cells),pP 901 (.row 3 ((Q.set (m-3) c).map qA))]) (.k (.cons rfl (.of (by rw[qz (by rw[ah6];omega),ai9,<- map_take];rfl)) (.k (.k .nil)))) (.k (.k .nil))) ?_;refine gt (br (DN 902 rfl (Y.take m) hTq oz) (iL rfl) bT rfl rfl) ?_;exact ip J1 (Y.take m) (Q.set (m-3) c) ((ptr (Y.take m)).length) ⟨ja _,by omega,by omega,by rw[<- rA];exact dC _,by rw[aje];exact PS,fun t=>by rw[<- rA,it,PU,wg _ _ _ _ oz,PT _ oz,da t,show pW.take 3=pW from rfl,wO];grind,fun j=>by by_cases hj:j<m;(rw[Dp hj];exact(GF j).mono oz);(rw[yP oz];exact Qb.zero.mono (by have:=x7 (p.length-(ptr (Y.take m)).length) e;omega)),fun j hj=>by rw[m9 _ _ _ _ oz,ajf oz];exact PT j oz,fun j=>by rw[m9 _ _ _ _ oz];split;exact lX.mono oz;exact uN j⟩
 have rV:m<=2:=by have h9:=ajj (p:=(m:Int)>=3) z;omega
 obtain⟨r1,r2⟩:=EX (p:=p) (dC Q) adr (by rw[air];omega) (fun t=>by rw[it];exact da t);refine gW ((Wk.freeze (k:=902) rfl).trans<|(Wk.freeze (k:=901) rfl).trans<|Wk.of (sl:=[pP 6 (nA (fM p)),pP 7 (nA Q)]) (hp:=[]) (.cons rfl (.of (by rw[qz (by rw[ah6];omega)];show AV.lst 3 (((X.map qA).drop 0).take m)=_;rw[ai9,<- map_take,r2];rfl)) (.cons rfl (.of (by show AV.fz 901 3 (Q.map qA) (.ms 901 3 0 (p.length-2))=_;rw[qz (by rw[ah6];omega),ai9,<- map_take,aio oz];rfl)) .nil)) .nil) ?_
 refine gc (Az Q (fun x GH=>((zw uN) x GH).qs oz) oz) ?_;refine bq ?_;rw[r1]
theorem Kn{e:Nat}{p:List Rat}(hp:Po e p)(lp:p.length<=12)(h:4096*(e+4)<=1000000000000):FP 366 [nA p,nA pW] (.tup [nA (dvQ p),nA (fM p),.v .nilIface]):=by
 have hW:Po 1 pW:=⟨rfl,by decide,fun c hc=>by simp only[pW,aiq,aim,or_false]at hc;rcases hc with rfl |rfl |rfl;exact Qb.one;exact Qb.zero;exact Qb.one⟩
 have r6:FP 263 [.lst 1 [nA p,nA pW]] (db 0):=x8 (ps:=[p,pW]) (by intro x hx;simp only[aiq,aim,or_false]at hx;rcases hx with rfl |rfl;exact mi hp oz;exact mi hW oz) (by simp);refine ak func366 ?_;refine gc r6 ?_;refine gf ?_;refine gl ?_;refine gf ?_;refine gc (abo hp.b lp h) ?_;refine mv ?_
 first |rfl |(simp;done)
def FJ(g:Gr)(j:Jt)(q:Nat):Int:=if q=0 then -1 else if q=1 then(if g.bo.contains j.b=true then -1 else j.b)else eH g j
theorem Ju{g:Gr}{j:Jt}{q:Nat}{b:Int}(hb:[j.b,j.a][q]?=some b):(if g.bo.contains b=true then FJ g j q else b)=FJ g j (q+1):=by
 match q,hb with
 |0,hb=>cases hb;rfl
 |1,hb =>
  cases hb;show(if g.bo.contains j.a=true then(if g.bo.contains j.b=true then -1 else j.b)else j.a)=eH g j;rfl
theorem aaz{xs:List Int}{p:Nat}{x b:Int}(h:xs[p]?=some x):cond ((xs.take p).contains b) true (aa .eql x b)=(xs.take (p+1)).contains b:=by
 rw[g9 h,Fa,sf,af9,af9,List.any_append,List.any_cons,List.any_nil,Bool.or_false];congr 1
 by_cases h1:x=b
 ·subst h1;simp
 ·rw[ajl h1]
  symm
  exact beq_false_of_ne (fun e=>h1 e.symm)
theorem ab7(l:Li)(hl:l.ok)(g:Gr)(hg:GrOk l g):FP 86 [l.av,g.av] (.tup [.lst 1 ((ck l g).map i64),i64 0]):=by
 have fJ:=hg.lb;have oA:=hg.lj;have Bl:=hl.lj;refine ak func86 ?_;refine gl ?_;refine aK [2,3,18,19] [2,3] (fun(i:Nat)=>[pP 20 (i64 i)]) (fun _=>[]) (fun i=>i<=g.jo.length) (fun i=>g.jo.length-i) 0 (aii _) ?_;rintro i hi K1 J1;refine gC (fun y=>?_) (fun y=>?_)
 ·have ae:=aI y;obtain⟨z,hz⟩:=aB ae;obtain⟨z0,z1⟩:=hg.j z (ah3 hz);refine gi (ay hz) ?_;refine cq ?_;refine gC (fun y=>?_) (fun y=>?_) (st1:=(5,0))
  ·(rw[Kc z0 z1]at y;cases y)
  refine ga aG ?_;exact aE J1 (i+1) ae
 have ae:=aV hi y;refine gl ?_;refine gW ((Wk.virt 900 1 rfl).trans<|Wk.of (sl:=[pP 2 (.ptr 2 0),pP 3 (.ptr 3 0),pP 8 (.ms 900 1 0 0),pP 35 (.lst 1 (g.jo.map i64)),pP 36 (i64 g.jo.length),pP 37 (i64 0)]) (hp:=[pP 2 (.box l.av.cells),pP 3 (.box g.av.cells),pP 900 (.row 1 [])]) (.k (.k (.cons rfl (Sub.nM _ _ _) (.k (.k (.k .nil)))))) (.k (.k (.k .nil)))) ?_;refine aK [2,3,35,36] [2,3] (fun(k:Nat)=>[pP 8 (.ms 900 1 0 k),pP 37 (i64 k)]) (fun k=>[pP 900 (.row 1 (((ck l g).take k).map i64))]) (fun k=>k<=g.jo.length) (fun k=>g.jo.length-k) 0 (aii _) ?_;rintro k hk K2 J2;refine gC (fun y=>?_) (fun y=>?_) (st2:=(26,0))
 ·have aW:=aI y;obtain ⟨z,hz⟩:=aB aW;obtain ⟨z0,z1⟩:=hg.j z (ah3 hz);obtain ⟨j,hj⟩:∃ j,l.jo[z.toNat]? = some j:=aB oz;have hlt:(((ck l g).take k).map i64).length = k:=by rw [ah6,air,pS]; omega
  refine gi (ay hz) ?_;refine gi (eT (n:=z.toNat) oz hj) ?_;refine gi (eT (n:=z.toNat) oz hj) ?_;refine ge rfl ?_;refine gD ?_;refine aK [2,3,35,36,37,53,54] [2,3] (fun(q:Nat)=>[pP 8 (.ms 900 1 0 k),pP 11 (i64 (FJ g j q)),pP 55 (i64 q)]) (fun _=>[pP 900 (.row 1 (((ck l g).take k).map i64))]) (fun q=>q<=2) (fun q=>2-q) 0 (aii _) ?_;rintro q hq K3 J3;refine gC (fun y=>?_) (fun y=>?_)
  ·have bD:q < 2:=aI (b:=2) y;obtain ⟨b,hb⟩:∃ b,[j.b,j.a][q]? = some b:=aB bD;refine gi (show [i64 j.b,i64 j.a][(q:Int).toNat]? = some (i64 b) by have:=ay (f:=i64) hb; exact this) ?_;refine gl ?_;refine aK [2,3,35,36,37,53,54,11,55,13,60,61] [2,3,900] (fun (p:Nat)=>[pP 8 (.ms 900 1 0 k),pP 14 (bl ((g.bo.take p).contains b)),pP 62 (i64 p)]) (fun _=>[]) (fun p=>p <= g.bo.length) (fun p=>g.bo.length - p) 0 (aii _) ?_;rintro p hp K4 J4;refine gC (fun y=>?_) (fun y=>?_)
   ·have eD:=aI y;obtain⟨x,hx⟩:=aB eD;refine gi (ay hx) ?_;refine ga aG ?_;exact aE J4 (p+1) eD (hw:=Wk.of (.k (.cons rfl (.of (ajn bl (aaz hx))) (.k (.k (.k (.k (.k (.k (.k (.k (.k (.k (.k (.k (.k .nil))))))))))))))) (.k (.k (.k .nil))))
   have eD:=aV hp y;subst eD;have By:g.bo.take g.bo.length=g.bo:=ail;refine gC (fun y=>?_) (fun y=>?_)
   ·have h2 : g.bo.contains b = false := by rw [By] at y; exact dR y
    have h3:=Ju (g:=g) hb;rw[ajf (by rw[h2];simp)]at h3;refine ga aG ?_;exact aE J3 (q+1) bD (hw:=Wk.of (.k (.cons rfl (.of (ajn i64 h3)) (.k (.k (.k (.k (.k (.k (.k (.k .nil)))))))))) (.k (.k (.k .nil))))
   have h2:g.bo.contains b=true:=by rw[By]at y;exact eK y
   have h3:=Ju (g:=g) hb;rw[ajg h2]at h3;refine ga aG ?_;exact aE J3 (q+1) bD (hw:=Wk.of (.k (.cons rfl (.of (ajn i64 h3)) (.k (.k (.k (.k (.k (.k (.k (.k .nil)))))))))) (.k (.k (.k .nil))))
  have bD:q=2:=aV (b:=2) hq y;subst bD;refine gs (dX (.tmp rfl) rfl hlt.symm (.tmp rfl) T30 rfl T3 rfl rfl (by simp only[aij,aiv];omega) rfl rfl) ?_ (25,0);refine gW (Wk.of (sl:=[pP 2 (.ptr 2 0),pP 3 (.ptr 3 0),pP 8 (.ms 80 1 0 (k+1)),pP 35 (.lst 1 (g.jo.map i64)),pP 36 (i64 g.jo.length),pP 37 (i64 k)]) (hp:=[pP 2 (.box l.av.cells),pP 3 (.box g.av.cells),pP 80 (.row 1 (((ck l g).take (k+1)).map i64))]) aU (.k (.k (.cons rfl (.of (ajn (Blk.row 1) (Al hz hj rfl))) .nil)))) ?_ (25,0);refine gW (Wk.rk (k:=80) (d:=900) rfl rfl) ?_;refine ga aG ?_;exact aE J2 (k+1) aW
 have aW:=aV hk y;subst aW;refine gW (Wk.of (sl:=[pP 8 (.ms 900 1 0 g.jo.length)]) (hp:=[pP 900 (.row 1 ((ck l g).map i64))]) aU (.cons rfl (.of (by rw[aio (by rw[pS];exact aie _)])) .nil)) ?_ (26,0);refine gW ((Wk.freeze (k:=900) rfl).trans (Wk.of (sl:=[pP 8 (.lst 1 ((ck l g).map i64))]) (hp:=[]) (.cons rfl (.of (b8 (by rw[ah6,pS]))) .nil) .nil)) ?_;refine bq ?_
 first |rfl |(simp;done)
theorem tx(i:Int)(n:Nat):FP 163 [i64 i,i64 n] (bl (aX i n)):=by
 refine ak func163 ?_;refine ah ?_;exact ajn bl (JP i n)
theorem SX(p q:Mk)(hp:p.ok)(hq:q.ok):FP 164 [p.av,q.av] (bl (decide (p.x.q=q.x.q/\p.y.q=q.y.q))):=by
 refine ak func164 ?_;refine gc (HK p.x q.x hp.x hq.x ((hp.qx.sub hq.qx).qs oz)) ?_;refine bP (fun _=>(HK p.y q.y hp.y hq.y ((hp.qy.sub hq.qy).qs oz))) ?_;refine ah ?_;exact ajn bl Sc
theorem Xw(b:Bd)(lU:b.ok):FP 162 [b.av] (i64 (if 8<b.pts.length then 4 else er b.pts.length (dP b.pts):Nat)):=by
 have jk:=lU.ll;refine ak func162 ?_;refine gl ?_;refine gC (fun z=>?_) (fun z=>?_)
 ·have h0:8<b.pts.length:=dU z;refine ah ?_;rw[ajg h0];rfl
 have h0:b.pts.length<=8:=jT z;have e0:(if 8<b.pts.length then 4 else er b.pts.length (dP b.pts):Nat)=er b.pts.length (dP b.pts):=ajf oz;refine aK [1] [1] (fun(p:Nat)=>[pP 3 (i64 p)]) (fun _=>[]) (fun p=>p<=b.pts.length/\∀j,j<p->dP b.pts j=0) (fun p=>b.pts.length-p) 0 ⟨aii _,fun j h=>by omega⟩ ?_;rintro p ⟨hp,iV⟩ K1 J1;refine gl ?_;refine gC (fun z=>?_) (fun z=>?_)
 ·have eD:=aI z;obtain⟨m,hm⟩:=aB eD;have oy:b.pts.getD p default=m:=aP hm;have pY:=ah3 hm;have xO:=ph Mk.name hm;have xP:=lU.pts m pY;refine gi (ay hm) ?_;refine gc (wK m.name (lU.names m pY)) ?_;refine gC (fun z=>?_) (fun z=>?_)
  ·have h4:=dR z;have e2:dP b.pts p = 5:=by unfold dP; rw [oy,ajg h4]
   refine ah ?_;rw[e0,d6 eD iV (by rw[e2];decide),e2];rfl
  have h4:=eK z;refine aK [1,3,4] [1,4] (fun(q:Nat)=>[pP 5 (i64 q)]) (fun _=>[]) (fun q=>q<=p/\(b.pts.take q).any (fun y=>dB y.name m.name)=false) (fun q=>p-q) 0 ⟨aii _,rfl⟩ ?_;rintro q ⟨hq,l8⟩ K2 J2;refine gC (fun z=>?_) (fun z=>?_)
  ·have bD:=aI z;obtain⟨y,hy⟩:∃y,b.pts[q]?=some y:=aB oz;refine gi (ay hy) ?_;refine gD ?_;refine gC (fun z=>?_) (fun z=>?_)
   ·have h5:dB y.name m.name = true:=z;have e2:dP b.pts p = 6:=by unfold dP; rw [oy,ajf (by rw [h4]; decide),ajg (by rw [xO]; exact mo hy bD h5)]
    refine ah ?_;rw[e0,d6 eD iV (by rw[e2];decide),e2];rfl
   have h5:dB y.name m.name=false:=z;refine ga aG ?_;exact aE J2 (q+1) ⟨bD,lJ hy l8 h5⟩
  have bD:=aV hq z;subst bD;have xQ:¬fP (b.pts.map Mk.name) q=true:=by rw[xO,l8];decide
  refine gc (wk m.x xP.x) ?_;refine bP (fun _=>(wk m.y xP.y)) ?_;refine gC (fun z=>?_) (fun z=>?_)
  ·have h6:=rh z;have e2:dP b.pts q = 3:=by unfold dP; rw [oy,ajf (by rw [h4]; decide),ajf xQ,ajf (by rintro ⟨g1,g2⟩; rcases h6 with g | g; (rw [g1] at g; cases g); (rw [g2] at g; cases g))]
   refine ah ?_;rw[e0,d6 eD iV (by rw[e2];decide),e2];rfl
  have h6:=rz z;have e2:dP b.pts q=0:=by unfold dP;rw[oy,ajf (by rw[h4];decide),ajf xQ,ajg h6]
  refine ga aG ?_;exact aE J1 (q+1) ⟨eD,fun j h9=>by rcases aid j q with g |g;exact iV j g;(have:j=q:=by omega);subst this;exact e2⟩
 have eD:=aV hp z;subst eD;refine ah ?_;rw[e0,pE iV];rfl
theorem UU(l:Li)(hl:l.ok):FP 75 [l.av] (i64 (il l)):=by
 have fJ:=hl.lb;have e0:il l=er l.bo.length (eh l.bo):=rfl;refine ak func75 ?_;refine aK [1] [1] (fun(i:Nat)=>[pP 3 (i64 i)]) (fun _=>[]) (fun i=>i<=l.bo.length/\∀j,j<i->eh l.bo j=0) (fun i=>l.bo.length-i) 0 ⟨aii _,fun j h=>by omega⟩ ?_;rintro i ⟨hi,hj⟩ K1 J1;refine gl ?_;refine gC (fun z=>?_) (fun z=>?_)
 ·have ae:=aI z;obtain⟨b,hb⟩:=aB ae;have ci:l.bo.getD i default=b:=aP hb;have lU:=hl.bo b (ah3 hb);have iD:=ph Bd.name hb;refine gi (ay hb) ?_;refine gc (wK b.name lU.name) ?_;refine gC (fun z=>?_) (fun z=>?_)
  ·have h1:=dR z;have e1:eh l.bo i = 5:=by unfold eh; rw [ci,ajg h1]
   refine ah ?_;rw[e0,d6 ae hj (by rw[e1];decide),e1];rfl
  have h1:=eK z;refine aK [1,3] [1] (fun(k:Nat)=>[pP 4 (i64 k)]) (fun _=>[]) (fun k=>k<=i/\(l.bo.take k).any (fun y=>dB y.name b.name)=false) (fun k=>i-k) 0 ⟨aii _,rfl⟩ ?_;rintro k ⟨hk,hd⟩ K2 J2;refine gC (fun z=>?_) (fun z=>?_)
  ·have aW:=aI z;obtain⟨y,hy⟩:∃y,l.bo[k]?=some y:=aB oz;refine gi (ay hy) ?_;refine gi (ay hb) ?_;refine gD ?_;refine gC (fun z=>?_) (fun z=>?_)
   ·have h2:dB y.name b.name = true:=z;have e1:eh l.bo i = 6:=by unfold eh; rw [ci,ajf (by rw [h1]; decide),ajg (by rw [iD]; exact mo hy aW h2)]
    refine ah ?_;rw[e0,d6 ae hj (by rw[e1];decide),e1];rfl
   have h2:dB y.name b.name=false:=z;refine ga aG ?_;exact aE J2 (k+1) ⟨aW,lJ hy hd h2⟩
  have aW:=aV hk z;subst aW;have b7:¬fP (l.bo.map Bd.name) k=true:=by rw[iD,hd];decide
  have e1:eh l.bo k=if 8<b.pts.length then 4 else er b.pts.length (dP b.pts):=by unfold eh;rw[ci,ajf (by rw[h1];decide),ajf b7]
  refine gi (ay hb) ?_;refine gc (Xw b lU) ?_;refine gC (fun z=>?_) (fun z=>?_)
  ·have h3:=qk z;refine ah ?_;rw[e0,d6 ae hj (by rw[e1];exact h3),e1]
  have h3:=q9 z;refine ga aG ?_;exact aE J1 (k+1) ⟨ae,fun j h9=>by rcases aid j k with g |g;exact hj j g;(have:j=k:=by omega);subst this;exact e1.trans h3⟩
 have ae:=aV hi z;subst ae;refine ah ?_;rw[e0,pE hj];rfl
theorem S9(l:Li)(hl:l.ok)(i:Nat)(hi:i<l.jo.length)(h16:l.jo.length<=16):FP 76 [l.av,i64 i] (i64 (gh l i)):=by
 obtain⟨j,oB⟩:=aB hi;have ci:l.jo.getD i default=j:=aP oB;have iD:=ph Jt.name oB;refine ak func76 ?_;refine gi (ay oB) ?_;refine gc (wK j.name (hl.jnames j (ah3 oB))) ?_;refine gC (fun z=>?_) (fun z=>?_)
 ·have h0:=dR z;refine ah ?_;unfold gh;rw[ci,ajg h0];rfl
 have h0:=eK z;refine aK [1,2,5] [2,5] (fun(k:Nat)=>[pP 6 (i64 k)]) (fun _=>[]) (fun k=>k<=i/\(l.jo.take k).any (fun y=>dB y.name j.name)=false) (fun k=>i-k) 0 ⟨aii _,rfl⟩ ?_;rintro k ⟨hk,hd⟩ K1 J1;refine gC (fun z=>?_) (fun z=>?_)
 ·have aW:=aI z;obtain⟨y,hy⟩:∃y,l.jo[k]?=some y:=aB oz;refine gi (ay hy) ?_;refine gD ?_;refine gC (fun z=>?_) (fun z=>?_)
  ·have h2:dB y.name j.name=true:=z;refine ah ?_;unfold gh;rw[ci,ajf (by rw[h0];decide),ajg (by rw[iD];exact mo hy aW h2)];rfl
  have h2:dB y.name j.name=false:=z;refine ga aG ?_;exact aE J1 (k+1) ⟨aW,lJ hy hd h2⟩
 have aW:=aV hk z;subst aW;have b7:¬fP (l.jo.map Jt.name) k=true:=by rw[iD,hd];decide
 have e1:gh l k=ew l j:=by unfold gh;rw[ci,ajf (by rw[h0];decide),ajf b7]
 refine gC (fun z=>?_) (fun z=>?_)
 ·have h1:=Ki z;refine ah ?_;rw[e1];unfold ew;rw[ajg h1];rfl
 have h1:=HC z;refine gl ?_;refine gc (tx j.a l.bo.length) ?_;refine cq ?_;refine bP (fun _=>(tx j.b l.bo.length)) ?_;refine gC (fun z=>?_) (fun z=>?_)
 ·have h2:=rh z;refine ah ?_;rw[e1];unfold ew;rw[ajf h1,ajg h2];rfl
 have h2:=rz z;have jr:¬(aX j.a l.bo.length=false\/aX j.b l.bo.length=false):=by rw[h2.1,h2.2];simp
 obtain⟨A,hA,pA,mA,zA0⟩:=sS h2.1;obtain⟨B,hB,pB,mB,zB0⟩:=sS h2.2;refine gC (fun z=>?_) (fun z=>?_)
 ·have h3:=dZ z;refine ah ?_;rw[e1];unfold ew;rw[ajf h1,ajf jr,ajg h3];rfl
 have h3:=dw z;refine gi (ay hA) ?_;refine gi (ay hB) ?_;refine gD ?_;refine gl ?_;refine gc (tx j.point A.pts.length) ?_;refine cq ?_;refine bP (fun _=>(tx j.on B.pts.length)) ?_;refine gC (fun z=>?_) (fun z=>?_)
 ·have h4:=rh z;refine ah ?_;rw[e1];unfold ew;rw[ajf h1,ajf jr,ajf h3,pA,pB,ajg h4];rfl
 have h4:=rz z;have l9:¬(aX j.point A.pts.length=false\/aX j.on B.pts.length=false):=by rw[h4.1,h4.2];simp
 refine gC (fun z=>?_) (fun z=>?_)
 ·have h5:=dZ z;refine gC (fun z=>?_) (fun z=>?_)
  ·have h6:=Ad z;refine ah ?_;rw[e1];unfold ew;rw[ajf h1,ajf jr,ajf h3,pA,pB,ajf l9,ajg h5,ajg h6];rfl
  have h6:=JL z;refine ah ?_;rw[e1];unfold ew;rw[ajf h1,ajf jr,ajf h3,pA,pB,ajf l9,ajg h5,ajf (by rw[h6];simp)];rfl
 have h5:=dw z;refine gl ?_;refine gc (tx j.to B.pts.length) ?_;refine gC (fun z=>?_) (fun z=>?_)
 ·have h6:=dR z;refine ah ?_;rw[e1];unfold ew;rw[ajf h1,ajf jr,ajf h3,pA,pB,ajf l9,ajf h5,ajg h6];rfl
 have h6:=eK z;obtain⟨m1,g1,d1,mm1,z1⟩:=vh h4.2;obtain⟨m2,g2,d2,mm2,z2⟩:=vh h6;have mo1:=(hl.bo B mB).pts m1 mm1;have mo2:=(hl.bo B mB).pts m2 mm2;refine gi (ay g1) ?_;refine gi (ay g2) ?_;refine gc (SX m1 m2 mo1 mo2) ?_;refine gD ?_;refine gC (fun z=>?_) (fun z=>?_)
 ·have h7:=aji z;refine ah ?_;rw[e1];unfold ew;rw[ajf h1,ajf jr,ajf h3,pA,pB,ajf l9,ajf h5,ajf (by rw[h6];decide),d1,d2,ajg h7];rfl
 have h7:=ajj z;refine ah ?_;rw[e1];unfold ew;rw[ajf h1,ajf jr,ajf h3,pA,pB,ajf l9,ajf h5,ajf (by rw[h6];decide),d1,d2,ajf h7];rfl
theorem TS(l:Li)(hl:l.ok)(i:Nat)(hi:i<l.drivers.length)(h2l:l.drivers.length<=2):FP 77 [l.av,i64 i] (i64 (dH l i)):=by
 obtain⟨b,hb⟩:=aB hi;have ci:l.drivers.getD i default=b:=aP hb;have iD:=ph Dr.name hb;refine ak func77 ?_;refine gi (ay hb) ?_;refine gc (wK b.name (hl.dnames b (ah3 hb))) ?_;refine gC (fun z=>?_) (fun z=>?_)
 ·have h1:=dR z;refine ah ?_;unfold dH;rw[ci,ajg h1];rfl
 have h1:=eK z;refine aK [1,2,5] [2,5] (fun(k:Nat)=>[pP 6 (i64 k)]) (fun _=>[]) (fun k=>k<=i/\(l.drivers.take k).any (fun y=>dB y.name b.name)=false) (fun k=>i-k) 0 ⟨aii _,rfl⟩ ?_;rintro k ⟨hk,hd⟩ K1 J1;refine gC (fun z=>?_) (fun z=>?_)
 ·have aW:=aI z;obtain⟨y,hy⟩:∃y,l.drivers[k]?=some y:=aB oz;refine gi (ay hy) ?_;refine gD ?_;refine gC (fun z=>?_) (fun z=>?_)
  ·have h2:dB y.name b.name=true:=z;refine ah ?_;unfold dH;rw[ci,ajf (by rw[h1];decide),ajg (by rw[iD];exact mo hy aW h2)];rfl
  have h2:dB y.name b.name=false:=z;refine ga aG ?_;exact aE J1 (k+1) ⟨aW,lJ hy hd h2⟩
 have aW:=aV hk z;subst aW;have b7:¬fP (l.drivers.map Dr.name) k=true:=by rw[iD,hd];decide
 refine gl ?_;refine gc (tx b.body l.bo.length) ?_;refine gC (fun z=>?_) (fun z=>?_)
 ·have h3:=dR z;refine ah ?_;unfold dH;rw[ci,ajf (by rw[h1];decide),ajf b7,ajg h3];rfl
 have h3:=eK z;refine gC (fun z=>?_) (fun z=>?_)
 ·have h4:=dZ z;refine ah ?_;unfold dH;rw[ci,ajf (by rw[h1];decide),ajf b7,ajf (by rw[h3];decide),ajg h4];rfl
 have h4:=dw z;have e1:dH l k=if(l.drivers.take k).any (fun d=>decide (d.body=b.body))=true then 6 else 0:=by unfold dH;rw[ci,ajf (by rw[h1];decide),ajf b7,ajf (by rw[h3];decide),ajf h4]
 refine aK [1,2,5] [2,5] (fun(q:Nat)=>[pP 7 (i64 q)]) (fun _=>[]) (fun q=>q<=k/\(l.drivers.take q).any (fun d=>decide (d.body=b.body))=false) (fun q=>k-q) 0 ⟨aii _,rfl⟩ ?_;rintro q ⟨hq,l8⟩ K2 J2;refine gC (fun z=>?_) (fun z=>?_)
 ·have bD:=aI z;obtain⟨y,hy⟩:∃y,l.drivers[q]?=some y:=aB oz;refine gi (ay hy) ?_;refine gD ?_;refine gC (fun z=>?_) (fun z=>?_)
  ·have h5:decide (y.body=b.body)=true:=ajk (dZ z);refine ah ?_;rw[e1,ajg (mo hy bD h5)];rfl
  have h5:decide (y.body=b.body)=false:=ajl (dw z);refine ga aG ?_;exact aE J2 (q+1) ⟨bD,lJ hy l8 h5⟩
 have bD:=aV hq z;subst bD;refine ah ?_;rw[e1,l8];rfl
theorem NV(l:Li)(hl:l.ok):FP 26 [l.av] (i64 (ax l)):=by
 have fJ:=hl.lb;refine ak func26 ?_;refine gc (wK l.name hl.name) ?_;refine gC (fun z=>?_) (fun z=>?_)
 ·have h1:=dR z;refine ah ?_;unfold ax;rw[ajg h1];rfl
 have h1:=eK z;refine gl ?_;refine gC (fun z=>?_) (fun z=>?_)
 ·have h2:=GU z;refine ah ?_;unfold ax;rw[ajf (by rw[h1];decide),ajg h2];rfl
 have h2:=JB z;refine gl ?_;refine gC (fun z=>?_) (fun z=>?_)
 ·have h3:8<l.bo.length:=dU z;refine ah ?_;unfold ax;rw[ajf (by rw[h1];decide),ajf h2,ajg h3];rfl
 have h3:l.bo.length<=8:=jT z;have e0:ax l=if il l≠0 then il l else if ez l≠0 then ez l else gK l:=by unfold ax;rw[ajf (by rw[h1];decide),ajf h2,ajf oz]
 refine gc (UU l hl) ?_;refine gC (fun z=>?_) (fun z=>?_)
 ·have h4:il l≠0:=qk z;refine ah ?_;rw[e0,ajg h4]
 have h4:il l=0:=q9 z;refine gl ?_;refine gC (fun z=>?_) (fun z=>?_)
 ·have h5:16 < l.jo.length:=dU z;have ej:ez l = 4:=by unfold ez; rw [ajg h5]
  refine ah ?_;rw[e0,ajf (by rw[h4];simp),ajg (by rw[ej];decide),ej];rfl
 have h5:l.jo.length<=16:=jT z;have ej:ez l=er l.jo.length (gh l):=by unfold ez;rw[ajf oz]
 refine aK [1] [1] (fun(i:Nat)=>[pP 4 (i64 i)]) (fun _=>[]) (fun i=>i<=l.jo.length/\∀j,j<i->gh l j=0) (fun i=>l.jo.length-i) 0 ⟨aii _,fun j h=>by omega⟩ ?_;rintro i ⟨hi,hj⟩ K1 J1;refine gl ?_;refine gC (fun z=>?_) (fun z=>?_)
 ·have ae:=aI z;refine gc (S9 l hl i ae h5) ?_;refine gC (fun z=>?_) (fun z=>?_)
  ·have h6:=qk z;refine ah ?_;rw[e0,ajf (by rw[h4];simp),ajg (by rw[ej,d6 ae hj h6];exact h6),ej,d6 ae hj h6]
  have h6:=q9 z;refine ga aG ?_;exact aE J1 (i+1) ⟨ae,fun j h9=>by rcases aid j i with g |g;exact hj j g;(have:j=i:=by omega);subst this;exact h6⟩
 have ae:=aV hi z;subst ae;have ejz:ez l=0:=ej.trans (pE hj);have e0':ax l=gK l:=by rw[e0,ajf (by rw[h4];simp),ajf (by rw[ejz];simp)]
 refine gl ?_;refine gC (fun z=>?_) (fun z=>?_)
 ·have h6:2<l.drivers.length:=dU z;refine ah ?_;rw[e0'];unfold gK;rw[ajg h6];rfl
 have h6:l.drivers.length<=2:=jT z;have ed:gK l=er l.drivers.length (dH l):=by unfold gK;rw[ajf oz]
 refine aK [1] [1] (fun(k:Nat)=>[pP 6 (i64 k)]) (fun _=>[]) (fun k=>k<=l.drivers.length/\∀j,j<k->dH l j=0) (fun k=>l.drivers.length-k) 0 ⟨aii _,fun j h=>by omega⟩ ?_;rintro k ⟨hk,gU⟩ K2 J2;refine gl ?_;refine gC (fun z=>?_) (fun z=>?_)
 ·have aW:=aI z;refine gc (TS l hl k aW h6) ?_;refine gC (fun z=>?_) (fun z=>?_)
  ·have h7:=qk z;refine ah ?_;rw[e0',ed,d6 aW gU h7]
  have h7:=q9 z;refine ga aG ?_;exact aE J2 (k+1) ⟨aW,fun j h9=>by rcases aid j k with g |g;exact gU j g;(have:j=k:=by omega);subst this;exact h7⟩
 have aW:=aV hk z;subst aW;refine ah ?_;rw[e0',ed,pE gU];rfl
theorem QF:FP 10 [.v .nilIface] (i64 0):=by
 refine ak func10 ?_;refine gC (fun z=>?_) (fun z=>?_) (st2:=(77777,0))
 ·refine ah ?_
  first |rfl |(simp;done)
 cases z
theorem U3(n:Int):FP 10 [.v (.iface 107 (.int .i64 n))] (i64 n):=by
 refine ak func10 ?_;refine gf ?_;refine gs (aak (.tmp rfl) T107 rfl rfl) ?_;refine gf ?_;refine ah ?_;rfl
theorem Xp(e:Nat):FP 10 [db e] (i64 e):=by
 cases e with
 |zero=>exact QF
 |succ e=>exact U3 _
theorem yx{l:Li}(hl:ax l=0):(aC l).length<=8:=by
 unfold aC;split
 ·exact(yX hl).2
 ·exact aii _
abbrev eN{ts:LL}(p:Et ts×Et ts):AV:=Oz (sX p.1) (sX p.2)
abbrev nl:AV:=nS
section
variable{ts:LL}{a b a2 b2:List Rat}{x y x2 y2:Et ts}
end
open Lean.Grind (CommRing)
section
variable{r:(k:Nat)->T k}
end
section
variable{r:(k:Nat)->T k}{n:Nat}
def zS(h:fT r n):Setoid (E r n) where
  r x y:=sg r n (x-y)=0
  iseqv:=by
    have H:=pa r n h;refine⟨fun x=>?_,fun {x y} e=>?_,fun {x y z} e f=>?_⟩
    · rw[show x-x=0 by grind];exact H.zero
    · rw[show y-x=-(x-y) by grind,H.neg,e];rfl
    · rw[show x-z=(x-y)+(y-z) by grind,H.zadd e];exact f
def Zq(h:fT r n):Type:=Quotient (zS h)
def aY(h:fT r n)(x:E r n):Zq h:=Quotient.mk (zS h) x
theorem se(h:fT r n){x y:E r n}:aY h x=aY h y↔sg r n (x-y)=0 :=
 ⟨fun e=>Quotient.exact (s:=zS h) e,fun e=>Quotient.sound (s:=zS h) e⟩
instance (h:fT r n):Add (Zq h):=⟨Quotient.lift₂ (fun x y=>aY h (x+y)) (by
  intro a b c d e f;have H:=pa r n h;refine(se h).2 ?_;rw[show a+b-(c+d)=(a-c)+(b-d) by grind,H.zadd (show sg r n (a-c)=0 from e)];exact f)⟩
instance (h:fT r n):Mul (Zq h):=⟨Quotient.lift₂ (fun x y=>aY h (x*y)) (by
  intro a b c d e f;have H:=pa r n h;refine(se h).2 ?_;have e':sg r n (a-c)=0:=e;have f':sg r n (b-d)=0:=f;rw[show a*b-c*d=(a-c)*b+c*(b-d) by grind,H.zadd (by rw[H.mul,e'];simp),H.mul,f'];simp)⟩
instance (h:fT r n):Neg (Zq h):=⟨Quotient.lift (fun x=>aY h (-x)) (by
  intro a c e;have H:=pa r n h;refine(se h).2 ?_;have e':sg r n (a-c)=0:=e;rw[show -a - -c=-(a-c) by grind,H.neg,e'];rfl)⟩
instance (h:fT r n):_root_.Sub (Zq h):=⟨fun x y=>x+-y⟩
instance (h:fT r n)(c:Nat):OfNat (Zq h) c:=⟨aY h (OfNat.ofNat c)⟩
instance (h:fT r n):NatCast (Zq h):=⟨fun c=>aY h (c:E r n)⟩
instance (h:fT r n):IntCast (Zq h):=⟨fun c=>aY h (c:E r n)⟩
instance (h:fT r n):SMul Nat (Zq h):=⟨fun c x=>aY h (c:E r n)*x⟩
instance (h:fT r n):SMul Int (Zq h):=⟨fun c x=>aY h (c:E r n)*x⟩
def Zq.pow{h:fT r n}(x:Zq h):Nat->Zq h
  |0=>aY h 1
  |c+1=>Zq.pow x c*x
instance (h:fT r n):HPow (Zq h) Nat (Zq h):=⟨Zq.pow⟩
variable(h:fT r n)
theorem DT(x y:E r n):aY h (x+y)=aY h x+aY h y:=rfl
theorem yD(x y:E r n):aY h (x*y)=aY h x*aY h y:=rfl
theorem SV(x y:E r n):aY h (x-y)=aY h x-aY h y:=by
 rw[show x-y=x+-y by grind];rfl
theorem eS(a:Zq h):∃x,a=aY h x:=Quotient.ind (motive:=fun a=>∃x,a=aY h x) (fun x=>⟨x,rfl⟩) a
instance zRing:CommRing (Zq h) where
  add_zero a:=by
    obtain⟨x,rfl⟩:=eS h a;exact ajn (aY h) (show x+0=x by grind)
  add_comm a b:=by
    obtain⟨x,rfl⟩:=eS h a;obtain⟨y,rfl⟩:=eS h b;exact ajn (aY h) (show x+y=y+x by grind)
  add_assoc a b c:=by
    obtain⟨x,rfl⟩:=eS h a;obtain⟨y,rfl⟩:=eS h b;obtain⟨z,rfl⟩:=eS h c;exact ajn (aY h) (show x+y+z=x+(y+z) by grind)
  mul_assoc a b c:=by
    obtain⟨x,rfl⟩:=eS h a;obtain⟨y,rfl⟩:=eS h b;obtain⟨z,rfl⟩:=eS h c;exact ajn (aY h) (show x*y*z=x*(y*z) by grind)
  mul_one a:=by
    obtain⟨x,rfl⟩:=eS h a;exact ajn (aY h) (show x*1=x by grind)
  one_mul a:=by
    obtain⟨x,rfl⟩:=eS h a;exact ajn (aY h) (show 1*x=x by grind)
  left_distrib a b c:=by
    obtain⟨x,rfl⟩:=eS h a;obtain⟨y,rfl⟩:=eS h b;obtain⟨z,rfl⟩:=eS h c;exact ajn (aY h) (show x*(y+z)=x*y+x*z by grind)
  right_distrib a b c:=by
    obtain⟨x,rfl⟩:=eS h a;obtain⟨y,rfl⟩:=eS h b;obtain⟨z,rfl⟩:=eS h c;exact ajn (aY h) (show(x+y)*z=x*z+y*z by grind)
  zero_mul a:=by
    obtain⟨x,rfl⟩:=eS h a;exact ajn (aY h) (show 0*x=0 by grind)
  mul_zero a:=by
    obtain⟨x,rfl⟩:=eS h a;exact ajn (aY h) (show x*0=0 by grind)
  pow_zero a:=rfl
  pow_succ a c:=rfl
  ofNat_succ c:=ajn (aY h) (Lean.Grind.Semiring.ofNat_succ (α:=E r n) c)
  ofNat_eq_natCast c:=ajn (aY h) (Lean.Grind.Semiring.ofNat_eq_natCast (α:=E r n) c)
  nsmul_eq_natCast_mul c a:=rfl
  neg_add_cancel a:=by
    obtain⟨x,rfl⟩:=eS h a;exact ajn (aY h) (show -x+x=0 by grind)
  sub_eq_add_neg a b:=rfl
  neg_zsmul i a:=by
    obtain⟨x,rfl⟩:=eS h a
    exact ajn (aY h) (show((-i:Int):E r n)*x=-((i:E r n)*x) by
      rw[Lean.Grind.Ring.intCast_neg];grind)
  zsmul_natCast_eq_nsmul c a:=rfl
  intCast_ofNat c:=ajn (aY h) (Lean.Grind.Ring.intCast_ofNat (α:=E r n) c)
  intCast_neg i:=ajn (aY h) (Lean.Grind.Ring.intCast_neg (α:=E r n) i)
  mul_comm a b:=by
    obtain⟨x,rfl⟩:=eS h a;obtain⟨y,rfl⟩:=eS h b;exact ajn (aY h) (show x*y=y*x by grind)
theorem XQ{x:E r n}:aY h x=0↔sg r n x=0:=by
 have e:=se h (x:=x) (y:=0);rw[show x-0=x by grind]at e;exact e
end
example {r:(k:Nat)->T k} {n:Nat} (h:fT r n) (a b c:Zq h) (e:a*b=1) (f:c*a=2):c=2*b:=by grind
end Go.Lw
namespace Go.Lw
open Lean.Grind (CommRing)
structure Hm{ts:LL}{R:Type}[CommRing R](f:Et ts->R):Prop where
  add:∀x y,f (x+y)=f x+f y
  mul:∀x y,f (x*y)=f x*f y
  neg:∀x,f (-x)=-f x
  one:f 1=1
  inv:∀x,a5 x≠0->f (iE x)*f x=1
  zero:∀x,f x=0↔a5 x=0
section
variable{ts:LL}{R:Type}[CommRing R]{f:Et ts->R}(h:Hm f)
include h
theorem Hm.sub(x y:Et ts):f (x-y)=f x-f y:=by
 rw[show x-y=x+-y by grind,h.add,h.neg];grind
theorem Hm.q1:f (qE ((1:Int):Rat))=1:=by rw[UA];exact h.one
theorem Hm.q4:f (qE 4)=4:=by
 have e:(qE 4:Et ts)=1+1+1+1:=by
  have e1:=Kl (r:=aD ts) (n:=ts.length) 1 1;have e2:=Kl (r:=aD ts) (n:=ts.length) 2 2;rw[show(1:Rat)+1=2 by decide +kernel]at e1;rw[show(2:Rat)+2=4 by decide +kernel,e1]at e2;rw[e2];have e3:(qE 1:Et ts)=1:=rfl;rw[e3];grind
 rw[e,h.add,h.add,h.add,h.one];grind
end
abbrev G5(ts:LL):Prop:=fT (aD ts) ts.length
section
variable{R:Type}[CommRing R]
end
end Go.Lw
namespace Go.Lw
open Lean.Grind (CommRing)
def dT{ts:LL}(T:LL)(y:Et ts):Et T:=dE T (sX y)
structure Lf(ts T:LL):Prop where
  pos:G5 T
  hm:Hm (fun y:Et ts=>aY pos (dT T y))
  low:∀l:List Rat,l.length<=2^ts.length->dT T (dE ts l)=dE T l
  q:∀q:Rat,dT T (qE q:Et ts)=qE q
  len:ts.length<=T.length
  sg:∀y:Et ts,a5 (dT T y)=a5 y
  ad:∀x y:Et ts,dT T (x+y)=dT T x+dT T y
  mu:∀x y:Et ts,dT T (x*y)=dT T x*dT T y
section
variable{ts:LL}
end
end Go.Lw
namespace Go.Lw
open Lean.Grind (CommRing)
def qI(T:LL)(p:Pq)(m:Rat×Rat):P2 T:=(dE T p.c*qE m.1-dE T p.s*qE m.2+dE T p.x,dE T p.s*qE m.1+dE T p.c*qE m.2+dE T p.y)
def eW(l:Li)(T:LL)(bs:List Pq)(b pt:Int):P2 T:=qI T (bs.getD b.toNat tz) (aL l b pt)
def JH(l:Li)(T:LL)(bs:List Pq)(j:Jt):Prop :=
  if j.kind=0 then a5 ((eW l T bs j.a j.point).1-(eW l T bs j.b j.on).1)=0/\a5 ((eW l T bs j.a j.point).2-(eW l T bs j.b j.on).2)=0
  else a5 (K9 (iH (eW l T bs j.b j.to) (eW l T bs j.b j.on)) (iH (eW l T bs j.a j.point) (eW l T bs j.b j.on)))=0
section
variable{T:LL}{u p c:Rat×Rat}{w o:P2 T}
end
def rm(a:As):List Pq:=a.bs.map fun b=>⟨lq b.c,lq b.s,lq b.x,lq b.y⟩
theorem N1(l:Li)(a:As)(b pt:Int):jy l a b pt=eW l (llq a.rs) (rm a) b pt:=by
 have e:(rm a).getD b.toNat tz=⟨lq (a.bs.getD b.toNat default).c,lq (a.bs.getD b.toNat default).s,lq (a.bs.getD b.toNat default).x,lq (a.bs.getD b.toNat default).y⟩:=by
  unfold rm;rw[ah4,ah4,aib];cases a.bs[b.toNat]? <;> rfl
 unfold eW;rw[e];rfl
def Nq(n:Nat)(p:Pq):Prop:=p.c.length<=2^n/\p.s.length<=2^n/\p.x.length<=2^n/\p.y.length<=2^n
section
variable{ts T:LL}(L:Lf ts T)
include L
theorem Lf.add(x y:Et ts):aY L.pos (dT T (x+y))=aY L.pos (dT T x)+aY L.pos (dT T y):=L.hm.add x y
theorem Lf.mul(x y:Et ts):aY L.pos (dT T (x*y))=aY L.pos (dT T x)*aY L.pos (dT T y):=L.hm.mul x y
theorem Lf.sub(x y:Et ts):aY L.pos (dT T (x-y))=aY L.pos (dT T x)-aY L.pos (dT T y):=L.hm.sub x y
theorem Lf.one:aY L.pos (dT T (1:Et ts))=1:=L.hm.one
theorem Lf.at{p:Pq}(hp:Nq ts.length p)(m:Rat×Rat):aY L.pos (qI T p m).1=aY L.pos (dT T (qI ts p m).1)/\aY L.pos (qI T p m).2=aY L.pos (dT T (qI ts p m).2):=by
 obtain⟨h1,h2,h3,h4⟩:=hp;unfold qI;dsimp only;constructor
 ·rw[L.add,L.sub,L.mul,L.mul,L.low _ h1,L.low _ h2,L.low _ h3,L.q,L.q,DT,SV,yD,yD]
 ·rw[L.add,L.add,L.mul,L.mul,L.low _ h1,L.low _ h2,L.low _ h4,L.q,L.q,DT,DT,yD,yD]
theorem Lf.zero(x:Et ts):a5 (dT T x)=0↔a5 x=0:=(XQ L.pos).symm.trans (L.hm.zero x)
end
end Go.Lw
namespace Go.Lw
open Lean.Grind (CommRing)
def BH(bs bs':List Pq)(n:Nat)(b:Int):Prop:=bs'.getD b.toNat tz=bs.getD b.toNat tz/\Nq n (bs.getD b.toNat tz)
section
variable{ts T:LL}(L:Lf ts T)
include L
theorem Lf.pt(l:Li){bs bs':List Pq}{b:Int}(h:BH bs bs' ts.length b)(pt:Int) :
  aY L.pos (eW l T bs' b pt).1=aY L.pos (dT T (eW l ts bs b pt).1)/\aY L.pos (eW l T bs' b pt).2=aY L.pos (dT T (eW l ts bs b pt).2):=by
 unfold eW;rw[h.1];exact L.at h.2 _
end
section
variable{T:LL}(hp:G5 T)
include hp
theorem N0{l:Li}{bs:List Pq}{j:Jt}(hk:j.kind=0)(h1:aY hp (eW l T bs j.a j.point).1=aY hp (eW l T bs j.b j.on).1)(h2:aY hp (eW l T bs j.a j.point).2=aY hp (eW l T bs j.b j.on).2):JH l T bs j:=by
 unfold JH;rw[ajg hk];exact⟨(se hp).1 h1,(se hp).1 h2⟩
end
section
variable{ts T:LL}(L:Lf ts T)
include L
end
section
variable{l:Li}{a:As}{T:LL}(L:Lf (llq a.rs) T)
include L
theorem Lf.pin{bs':List Pq}{j:Jt}{i:Int}(hk:j.kind=0)(tie:(j.a=i/\BH (rm a) bs' (llq a.rs).length j.b)\/(j.a≠i/\j.b=i/\BH (rm a) bs' (llq a.rs).length j.a))
  (h:qI T (bs'.getD i.toNat tz) (bi l j i)=(dT T (fm l a j i).1,dT T (fm l a j i).2)):JH l T bs' j:=by
 have h1:=ajn Prod.fst h;have h2:=ajn Prod.snd h;dsimp only at h1 h2;rcases tie with⟨e,hs⟩ |⟨e,e2,hs⟩
 ·have b:=L.pt l hs j.on;unfold bi fm at h1 h2;simp only[ajg e]at h1 h2;rw[N1]at h1 h2;refine N0 L.pos hk ?_ ?_
  ·rw[b.1];unfold eW;rw[e];exact ajn (aY L.pos) h1
  ·rw[b.2];unfold eW;rw[e];exact ajn (aY L.pos) h2
 ·have b:=L.pt l hs j.point;unfold bi fm at h1 h2;simp only[ajf e]at h1 h2;rw[N1]at h1 h2;refine N0 L.pos hk ?_ ?_
  ·rw[b.1]
   conv=>rhs;unfold eW
   rw[e2];exact(ajn (aY L.pos) h1).symm
  ·rw[b.2]
   conv=>rhs;unfold eW
   rw[e2];exact(ajn (aY L.pos) h2).symm
end
section
variable{l:Li}{a:As}{r:Nat}(tw:Tw (llq a.rs) r)(hN:∀p∈rm a,Nq (llq a.rs).length p)
include tw hN
end
end Go.Lw
namespace Go.Lw
open Lean.Grind (CommRing)
section
variable{l:Li}{a:As}{r:Nat}(tw:Tw (llq a.rs) r)(hN:∀p∈rm a,Nq (llq a.rs).length p)
include tw hN
end
end Go.Lw
namespace Go.Lw
open Lean.Grind (CommRing)
section
variable{R:Type}[CommRing R]
end
section
variable{ts:LL}
end
section
variable{ts T:LL}(L:Lf ts T)
include L
end
end Go.Lw
namespace Go.Lw
open Go.Proofs
abbrev Va(p:Rat×Rat):List AV:=(qA p.1).cells++(qA p.2).cells
abbrev lD(p:Rat×Rat):AV:=.agg (Va p)
abbrev ii(v:List Rat×List Rat):AV:=.agg [nA v.1,nA v.2]
abbrev sk(l:Li)(G:List Gr)(e:Nat):List AV:=[.v (.string l.name),.lst 2 (l.bo.map Bd.av),.lst 7 (l.jo.map Jt.av),.lst 2 (l.drivers.map Dr.av),.lst 4 (G.map Gr.av),db e]
abbrev cm(l:Li)(G:List Gr)(e:Nat):Hp:=[pP 1000 (.box (sk l G e))]
theorem Nk{e:Nat}(h:eI (hO e)=true):e=0:=by
 cases e with
 |zero=>rfl
 |succ n=>cases h
theorem RG{e:Nat}(h:eI (hO e)=false):e≠0:=by
 intro h0;subst h0;cases h
theorem Qh(e:Nat):(db e).ok=true:=by cases e <;> rfl
theorem Jr(q:Rat):iW (qA q) (qA q):=⟨rfl,fun j x y hx hy=>by
 match j,hx,hy with
 |0,hx,hy=>cases hx;cases hy;exact⟨rfl,.refl _⟩
 |1,hx,hy=>cases hx;cases hy;exact⟨rfl,.refl _⟩
 |2,hx,hy=>cases hx;cases hy;exact⟨rfl,.refl _⟩⟩
theorem Up:iW (.agg [.v (.bool false),nS,nS]) (qA 0):=⟨rfl,fun j x y hx hy=>by
 match j,hx,hy with
 |0,hx,hy=>cases hx;cases hy;exact⟨rfl,.refl _⟩
 |1,hx,hy=>cases hx;cases hy;exact⟨rfl,.nil _ _ _⟩
 |2,hx,hy=>cases hx;cases hy;exact⟨rfl,.nil _ _ _⟩⟩
theorem Yh{sz:Nat}{a b c a' b' c':AV}(h1:iW a a')(h2:iW b b')(h3:iW c c'):Sub (.lst sz [a,b,c]) (.lst sz [a',b',c']) :=
 Sub.lst rfl (fun i x y hx hy=>by
  match i,hx,hy with
  |0,hx,hy=>cases hx;cases hy;exact h1
  |1,hx,hy=>cases hx;cases hy;exact h2
  |2,hx,hy=>cases hx;cases hy;exact h3)
def cQ(e:Nat)(xs:List Rat):Nat:=if e≠0 then e else if xs.all (fun x=>decide (0<x))then 0 else 15
theorem Sy(e:Nat):cQ e []=e:=by unfold cQ;split;rfl;(rename_i h;simp only[List.all_nil,if_true];omega)
theorem QR(e:Nat)(xs:List Rat)(x:Rat):cQ e (xs++[x])=if cQ e xs≠0 then cQ e xs else if 0<x then 0 else 15:=by
 unfold cQ
 by_cases h:e≠0
 ·rw[ajg h,ajg h,ajg h]
 ·rw[ajf h,ajf h,all_append];cases h1:xs.all (fun x=>decide (0<x))
  ·simp
  ·simp
theorem Oi{x:Rat}:aa .leq (aR x) 0=!decide (0<x):=by
 have h:aa .leq (aR x) 0=decide (aR x<=0):=rfl;rw[h];rcases mJ x with h |h |h
 ·rw[ajk oz,ajl (by grind)];rfl
 ·rw[ajk oz,ajl (by grind)];rfl
 ·rw[ajl oz,ajk h.2];rfl
section
variable(l:Li)(G:List Gr)
theorem YP(p:List Rat)(e2:Nat):Con prog 284 [.ptr 1000 0,nA p,db e2] (cm l G 0) (nA p) (cm l G e2):=by
 refine gF func284 (fun k z h=>eU h) ?_;refine gC (fun y=>?_) (fun y=>?_) (st1:=(2,5)) (st2:=(77777,0))
 ·refine gs ((Hh (.tmp rfl) rfl (.tmp rfl) (Qh e2) T32 rfl rfl)) ?_;refine gR ?_;exact aJ.keep (d8 rfl)
 cases y
theorem Z7{e:Nat}(he:e≠0)(p:List Rat)(e2:Nat):Con prog 284 [.ptr 1000 0,nA p,db e2] (cm l G e) (nA p) (cm l G e):=by
 refine gF func284 (fun k z h=>eU h) ?_;refine gC (fun y=>?_) (fun y=>?_) (st1:=(2,0));exact ajm (Nk y) he;refine gR ?_;exact aJ.keep (d8 rfl)
theorem KN(e:Nat)(p:List Rat)(e2:Nat):Con prog 284 [.ptr 1000 0,nA p,db e2] (cm l G e) (nA p) (cm l G (if e=0 then e2 else e)):=by
 by_cases h:e=0
 ·subst h;rw[ajg rfl];exact YP l G p e2
 ·rw[ajf h];exact Z7 l G h p e2
theorem uS(e:Nat)(p:List Rat):Con prog 284 [.ptr 1000 0,nA p,.v .nilIface] (cm l G e) (nA p) (cm l G e):=by
 have h:=KN l G e p 0;have e1:(if e=0 then 0 else e)=e:=by split <;> omega
 rw[e1]at h;exact h
theorem yo{p q r:List Rat}(e:Nat)(h:FP 286 [nA p,nA q] (.tup [nA r,.v .nilIface])):Con prog 185 [.ptr 1000 0,nA p,nA q] (cm l G e) (nA r) (cm l G e):=by
 refine gF func185 (fun k z h=>eU h) ?_;refine gc h ?_;refine gt (br (uS l G e r) (a7 rfl rfl rfl) bT rfl rfl) ?_;refine gR ?_;exact aJ.keep (d8 rfl)
theorem sY{p q r:List Rat}(e:Nat)(h:FP 288 [nA p,nA q] (.tup [nA r,.v .nilIface])):Con prog 188 [.ptr 1000 0,nA p,nA q] (cm l G e) (nA r) (cm l G e):=by
 refine gF func188 (fun k z h=>eU h) ?_;refine gc h ?_;refine gt (br (uS l G e r) (a7 rfl rfl rfl) bT rfl rfl) ?_;refine gR ?_;exact aJ.keep (d8 rfl)
theorem pF{p q r:List Rat}(e:Nat)(h:FP 166 [nA p,nA q] (.tup [nA r,.v .nilIface])):Con prog 187 [.ptr 1000 0,nA p,nA q] (cm l G e) (nA r) (cm l G e):=by
 refine gF func187 (fun k z h=>eU h) ?_;refine gc h ?_;refine gt (br (uS l G e r) (a7 rfl rfl rfl) bT rfl rfl) ?_;refine gR ?_;exact aJ.keep (d8 rfl)
theorem qU{p r:List Rat}{c:Rat}(e:Nat)(h:FP 287 [nA p,qA c] (.tup [nA r,.v .nilIface])):Con prog 186 [.ptr 1000 0,qA c,nA p] (cm l G e) (nA r) (cm l G e):=by
 refine gF func186 (fun k z h=>eU h) ?_;refine gc h ?_;refine gt (br (uS l G e r) (a7 rfl rfl rfl) bT rfl rfl) ?_;refine gR ?_;exact aJ.keep (d8 rfl)
theorem FG(p:List Rat)(hq:∀c∈p,Qs c)(hl:p.length<=1000):FP 165 [nA p] (nA (ptr p)):=by
 refine ak func165 ?_;refine gc (Az p hq hl) ?_;refine ah ?_;rfl
theorem zP:FP 179 [] (nA pW):=by
 have hl:=FG pW (fun c hc=>by simp only[pW,aiq,aim,or_false]at hc;rcases hc with rfl |rfl |rfl;exact Qb.one.qs oz;exact Qs.zero;exact Qb.one.qs oz) (by decide);have qc:FP 165 [.lst 3 [qA ((1:Int):Rat),.agg [.v (.bool false),nS,nS],qA ((1:Int):Rat)]] (nA pW):=Con.subA (.cons (Yh (Jr _) Up (Jr _)) .nil) hl;refine ak func179 ?_;refine gc (pM 1 oz) ?_;refine gc (pM 1 oz) ?_;refine gc qc ?_;refine ah ?_;rfl
theorem Ie{p:List Rat}(e:Nat)(h:FP 366 [nA p,nA pW] (.tup [nA (dvQ p),nA (fM p),.v .nilIface]))(h0:fM p=[]):Con prog 285 [.ptr 1000 0,nA p] (cm l G e) (nA (dvQ p)) (cm l G e):=by
 rw[h0]at h;refine gF func285 (fun k z h=>eU h) ?_;refine gc zP ?_;refine gc h ?_;refine cq ?_;refine gf ?_;refine gt (br (uS l G e (dvQ p)) (a7 rfl rfl rfl) bT rfl rfl) ?_;refine gR ?_;exact aJ.keep (d8 rfl)
theorem JI{p q:Rat×Rat}(h1:Qs p.1)(h2:Qs p.2)(h3:Qs q.1)(h4:Qs q.2):FP 182 [lD p,lD q] (lD (cc p q)):=by
 refine ak func182 ?_;refine gc (tp h1 h3) ?_;refine gc (tp h2 h4) ?_;refine gD ?_;refine ah ?_;rfl
theorem ZZ{p:Rat×Rat}(h1:Qs p.1)(h2:Qs p.2)(h3:Qs (p.1*p.1))(h4:Qs (p.2*p.2)):FP 181 [lD p] (qA (p.1*p.1+p.2*p.2)):=by
 refine ak func181 ?_;refine gc (jA h1 h1) ?_;refine gc (jA h2 h2) ?_;refine gc (wX h3 h4) ?_;refine gD ?_;refine ah ?_;rfl
theorem zN(j:Jt)(b:Int):FP 176 [j.av,i64 b] (.tup [i64 (dh j b),i64 (fE j b),i64 (b9 j b)]):=by
 refine ak func176 ?_;refine gC (fun z=>?_) (fun z=>?_)
 ·have h1:j.a=b:=dZ z;refine gD ?_;refine mv ?_;unfold dh fE b9;rw[ajg h1,ajg h1,ajg h1]
 have h1:j.a≠b:=dw z;refine gD ?_;refine mv ?_;unfold dh fE b9;rw[ajf h1,ajf h1,ajf h1]
theorem Ck(e:Nat)(xs:List Rat)(hq:∀x∈xs,Qs x)(hl:xs.length<=100):Con prog 183 [.ptr 1000 0,nA xs] (cm l G e) (.tup []) (cm l G (cQ e xs)):=by
 refine gF func183 (fun k z h=>eU h) ?_;refine gl ?_;refine aK [0,6,7] [] (fun(i:Nat)=>[pP 8 (i64 i)]) (fun i=>[pP 1000 (.box (sk l G (cQ e (xs.take i))))]) (fun i=>i<=xs.length) (fun i=>xs.length-i) 0 (aii _) ?_ (h2:=(.cons rfl (.of (by rw[List.take_zero,Sy])) .nil));rintro i hi K1 J1;refine gC (fun y=>?_) (fun y=>?_) (st1:=(2,0))
 ·have ae:=aI y;obtain ⟨x,hx⟩:=aB ae;have hs:cQ e (xs.take (i + 1)) = if cQ e (xs.take i) ≠ 0 then cQ e (xs.take i) else if 0 < x then 0 else 15:=by rw [g9 hx,QR]
  have hk:Con prog 284 [.ptr 1000 0,nS,db 15] (cm l G (cQ e (xs.take i))) (nA []) (cm l G (if cQ e (xs.take i)=0 then 15 else cQ e (xs.take i))):=Con.subA (.cons (.refl _) (.cons (Sub.nil 3 none 0) (.cons (.refl _) .nil))) (KN l G (cQ e (xs.take i)) [] 15);refine wb [0,6,7,8] [] [] [pP 1000 (.box (sk l G (cQ e (xs.take (i+1)))))] (True) ?_ ?_ 2
  ·intro K2 J2;refine gi (ay hx) ?_;refine gc (qR (hq x (ah3 hx))) ?_;refine gC (fun y=>?_) (fun y=>?_)
   ·have h9 : ¬ 0 < x := by rw [Oi] at y; simpa using y
    refine gt (br hk (.cons (.tmp rfl) (.cons (.const _) (iL rfl))) bT rfl rfl) ?_;exact lR J2 trivial (hw:=Wk.of aU (.cons rfl (.of (by rw[hs];congr 2;by_cases h8:cQ e (xs.take i)=0;(rw[ajg h8,ajf (fun h=>h h8),ajf h9]);(rw[ajf h8,ajg h8]))) .nil))
   have h9:0<x:=by rw[Oi]at y;simpa using y
   exact lR J2 trivial (hw:=Wk.of aU (.cons rfl (.of (by rw[hs];congr 2;by_cases h8:cQ e (xs.take i)=0;(rw[ajf (fun h=>h h8),ajg h9,h8]);(rw[ajg h8]))) .nil))
  rintro -;refine ga aG ?_;exact aE J1 (i+1) ae
 have ae:=aV hi y;subst ae;rw[ail];refine gR ?_;exact aJ.keep (d8 rfl)
end
def jU(p:Rat×Rat):List Rat×List Rat:=(padd [] pW p.1,padd [] pW p.2)
def pC(d:Rat×Rat):List Rat:=[d.1,-(((2:Int):Rat)*d.2),-d.1]
def oN(d:Rat×Rat):List Rat:=[d.2,((2:Int):Rat)*d.1,-d.2]
def fa(l:Li)(j:Jt)(b pt:Int):List Rat×List Rat :=
  if b=0 then jU (aL l 0 pt)
  else(padd (jU (aL l 0 (b9 j b))).1 (ptr (pC (cc (aL l b pt) (aL l b (dh j b))))) 1,padd (jU (aL l 0 (b9 j b))).2 (ptr (oN (cc (aL l b pt) (aL l b (dh j b))))) 1)
def nG(a b:List Rat×List Rat):List Rat×List Rat:=(padd a.1 b.1 (-1),padd a.2 b.2 (-1))
def o8(a b:List Rat×List Rat):List Rat:=padd (fA a.1 b.1) (fA a.2 b.2) 1
def ql(a b:List Rat×List Rat):List Rat:=padd (fA a.1 b.2) (fA a.2 b.1) (-1)
structure Plm(n e:Nat)(p:List Rat):Prop where
  td:cV p
  len:p.length<=n
  b:Pb e p
theorem Plm.po{n e:Nat}{p:List Rat}(h:Plm n e p)(hn:n<=30):Po e p:=⟨h.td,by have:=h.len;omega,h.b⟩
theorem Plm.mono{n e m f:Nat}{p:List Rat}(h:Plm n e p)(hn:n<=m)(hf:e<=f):Plm m f p:=⟨h.td,by have:=h.len;omega,h.b.mono hf⟩
theorem Plm.add{n e m f k:Nat}{p q:List Rat}{c:Rat}(hp:Plm n e p)(hq:Plm m f q)(hc:Qb k c):Plm (max n m) (e+(k+f)+1) (padd p q c):=⟨dC _,by have:=Fk p q c;have:=hp.len;have:=hq.len;omega,hp.b.add hc hq.b⟩
theorem Plm.mul{n e m f:Nat}{p q:List Rat}(hp:Plm n e p)(hq:Plm m f q):Plm (n+m-1) (n*(e+f+1)+1) (fA p q) :=
 ⟨dC _,by have:=Mb p q;have:=hp.len;have:=hq.len;omega,(hp.b.mul hq.b).mono (by have:=aik (e+f+1) hp.len;omega)⟩
theorem Plm.dvQ{n e:Nat}{p:List Rat}(hp:Plm n e p):Plm n (n*(e+1)+1) (Lw.dvQ p) :=
 ⟨dC _,aiw (Rj p) hp.len,hp.b.dvQ.mono (by have:=aik (e+1) hp.len;omega)⟩
theorem pL:Plm 3 1 pW:=⟨rfl,by decide,fun c hc=>by simp only[pW,aiq,aim,or_false]at hc;rcases hc with rfl |rfl |rfl;exact Qb.one;exact Qb.zero;exact Qb.one⟩
theorem eQ(n:Nat):Plm n 1 []:=⟨rfl,aii _,fun c hc=>by cases hc⟩
structure Vn(e:Nat)(v:List Rat×List Rat):Prop where
  x:Plm 3 e v.1
  y:Plm 3 e v.2
theorem Vn.mono{e f:Nat}{v:List Rat×List Rat}(h:Vn e v)(hf:e<=f):Vn f v:=⟨h.x.mono (aie _) hf,h.y.mono (aie _) hf⟩
theorem FB{k:Nat}{p:Rat×Rat}(h:Sm k p):Vn (k+3) (jU p):=⟨((eQ 3).add pL h.x).mono oz oz,((eQ 3).add pL h.y).mono oz oz⟩
theorem Lj{k:Nat}{d:Rat×Rat}(h:Sm k d):Plm 3 (k+3) (ptr (pC d))/\Plm 3 (k+3) (ptr (oN d)):=by
 have h2:Qb 2 (((2:Int):Rat)):=⟨by decide,by decide⟩
 refine⟨⟨dC _,ja _,Pb.tr fun c hc=>?_⟩,⟨dC _,ja _,Pb.tr fun c hc=>?_⟩⟩
 ·simp only[pC,aiq,aim,or_false]at hc;rcases hc with rfl |rfl |rfl
  ·exact h.x.mono oz
  ·exact(h2.mul h.y).neg.mono oz
  ·exact h.x.neg.mono oz
 ·simp only[oN,aiq,aim,or_false]at hc;rcases hc with rfl |rfl |rfl
  ·exact h.y.mono oz
  ·exact(h2.mul h.x).mono oz
  ·exact h.y.neg.mono oz
theorem kr{e f:Nat}{a b:List Rat×List Rat}(ha:Vn e a)(hb:Vn f b):Vn (e+f+2) (nG a b):=by
 have h1:Qb 1 (((-1:Int):Rat)):=⟨by decide,by decide⟩
 exact⟨(ha.x.add hb.x h1).mono oz oz,(ha.y.add hb.y h1).mono oz oz⟩
theorem lO{e f:Nat}{a b:List Rat×List Rat}(ha:Vn e a)(hb:Vn f b):Plm 5 (6*(e+f+1)+4) (o8 a b)/\Plm 5 (6*(e+f+1)+4) (ql a b):=by
 have h1:Qb 1 (((1:Int):Rat)):=Qb.one;have h2:Qb 1 (((-1:Int):Rat)):=⟨by decide,by decide⟩
 exact⟨((ha.x.mul hb.x).add (ha.y.mul hb.y) h1).mono oz oz,((ha.x.mul hb.y).add (ha.y.mul hb.x) h2).mono oz oz⟩
theorem Td{l:Li}(hl:l.ok)(af:ax l=0){j:Jt}{b pt:Int}(h1:aX b l.bo.length=true)(h2:aX pt (bV l b).length=true)(h3:b≠0->Sm 1000 (bi l j b)/\Sm 1000 (aL l 0 (b9 j b))):Vn 4100 (fa l j b pt):=by
 have h4:=cu hl af h1 h2;unfold fa
 by_cases h0:b=0
 ·rw[ajg h0];subst h0;exact(FB h4).mono oz
 ·rw [ajf h0];obtain ⟨h5,h6⟩:=h3 h0;have e:aL l b (dh j b) = bi l j b:=by unfold bi dh; split <;> rfl
  rw[e];have h7:=FB h6;have h8:=Lj (h4.sub h5);have h9:Qb 1 (((1:Int):Rat)):=Qb.one;exact⟨(h7.x.add h8.1 h9).mono oz oz,(h7.y.add h8.2 h9).mono oz oz⟩
structure Pj(l:Li)(G:List Gr)(j:Jt)(dv:Int):Prop where
  ex:∃(g0:Gr)(z:Int),G[0]?=some g0/\g0.jo[0]?=some z/\0<=z/\z<l.jo.length/\l.jo[z.toNat]?=some j
  t:j.a=dv\/j.b=dv
  o:fE j dv=0
theorem Pj.in{l:Li}{G:List Gr}{j:Jt}{dv:Int}(h:Pj l G j dv)(af:ax l=0):aX dv l.bo.length=true/\aX (dh j dv) (bV l dv).length=true/\aX (0:Int) l.bo.length=true/\aX (b9 j dv) (bV l 0).length=true:=by
 obtain⟨g0,z,_,_,_,_,hj⟩:=h.ex;obtain⟨i1,i2,i3,i4,_⟩:=ee af hj;have ho:=h.o;unfold fE at ho;unfold dh b9
 by_cases e:j.a=dv
 ·rw[ajg e]at ho ⊢;rw[ajg e];rw[e]at i1 i3;rw[ho]at i2 i4;exact⟨i1,i3,i2,i4⟩
 ·rw [ajf e] at ho ⊢;rw [ajf e];have e2:j.b = dv:=by rcases h.t with h9 | h9; exact ajm h9 e; exact h9
  rw[e2]at i2 i4;rw[ho]at i1 i3;exact⟨i2,i4,i1,i3⟩
theorem Pj.sm{l:Li}{G:List Gr}{j:Jt}{dv:Int}(h:Pj l G j dv)(hl:l.ok)(af:ax l=0):Sm 1000 (bi l j dv)/\Sm 1000 (aL l 0 (b9 j dv)):=by
 obtain⟨h1,h2,h3,h4⟩:=h.in af;obtain⟨g0,z,_,_,_,_,hj⟩:=h.ex;exact⟨Q7 hl af hj h.t,cu hl af h3 h4⟩
structure Fd(l:Li)(dv b pt:Int):Prop where
  hb:aX b l.bo.length=true
  hp:aX pt (bV l b).length=true
  hd:b=0\/b=dv
theorem Fd.n{l:Li}{G:List Gr}{j:Jt}{dv b pt:Int}(h:Fd l dv b pt)(hp:Pj l G j dv)(hl:l.ok)(af:ax l=0):Vn 4100 (fa l j b pt) :=
 Td hl af h.hb h.hp (fun h0=>by rcases h.hd with h9 |h9;exact ajm h9 h0;rw[h9];exact hp.sm hl af)
theorem vG:Qb 2 (((2:Int):Rat)):=⟨by decide,by decide⟩
section
variable(l:Li)(G:List Gr)
theorem j8(e:Nat)(hl:l.ok)(af:ax l=0){body pt:Int}(h1:aX body l.bo.length=true)(h2:aX pt (bV l body).length=true) :
  Con prog 178 [.ptr 1000 0,i64 body,i64 pt] (cm l G e) (lD (aL l body pt)) (cm l G e):=by
 obtain⟨n,k,bd,m,mp⟩:=xi hl af h1 h2;have hqe:lD (aL l body pt)=.agg [bl m.x.neg,ws m.x.num,ws m.x.den,bl m.y.neg,ws m.y.num,ws m.y.den]:=by rw[mp.ex,mp.ey];rfl
 rw[hqe];have hn:=mp.hn;have hk:=mp.hk;have fJ:=hl.lb;subst hn;subst hk;refine gF func178 (fun k z h=>eU h) ?_;refine gi (ay mp.gbd) ?_;refine gi (ay mp.gm) ?_;refine gR ?_;exact aJ.keep (d8 rfl)
theorem Lk(e:Nat){k:Nat}{p:Rat×Rat}(hp:Sm k p)(hk:k<=1000000) :
  Con prog 283 [.ptr 1000 0,lD p] (cm l G e) (ii (jU p)) (cm l G e):=by
 have s1:=qU l G e (ru (pL.po oz) hp.x oz);have s2:=qU l G e (ru (pL.po oz) hp.y oz);refine gF func283 (fun k z h=>eU h) ?_;refine gc zP ?_;refine gt (be s1 (a7 rfl rfl rfl) rfl rfl rfl) ?_;refine gc zP ?_;refine gt (be s2 (a7 rfl rfl rfl) rfl rfl rfl) ?_;refine gD ?_;refine gR ?_;exact aJ.keep (d8 rfl)
theorem AT(e:Nat){f h:Nat}{a b:List Rat×List Rat}(ha:Vn f a)(hb:Vn h b)(hf:f<=10000000)(hh:h<=10000000) :
  Con prog 180 [.ptr 1000 0,ii a,ii b] (cm l G e) (ii (nG a b)) (cm l G e):=by
 have s1:=sY l G e (sD (ha.x.po oz) (hb.x.po oz) oz);have s2:=sY l G e (sD (ha.y.po oz) (hb.y.po oz) oz);refine gF func180 (fun k z h=>eU h) ?_;refine gt (be s1 (a7 rfl rfl rfl) rfl rfl rfl) ?_;refine gt (be s2 (a7 rfl rfl rfl) rfl rfl rfl) ?_;refine gD ?_;refine gR ?_;exact aJ.keep (d8 rfl)
theorem Lu(e:Nat){f h:Nat}{a b:List Rat×List Rat}(ha:Vn f a)(hb:Vn h b)(hf:f<=1000000)(hh:h<=1000000)(h0:fM (o8 a b)=[]) :
  Con prog 184 [.ptr 1000 0,ii a,ii b] (cm l G e) (nA (dvQ (o8 a b))) (cm l G e):=by
 have m1:=ha.x.mul hb.x;have m2:=ha.y.mul hb.y;have s1:=pF l G e (pc (ha.x.po oz) (hb.x.po oz) oz);have s2:=pF l G e (pc (ha.y.po oz) (hb.y.po oz) oz);have s3:=yo l G e (AD (m1.po oz) (m2.po oz) oz);have hn:=(lO ha hb).1;have s4:=Ie l G e (Kn (hn.po oz) (by have:=hn.len;omega) oz) h0;refine gF func184 (fun k z h=>eU h) ?_;refine gt (be s1 (a7 rfl rfl rfl) rfl rfl rfl) ?_;refine gt (be s2 (a7 rfl rfl rfl) rfl rfl rfl) ?_;refine gt (be s3 (a7 rfl rfl rfl) rfl rfl rfl) ?_;refine gt (be s4 (cS rfl rfl) rfl rfl rfl) ?_;refine gD ?_;refine gR ?_;exact aJ.keep (d8 rfl)
theorem Xv(e:Nat){f h:Nat}{a b:List Rat×List Rat}(ha:Vn f a)(hb:Vn h b)(hf:f<=1000000)(hh:h<=1000000)(h0:fM (ql a b)=[]) :
  Con prog 189 [.ptr 1000 0,ii a,ii b] (cm l G e) (nA (dvQ (ql a b))) (cm l G e):=by
 have m1:=ha.x.mul hb.y;have m2:=ha.y.mul hb.x;have s1:=pF l G e (pc (ha.x.po oz) (hb.y.po oz) oz);have s2:=pF l G e (pc (ha.y.po oz) (hb.x.po oz) oz);have s3:=sY l G e (sD (m1.po oz) (m2.po oz) oz);have hn:=(lO ha hb).2;have s4:=Ie l G e (Kn (hn.po oz) (by have:=hn.len;omega) oz) h0;refine gF func189 (fun k z h=>eU h) ?_;refine gt (be s1 (a7 rfl rfl rfl) rfl rfl rfl) ?_;refine gt (be s2 (a7 rfl rfl rfl) rfl rfl rfl) ?_;refine gt (be s3 (a7 rfl rfl rfl) rfl rfl rfl) ?_;refine gt (be s4 (cS rfl rfl) rfl rfl rfl) ?_;refine gD ?_;refine gR ?_;exact aJ.keep (d8 rfl)
theorem vT(e:Nat)(hl:l.ok)(af:ax l=0){j:Jt}{dv b pt:Int}(hp:Pj l G j dv)(hF:Fd l dv b pt) :
  Con prog 177 [.ptr 1000 0,i64 b,i64 pt] (cm l G e) (ii (fa l j b pt)) (cm l G e):=by
 obtain⟨d1,d2,d3,d4⟩:=hp.in af;have s5:=cu hl af hF.hb hF.hp;refine gF func177 (fun k z h=>eU h) ?_;refine gC (fun y=>?_) (fun y=>?_)
 ·have hb:b = 0:=dZ y;have s6:=Lk l G e s5 oz;have e9:fa l j b pt = jU (aL l b pt):=by unfold fa; rw [ajg hb,hb]
  rw[e9];refine gt (be (j8 l G e hl af hF.hb hF.hp) (a7 rfl rfl rfl) rfl rfl rfl) ?_;refine gt (be s6 (cS rfl rfl) rfl rfl rfl) ?_;refine gR ?_;exact aJ.keep (d8 rfl)
 have hb:b≠0:=dw y;obtain rfl:b=dv:=by rcases hF.hd with h9 |h9;exact ajm h9 hb;exact h9
 obtain⟨g0,z,oo,hz,aZ,co,hj⟩:=hp.ex;have oA:=hl.lj;have e9:aL l b (dh j b)=bi l j b:=by unfold bi dh;split <;> rfl
 obtain⟨s6,s7⟩:=hp.sm hl af;have s8:=s5.sub s6;rw[<- e9]at s8;have r1:=Lj s8;have f1:=FB s7;obtain⟨d,hd⟩:∃d,d=cc (aL l b pt) (aL l b (dh j b)):=⟨_,rfl⟩
 have ev:fa l j b pt=(padd (jU (aL l 0 (b9 j b))).1 (ptr (pC d)) 1,padd (jU (aL l 0 (b9 j b))).2 (ptr (oN d)) 1):=by rw[hd];unfold fa;rw[ajf hb]
 rw[ev];have Gs:=JI (p:=aL l b pt) (q:=aL l b (dh j b)) (s5.x.qs oz) (s5.y.qs oz) (by rw[e9];exact s6.x.qs oz) (by rw[e9];exact s6.y.qs oz);rw[<- hd]at Gs s8 r1;have a1:=yo l G e (AD (f1.x.po oz) (r1.1.po oz) oz);have a2:=yo l G e (AD (f1.y.po oz) (r1.2.po oz) oz);have q1:=s8.x.qs oz;have q2:=s8.y.qs oz;have m1:=(vG.mul s8.y).qs oz;have m2:=(vG.mul s8.x).qs oz;have n1:=FG (pC d) (fun c hc=>by simp only[pC,aiq,aim,or_false]at hc;rcases hc with rfl |rfl |rfl;exact q1;exact(vG.mul s8.y).neg.qs oz;exact s8.x.neg.qs oz) (by show 3<=1000;omega);have n2:=FG (oN d) (fun c hc=>by simp only[oN,aiq,aim,or_false]at hc;rcases hc with rfl |rfl |rfl;exact q2;exact m2;exact s8.y.neg.qs oz) (by show 3<=1000;omega);refine gi (ay oo) ?_;refine gi (ay hz) ?_;refine gi (eT (n:=z.toNat) oz hj) ?_;refine gc (zN j b) ?_;refine gD ?_;refine gt (be (j8 l G e hl af hF.hb hF.hp) (a7 rfl rfl rfl) rfl rfl rfl) ?_;refine gt (be (j8 l G e hl af d1 d2) (a7 rfl rfl rfl) rfl rfl rfl) ?_;refine gc Gs ?_;refine gt (be (j8 l G e hl af d3 d4) (.cons (.tmp rfl) (.cons (.const _) (iL rfl))) rfl rfl rfl) ?_;refine gt (be (Lk l G e s7 oz) (cS rfl rfl) rfl rfl rfl) ?_;refine gc (pM 2 oz) ?_;refine gc (jA (vG.qs oz) q2) ?_;refine gc (vY m1) ?_;refine gc (vY q1) ?_;refine gc n1 ?_;refine gD ?_;refine gc (jA (vG.qs oz) q1) ?_;refine gc (vY q2) ?_;refine gc n2 ?_;refine gD ?_;refine gt (be a1 (a7 rfl rfl rfl) rfl rfl rfl) ?_;refine gt (be a2 (a7 rfl rfl rfl) rfl rfl rfl) ?_;refine gD ?_;refine gR ?_;exact aJ.keep (d8 rfl)
end
def Sh(v:List Rat×List Rat)(F R:Rat×Rat):Prop:=∀t,au v.1 t=F.1*(1+t*t)+(R.1*(1-t*t)-2*t*R.2)/\au v.2 t=F.2*(1+t*t)+(R.2*(1-t*t)+2*t*R.1)
theorem NZ(p:Rat×Rat)(t:Rat):au (jU p).1 t=p.1*(1+t*t)/\au (jU p).2 t=p.2*(1+t*t):=by
 unfold jU;refine⟨?_,?_⟩ <;> (rw[j9,wO];show(0:Rat)+_=_;grind)
theorem YR(p:Rat×Rat):Sh (jU p) p (0,0):=fun t=>by
 obtain⟨h1,h2⟩:=NZ p t;rw[h1,h2];exact⟨by show _=_+((0:Rat)*_-_*0);grind,by show _=_+((0:Rat)*_+_*0);grind⟩
theorem JZ(d:Rat×Rat)(t:Rat):au (ptr (pC d)) t=d.1*(1-t*t)-2*t*d.2:=by
 rw[it];show d.1+t*(-(((2:Int):Rat)*d.2)+t*(-d.1+t*0))=_;have:((2:Int):Rat)=2:=rfl;rw[this];grind
theorem Jm(d:Rat×Rat)(t:Rat):au (ptr (oN d)) t=d.2*(1-t*t)+2*t*d.1:=by
 rw[it];show d.2+t*((((2:Int):Rat)*d.1)+t*(-d.2+t*0))=_;have:((2:Int):Rat)=2:=rfl;rw[this];grind
theorem rK(l:Li)(j:Jt)(b pt:Int):∃F R,Sh (fa l j b pt) F R:=by
 unfold fa
 by_cases h:b=0
 ·rw[ajg h];exact⟨_,_,YR _⟩
 ·rw[ajf h];refine⟨aL l 0 (b9 j b),cc (aL l b pt) (aL l b (dh j b)),fun t=>?_⟩;obtain⟨h1,h2⟩:=NZ (aL l 0 (b9 j b)) t;dsimp only;rw[j9,j9,h1,h2,JZ,Jm];exact⟨by grind,by grind⟩
theorem zI{a b:List Rat×List Rat}{F R F' R':Rat×Rat}(ha:Sh a F R)(hb:Sh b F' R'):Sh (nG a b) (F.1-F'.1,F.2-F'.2) (R.1-R'.1,R.2-R'.2):=fun t=>by
 obtain⟨h1,h2⟩:=ha t;obtain⟨h3,h4⟩:=hb t;unfold nG;dsimp only;have h5:(((-1:Int)):Rat)=-1:=rfl;rw[j9,j9,h1,h2,h3,h4];exact⟨by grind,by grind⟩
theorem zq6(a b c t:Rat):au [a,b,c] t=a+b*t+c*t*t:=by
 show a+t*(b+t*(c+t*0))=_;grind
theorem K6{a b:List Rat×List Rat}{F R F' R':Rat×Rat}(ha:Sh a F R)(hb:Sh b F' R'):fM (o8 a b)=[]:=by
 refine(IS (K:=[(F.1*F'.1+F.2*F'.2+R.1*R'.1+R.2*R'.2)+(F.1*R'.1+F.2*R'.2+F'.1*R.1+F'.2*R.2),2*(F.2*R'.1-F.1*R'.2+F'.2*R.1-F'.1*R.2),(F.1*F'.1+F.2*F'.2+R.1*R'.1+R.2*R'.2)-(F.1*R'.1+F.2*R'.2+F'.1*R.1+F'.2*R.2)]) (fun t=>?_)).2;obtain⟨h1,h2⟩:=ha t;obtain⟨h3,h4⟩:=hb t;unfold o8;rw[j9,ux,ux,h1,h2,h3,h4,zq6];grind
theorem ZK{a b:List Rat×List Rat}{F R F' R':Rat×Rat}(ha:Sh a F R)(hb:Sh b F' R'):fM (ql a b)=[]:=by
 refine(IS (K:=[(F.1*F'.2-F.2*F'.1+R.1*R'.2-R.2*R'.1)+(F.1*R'.2-F.2*R'.1+R.1*F'.2-R.2*F'.1),2*(F.1*R'.1+F.2*R'.2-R.1*F'.1-R.2*F'.2),(F.1*F'.2-F.2*F'.1+R.1*R'.2-R.2*R'.1)-(F.1*R'.2-F.2*R'.1+R.1*F'.2-R.2*F'.1)]) (fun t=>?_)).2;obtain⟨h1,h2⟩:=ha t;obtain⟨h3,h4⟩:=hb t;unfold ql;have h5:(((-1:Int)):Rat)=-1:=rfl;rw[j9,ux,ux,h1,h2,h3,h4,zq6];grind
def f7(p:Rat×Rat):Rat:=p.1*p.1+p.2*p.2
def I2(l:Li)(j:Jt)(i k:Int)(j0 j1:Jt):List Rat×List Rat:=nG (fa l j (fE j1 k) (b9 j1 k)) (fa l j (fE j0 i) (b9 j0 i))
def ur(l:Li)(i:Int)(j0 j2:Jt):Rat:=f7 (cc (aL l i (dh j2 i)) (aL l i (dh j0 i)))
def sC(l:Li)(i k:Int)(j1 j2:Jt):Rat:=f7 (cc (aL l k (b9 j2 i)) (aL l k (dh j1 k)))
def XD(g:List Rat)(r s:Rat):List Rat:=padd (padd [] (fA g pW) (((4:Int):Rat)*r)) (fA (padd (padd [] pW (r-s)) g 1) (padd (padd [] pW (r-s)) g 1)) (-1)
def FK(l:Li)(j:Jt)(i k:Int)(j0 j1 j2:Jt):List Rat:=XD (dvQ (o8 (I2 l j i k j0 j1) (I2 l j i k j0 j1))) (ur l i j0 j2) (sC l i k j1 j2)
def ul(l:Li)(i:Int)(j0 j1:Jt):Rat:=f7 (cc (aL l i j1.point) (aL l i (dh j0 i)))
def tL(l:Li)(j1:Jt):Rat:=f7 (cc (aL l j1.b j1.to) (aL l j1.b j1.on))
def Oe(l:Li)(j:Jt)(i:Int)(j0 j1:Jt):List Rat:=dvQ (ql (nG (fa l j j1.b j1.to) (fa l j j1.b j1.on)) (nG (fa l j (fE j0 i) (b9 j0 i)) (fa l j j1.b j1.on)))
def CA(l:Li)(j:Jt)(i:Int)(j0 j1:Jt):List Rat:=padd (padd [] (fA pW pW) (tL l j1*ul l i j0 j1)) (fA (Oe l j i j0 j1) (Oe l j i j0 j1)) (-1)
def lw(l:Li)(i:Int)(j1:Jt):Rat×Rat:=cc (aL l i j1.to) (aL l i j1.on)
def zx(l:Li)(i:Int)(j0 j1:Jt):Rat×Rat:=cc (aL l i j1.on) (aL l i (dh j0 i))
def ND(l:Li)(j:Jt)(i:Int)(j0 j1:Jt):List Rat×List Rat:=nG (fa l j j1.a j1.point) (fa l j (fE j0 i) (b9 j0 i))
def Ot(l:Li)(i:Int)(j0 j1:Jt):Rat:=Fm (lw l i j1) (zx l i j0 j1)
def FI(l:Li)(j:Jt)(i:Int)(j0 j1:Jt):List Rat:=padd (padd [] (dvQ (o8 (ND l j i j0 j1) (ND l j i j0 j1))) (f7 (lw l i j1))) (padd [] pW (Ot l i j0 j1*Ot l i j0 j1)) (-1)
def mw(x:Gr)(n:Nat):Int:=x.bo.getD n 0
def io(l:Li)(x:Gr)(n:Nat):Jt:=l.jo.getD (x.jo.getD n 0).toNat default
def ep(l:Li)(j:Jt)(x:Gr):List Rat :=
  if x.kind=1 then FK l j (mw x 0) (mw x 1) (io l x 0) (io l x 1) (io l x 2)
  else if x.kind=2 then CA l j (mw x 0) (io l x 0) (io l x 1)else FI l j (mw x 0) (io l x 0) (io l x 1)
def gM(l:Li)(x:Gr):List Rat :=
  if x.kind=1 then[ur l (mw x 0) (io l x 0) (io l x 2),sC l (mw x 0) (mw x 1) (io l x 1) (io l x 2)]
  else if x.kind=2 then[ul l (mw x 0) (io l x 0) (io l x 1),tL l (io l x 1)]else[f7 (lw l (mw x 0) (io l x 1))]
def f8(x:Gr):Int:=if x.kind=1 then 4 else if x.kind=2 then 4 else 2
structure Lg(l:Li)(dv:Int)(x:Gr):Prop where
  dy:DyK l x
  ok:GrOk l x
  nd:x.kind≠0
  an:∀z∈x.jo,∀jt,l.jo[z.toNat]?=some jt->(jt.a∉x.bo->jt.a=0\/jt.a=dv)/\(jt.b∉x.bo->jt.b=0\/jt.b=dv)
theorem Qj(l:Li)(j:Jt)(b:Int):aL l b (dh j b)=bi l j b:=by unfold bi dh;split <;> rfl
theorem ui{l:Li}{dv kd:Int}{x:Gr}(h:Lg l dv x)(af:ax l=0){z b:Int}{bs:List Int}{j:Jt}(lh:x.bo=bs)(t:TieO l kd bs z b j)(hz:z∈x.jo):Fd l dv (fE j b) (b9 j b):=by
 subst lh;obtain⟨i1,i2,i3,i4,_⟩:=ee af t.hj;obtain⟨a1,a2⟩:=h.an z hz j t.hj;unfold fE b9
 by_cases e:j.a=b
 ·rw[ajg e,ajg e];refine⟨i2,i4,?_⟩;rcases t.tie with⟨_,hn⟩ |⟨e2,hn⟩
  ·exact a2 hn
  ·exact a2 (by rw[e2,<- e];exact hn)
 ·rw[ajf e,ajf e];refine⟨i1,i3,?_⟩;rcases t.tie with⟨e2,hn⟩ |⟨_,hn⟩
  ·exact ajm e2 e
  ·exact a1 hn
theorem qK{l:Li}{kd z b:Int}{bs:List Int}{j:Jt}(t:TieO l kd bs z b j):j.a=b\/j.b=b:=by
 rcases t.tie with h |h
 ·exact .inl h.1
 ·exact .inr h.1
theorem nD{l:Li}(af:ax l=0){i:Nat}{j:Jt}(hj:l.jo[i]?=some j){b:Int}(h:j.a=b\/j.b=b):aX b l.bo.length=true/\aX (dh j b) (bV l b).length=true:=by
 obtain⟨i1,i2,i3,i4,_⟩:=ee af hj;unfold dh
 by_cases e:j.a=b
 ·rw[ajg e];subst e;exact⟨i1,i3⟩
 ·rw[ajf e];rcases h with h |h
  ·exact ajm h e
  ·subst h;exact⟨i2,i4⟩
theorem qG:Qb 3 (((4:Int):Rat)):=⟨by decide,by decide⟩
theorem jd{e:Nat}{p:Rat×Rat}(h:Sm e p):Qb (4*e+1) (f7 p):=((h.x.mul h.x).add (h.y.mul h.y)).mono oz
theorem tP{p q:Rat×Rat}(hp:Sm 1000 p)(hq:Sm 1000 q):FP 182 [lD p,lD q] (lD (cc p q)):=JI (hp.x.qs oz) (hp.y.qs oz) (hq.x.qs oz) (hq.y.qs oz)
theorem sr{p:Rat×Rat}(hp:Sm 2001 p):FP 181 [lD p] (qA (f7 p)):=ZZ (hp.x.qs oz) (hp.y.qs oz) ((hp.x.mul hp.x).qs oz) ((hp.y.mul hp.y).qs oz)
theorem Fh{l:Li}{x:Gr}(h:DyK l x)(nd:x.kind≠0):∃i z0 j0,x.bo[0]?=some i/\x.jo[0]?=some z0/\TieO l 0 x.bo z0 i j0:=by
 cases h with
 |drv t d0 hd hb=>exact ajm rfl nd
 |rrr ne t0 t1 h0 h2 kd tie=>exact⟨_,_,_,rfl,rfl,t0⟩
 |pr t0 t1 ha=>exact⟨_,_,_,rfl,rfl,t0⟩
 |rp t0 t1 ha=>exact⟨_,_,_,rfl,rfl,t0⟩
theorem ug{x:Gr}{n:Nat}{i:Int}(h:x.bo[n]?=some i):mw x n=i:=aP h
theorem nX{l:Li}{x:Gr}{n:Nat}{z:Int}{j:Jt}(h:x.jo[n]?=some z)(hj:l.jo[z.toNat]?=some j):io l x n=j:=by
 unfold io;rw[aP h];exact aP hj
theorem ZU{l:Li}{x:Gr}{i k z0 z1 z2:Int}{j0 j1 j2:Jt}(hk:x.kind=1)(b0:x.bo[0]?=some i)(b1:x.bo[1]?=some k)(y0:x.jo[0]?=some z0)(h0:l.jo[z0.toNat]?=some j0)(y1:x.jo[1]?=some z1)(h1:l.jo[z1.toNat]?=some j1)(y2:x.jo[2]?=some z2)(h2:l.jo[z2.toNat]?=some j2) :
  (∀j,ep l j x=FK l j i k j0 j1 j2)/\gM l x=[ur l i j0 j2,sC l i k j1 j2]/\f8 x=4:=by
 refine⟨fun j=>?_,?_,ajg hk⟩
 ·unfold ep;rw[ajg hk,ug b0,ug b1,nX y0 h0,nX y1 h1,nX y2 h2]
 ·unfold gM;rw[ajg hk,ug b0,ug b1,nX y0 h0,nX y1 h1,nX y2 h2]
theorem TT{l:Li}{x:Gr}{i z0 z1:Int}{j0 j1:Jt}(hn:¬x.kind=1)(k9:¬x.kind=2)(b0:x.bo[0]?=some i)(y0:x.jo[0]?=some z0)(h0:l.jo[z0.toNat]?=some j0)(y1:x.jo[1]?=some z1)(h1:l.jo[z1.toNat]?=some j1) :
  (∀j,ep l j x=FI l j i j0 j1)/\gM l x=[f7 (lw l i j1)]/\f8 x=2:=by
 refine⟨fun j=>?_,?_,?_⟩
 ·unfold ep;rw[ajf hn,ajf k9,ug b0,nX y0 h0,nX y1 h1]
 ·unfold gM;rw[ajf hn,ajf k9,ug b0,nX y1 h1]
 ·unfold f8;rw[ajf hn,ajf k9]
structure LrP(l:Li)(x:Gr)(i k z1 z2:Int)(j0 j1 j2:Jt):Prop where
  b1:x.bo[1]?=some k
  y1:x.jo[1]?=some z1
  y2:x.jo[2]?=some z2
  t1:TieO l 0 x.bo z1 k j1
  h0:0<=z2
  h2:l.jo[z2.toNat]?=some j2
  ti:(j2.a=i/\j2.b=k)\/(j2.b=i/\j2.a=k)
  ne:i≠k
  eE:∀j,ep l j x=FK l j i k j0 j1 j2
  eX:gM l x=[ur l i j0 j2,sC l i k j1 j2]
  eN:f8 x=4
theorem EL{l:Li}{x:Gr}{i z0:Int}{j0:Jt}(h:DyK l x)(hk:x.kind=1)(hi:x.bo[0]?=some i)(hz:x.jo[0]?=some z0)(hj:l.jo[z0.toNat]?=some j0):∃k z1 z2 j1 j2,LrP l x i k z1 z2 j0 j1 j2:=by
 cases h with
 |drv t d0 hd hb=>cases hk
 | @rrr i' k z0' z1 z2 j0' j1 j2 ne t0 t1 h0 h2 kd tie =>
  have jL:i'=i:=Option.some.inj hi;have PW:z0'=z0:=Option.some.inj hz;obtain⟨q1,q2,q3⟩:=ZU (l:=l) (x:=⟨1,[i',k],[z0',z1,z2],0⟩) rfl hi rfl hz hj rfl t1.hj rfl h2;exact⟨k,z1,z2,j1,j2,rfl,rfl,rfl,t1,h0,h2,jL▸tie,jL▸ne,q1,q2,q3⟩
 |pr t0 t1 ha=>cases hk
 |rp t0 t1 ha=>cases hk
structure LsP(l:Li)(x:Gr)(i z1:Int)(j0 j1:Jt):Prop where
  y1:x.jo[1]?=some z1
  t1:TieO l 1 x.bo z1 i j1
theorem Dn{l:Li}{x:Gr}{i z0:Int}{j0:Jt}(h:DyK l x)(hk:x.kind=2)(hi:x.bo[0]?=some i)(hz:x.jo[0]?=some z0)(hj:l.jo[z0.toNat]?=some j0) :
  ∃z1 j1,LsP l x i z1 j0 j1/\j1.a=i/\(∀j,ep l j x=CA l j i j0 j1)/\gM l x=[ul l i j0 j1,tL l j1]/\f8 x=4:=by
 cases h with
 |drv t d0 hd hb=>cases hk
 |rrr ne t0 t1 h0 h2 kd tie=>cases hk
 | @pr i' z0' z1 j0' j1 t0 t1 ha =>
  have jL:i'=i:=Option.some.inj hi;have PW:z0'=z0:=Option.some.inj hz;have e0:l.jo.getD z0'.toNat default=j0:=by rw[PW];exact aP hj
  have e1:l.jo.getD z1.toNat default=j1:=aP t1.hj;refine⟨z1,j1,⟨rfl,jL▸t1⟩,jL▸ha,fun j=>?_,?_,rfl⟩
  ·show CA l j i' (l.jo.getD z0'.toNat default) (l.jo.getD z1.toNat default)=_;rw[e0,e1,jL]
  ·show[ul l i' (l.jo.getD z0'.toNat default) (l.jo.getD z1.toNat default),tL l (l.jo.getD z1.toNat default)]=_;rw[e0,e1,jL]
 |rp t0 t1 ha=>cases hk
theorem Dw{l:Li}{x:Gr}{i z0:Int}{j0:Jt}(h:DyK l x)(h0:x.kind≠0)(h1:x.kind≠1)(h2:x.kind≠2)(hi:x.bo[0]?=some i)(hz:x.jo[0]?=some z0)(hj:l.jo[z0.toNat]?=some j0) :
  ∃z1 j1,LsP l x i z1 j0 j1/\j1.a≠i/\(∀j,ep l j x=FI l j i j0 j1)/\gM l x=[f7 (lw l i j1)]/\f8 x=2:=by
 cases h with
 |drv t d0 hd hb=>exact ajm rfl h0
 |rrr ne t0 t1 h0 h2 kd tie=>exact ajm rfl h1
 |pr t0 t1 ha=>exact ajm rfl h2
 | @rp i' z0' z1 j0' j1 t0 t1 ha =>
  have jL:i'=i:=Option.some.inj hi;obtain⟨q1,q2,q3⟩:=TT (l:=l) (x:=⟨3,[i'],[z0',z1],0⟩) (by show ¬(3:Int)=1;decide) (by show ¬(3:Int)=2;decide) hi hz hj rfl t1.hj;exact⟨z1,j1,⟨rfl,jL▸t1⟩,jL▸ha,q1,q2,q3⟩
section
variable(l:Li)(G:List Gr)
theorem TW(hl:l.ok)(af:ax l=0){j:Jt}{dv:Int}(hp:Pj l G j dv){x:Gr}(hx:Lg l dv x) :
  Con prog 84 [.ptr 1000 0,x.av] (cm l G 0) (.tup [nA (ep l j x),i64 (f8 x)]) (cm l G (cQ 0 (gM l x))):=by
 have hd:=hx.dy;obtain⟨i,z0,j0,hi,aZ,t0⟩:=Fh hx.dy hx.nd;have oA:=hl.lj;have ads:=t0.hz;have F0:=ui hx af rfl t0 (ah3 aZ);have n0:=F0.n hp hl af;obtain⟨o1,o2⟩:=nD af t0.hj (qK t0);have m0:=cu hl af o1 o2;have hW:=pL;refine gF func84 (fun k z h=>eU h) ?_;refine gi (ay hi) ?_;refine gi (ay aZ) ?_;refine gi (eT (n:=z0.toNat) oz t0.hj) ?_;refine gc (zN j0 i) ?_;refine gD ?_;refine gt (be (vT l G 0 hl af hp F0) (a7 rfl rfl rfl) rfl rfl rfl) ?_;refine gt (be (j8 l G 0 hl af o1 o2) (a7 rfl rfl rfl) rfl rfl rfl) ?_;refine gc zP ?_;refine gC (fun u=>?_) (fun u=>?_)
 ·have hk:x.kind = 1:=dZ u;obtain ⟨k,z1,z2,j1,j2,P⟩:=EL hx.dy hk hi aZ t0.hj;rw [P.eE,P.eX,P.eN];have co:=P.t1.hz;have km:=P.h0;have F1:=ui hx af rfl P.t1 (ah3 P.y1);have n1:=F1.n hp hl af;obtain ⟨o3,o4⟩:=nD af P.t1.hj (qK P.t1);have m1:=cu hl af o3 o4;obtain ⟨o5,o6⟩:=nD af P.h2 (b:=i) (by rcases P.ti with h9 | h9; exact .inl h9.1; exact .inr h9.1);have m2:=cu hl af o5 o6
  have o7:aX (b9 j2 i) (bV l k).length=true:=by
   obtain⟨i1,i2,i3,i4,_⟩:=ee af P.h2;have aF:=P.ne;unfold b9;rcases P.ti with⟨h8,h9⟩ |⟨h8,h9⟩
   ·rw[ajg h8,<- h9];exact i4
   ·rw[ajf (fun h=>aF (h.symm.trans h9)),<- h9];exact i3
  have m3:=cu hl af o3 o7;have vr:=m2.sub m0;have vs:=m3.sub m1;have qr:=jd vr;have qs:=jd vs;have nd:=kr n1 n0;obtain⟨A1,B1,sh0⟩:=rK l j (fE j0 i) (b9 j0 i);obtain⟨A2,B2,sh1⟩:=rK l j (fE j1 k) (b9 j1 k);have shd:=zI sh1 sh0;have dz:=K6 shd shd;have ng:=(lO nd nd).1.dvQ;obtain⟨e1,xY⟩:∃e1,e1=cQ 0 [ur l i j0 j2,sC l i k j1 j2]:=⟨_,rfl⟩
  have fY:=Ck l G 0 [ur l i j0 j2,sC l i k j1 j2] (fun y hy=>by simp only[aiq,aim,or_false]at hy;rcases hy with rfl |rfl;exact qr.qs oz;exact qs.qs oz) (by show 2<=100;omega);rw[<- xY]at fY ⊢;have b1:=(eQ 3).add hW (qr.sub qs);have s1:=qU l G e1 (ru (hW.po oz) (qr.sub qs) oz);have s2:=yo l G e1 (AD (b1.po oz) (ng.po oz) oz);have h1:Qb 1 (((1:Int):Rat)):=Qb.one;have nr:=(b1.add ng h1).mono (m:=5) (f:=600000) oz oz;have s3:=pF l G e1 (pc (ng.po oz) (hW.po oz) oz);have nm:=(ng.mul hW).mono (m:=7) (f:=3000000) oz oz;have s4:=qU l G e1 (ru (nm.po oz) (qG.mul qr) oz);have nf:=((eQ 7).add nm (qG.mul qr)).mono (m:=7) (f:=3100000) oz oz;have s5:=pF l G e1 (pc (nr.po oz) (nr.po oz) oz);have nq:=(nr.mul nr).mono (m:=9) (f:=6100000) oz oz;have s6:=sY l G e1 (sD (nf.po oz) (nq.po oz) oz);refine gi (ay P.b1) ?_;refine gi (ay P.y1) ?_;refine gi (eT (n:=z1.toNat) oz P.t1.hj) ?_;refine gc (zN j1 k) ?_;refine gD ?_;refine gt (be (vT l G 0 hl af hp F1) (a7 rfl rfl rfl) rfl rfl rfl) ?_;refine gt (be (AT l G 0 n1 n0 oz oz) (a7 rfl rfl rfl) rfl rfl rfl) ?_;refine gD ?_;refine gt (be (j8 l G 0 hl af o3 o4) (a7 rfl rfl rfl) rfl rfl rfl) ?_;refine gi (ay P.y2) ?_;refine gi (eT (n:=z2.toNat) oz P.h2) ?_;refine gc (zN j2 i) ?_;refine gD ?_;refine gt (be (j8 l G 0 hl af o5 o6) (a7 rfl rfl rfl) rfl rfl rfl) ?_;refine gc (tP m2 m0) ?_;refine gc (sr vr) ?_;refine gt (be (j8 l G 0 hl af o3 o7) (a7 rfl rfl rfl) rfl rfl rfl) ?_;refine gc (tP m3 m1) ?_;refine gc (sr vs) ?_;refine gD ?_;refine gt (br fY (cS rfl rfl) bT rfl rfl) ?_;refine gt (be (Lu l G e1 nd nd oz oz dz) (a7 rfl rfl rfl) rfl rfl rfl) ?_;refine gc (tp (qr.qs oz) (qs.qs oz)) ?_;refine gt (be s1 (a7 rfl rfl rfl) rfl rfl rfl) ?_;refine gt (be s2 (a7 rfl rfl rfl) rfl rfl rfl) ?_;refine gc (pM 4 oz) ?_;refine gc (jA (qG.qs oz) (qr.qs oz)) ?_;refine gt (be s3 (a7 rfl rfl rfl) rfl rfl rfl) ?_;refine gt (be s4 (a7 rfl rfl rfl) rfl rfl rfl) ?_;refine gD ?_;refine gt (be s5 (a7 rfl rfl rfl) rfl rfl rfl) ?_;refine gt (be s6 (a7 rfl rfl rfl) rfl rfl rfl) ?_;refine gR ?_;exact aJ.keep (d8 rfl)
 have iz:x.kind≠1:=dw u;refine gC (fun u=>?_) (fun u=>?_)
 ·have hk:x.kind = 2:=dZ u;obtain ⟨z1,j1,P,ha,eE,eX,eN⟩:=Dn hx.dy hk hi aZ t0.hj;rw [eE,eX,eN];have co:=P.t1.hz;obtain ⟨i1,i2,i3,i4,i5⟩:=ee af P.t1.hj;have i5:=i5 (by rw [P.t1.kd]; decide);have xZ:=(hx.an z1 (ah3 P.y1) j1 P.t1.hj).2;have F1:Fd l dv j1.b j1.on:=⟨i2,i4,xZ (by rcases P.t1.tie with h9 | h9; exact h9.2; exact ajm (ha ▸ ah3 hi) h9.2)⟩
  have F2:Fd l dv j1.b j1.to:=⟨i2,i5,F1.hd⟩
  have n1:=F1.n hp hl af;have n2:=F2.n hp hl af;have m1:=cu hl af i2 i4;have m2:=cu hl af i2 i5;rw[ha]at i1 i3;have m3:=cu hl af i1 i3;have vm:=m2.sub m1;have vr:=m3.sub m0;have qm:=jd vm;have qr:=jd vr;have na:=kr n2 n1;have nb:=kr n0 n1;obtain⟨A1,B1,sh0⟩:=rK l j (fE j0 i) (b9 j0 i);obtain⟨A2,B2,sh1⟩:=rK l j j1.b j1.on;obtain⟨A3,B3,sh2⟩:=rK l j j1.b j1.to;have dz:=ZK (zI sh2 sh1) (zI sh0 sh1);have ng:=(lO na nb).2.dvQ;obtain⟨e1,xY⟩:∃e1,e1=cQ 0 [ul l i j0 j1,tL l j1]:=⟨_,rfl⟩
  have fY:=Ck l G 0 [ul l i j0 j1,tL l j1] (fun y hy=>by simp only[aiq,aim,or_false]at hy;rcases hy with rfl |rfl;exact qr.qs oz;exact qm.qs oz) (by show 2<=100;omega);rw[<- xY]at fY ⊢;have s1:=pF l G e1 (pc (hW.po oz) (hW.po oz) oz);have nw:=hW.mul hW;have s2:=qU l G e1 (ru (nw.po oz) (qm.mul qr) oz);have nf:=(eQ 5).add nw (qm.mul qr);have s3:=pF l G e1 (pc (ng.po oz) (ng.po oz) oz);have nq:=ng.mul ng;have s4:=sY l G e1 (sD (nf.po oz) (nq.po oz) oz);refine gi (ay P.y1) ?_;refine gi (eT (n:=z1.toNat) oz P.t1.hj) ?_;refine gD ?_;refine gt (be (j8 l G 0 hl af i2 i5) (a7 rfl rfl rfl) rfl rfl rfl) ?_;refine gt (be (j8 l G 0 hl af i2 i4) (a7 rfl rfl rfl) rfl rfl rfl) ?_;refine gc (tP m2 m1) ?_;refine gc (sr vm) ?_;refine gt (be (j8 l G 0 hl af i1 i3) (a7 rfl rfl rfl) rfl rfl rfl) ?_;refine gc (tP m3 m0) ?_;refine gc (sr vr) ?_;refine gD ?_;refine gt (br fY (cS rfl rfl) bT rfl rfl) ?_;refine gt (be (vT l G e1 hl af hp F1) (a7 rfl rfl rfl) rfl rfl rfl) ?_;refine gt (be (vT l G e1 hl af hp F2) (a7 rfl rfl rfl) rfl rfl rfl) ?_;refine gt (be (AT l G e1 n2 n1 oz oz) (a7 rfl rfl rfl) rfl rfl rfl) ?_;refine gt (be (AT l G e1 n0 n1 oz oz) (a7 rfl rfl rfl) rfl rfl rfl) ?_;refine gt (be (Xv l G e1 na nb oz oz dz) (a7 rfl rfl rfl) rfl rfl rfl) ?_;refine gD ?_;refine gc (jA (qm.qs oz) (qr.qs oz)) ?_;refine gt (be s1 (a7 rfl rfl rfl) rfl rfl rfl) ?_;refine gt (be s2 (a7 rfl rfl rfl) rfl rfl rfl) ?_;refine gt (be s3 (a7 rfl rfl rfl) rfl rfl rfl) ?_;refine gt (be s4 (a7 rfl rfl rfl) rfl rfl rfl) ?_;refine gR ?_;exact aJ.keep (d8 rfl)
 have cD:x.kind≠2:=dw u;obtain⟨z1,j1,P,ha,eE,eX,eN⟩:=Dw hx.dy hx.nd iz cD hi aZ t0.hj;rw[eE,eX,eN];have co:=P.t1.hz;obtain⟨i1,i2,i3,i4,i5⟩:=ee af P.t1.hj;have i5:=i5 (by rw[P.t1.kd];decide);have x3:=(hx.an z1 (ah3 P.y1) j1 P.t1.hj).1;have hb:j1.b=i:=by rcases P.t1.tie with h9 |h9;exact ajm h9.1 ha;exact h9.1
 have F1:Fd l dv j1.a j1.point:=⟨i1,i3,x3 (by rcases P.t1.tie with h9 |h9;exact ajm h9.1 ha;exact h9.2)⟩
 have n1:=F1.n hp hl af;rw[hb]at i2 i4 i5;have m1:=cu hl af i2 i4;have m2:=cu hl af i2 i5;have vv:Sm 2001 (lw l i j1):=m2.sub m1;have vu:Sm 2001 (zx l i j0 j1):=m1.sub m0;have qv:=jd vv;have qh:=vv.cross vu;have nd:=kr n1 n0;obtain⟨A1,B1,sh0⟩:=rK l j (fE j0 i) (b9 j0 i);obtain⟨A2,B2,sh1⟩:=rK l j j1.a j1.point;have shd:=zI sh1 sh0;have dz:=K6 shd shd;have ng:=(lO nd nd).1.dvQ;obtain⟨e1,xY⟩:∃e1,e1=cQ 0 [f7 (lw l i j1)]:=⟨_,rfl⟩
 have fY:=Ck l G 0 [f7 (lw l i j1)] (fun y hy=>by simp only[aiq,aim,or_false]at hy;rcases hy with rfl;exact qv.qs oz) (by show 1<=100;omega);rw[<- xY]at fY ⊢;have s1:=qU l G e1 (ru (ng.po oz) qv oz);have na:=(eQ 5).add ng qv;have s2:=qU l G e1 (ru (hW.po oz) (qh.mul qh) oz);have nb:=(eQ 3).add hW (qh.mul qh);have s3:=sY l G e1 (sD (na.po oz) (nb.po oz) oz);refine gi (ay P.y1) ?_;refine gi (eT (n:=z1.toNat) oz P.t1.hj) ?_;refine gD ?_;refine gt (be (j8 l G 0 hl af i2 i4) (a7 rfl rfl rfl) rfl rfl rfl) ?_;refine gt (be (j8 l G 0 hl af i2 i5) (a7 rfl rfl rfl) rfl rfl rfl) ?_;refine gc (tP m2 m1) ?_;refine gc (tP m1 m0) ?_;refine gD ?_;refine gc (jA (vv.x.qs oz) (vu.y.qs oz)) ?_;refine gc (jA (vv.y.qs oz) (vu.x.qs oz)) ?_;refine gc (tp ((vv.x.mul vu.y).qs oz) ((vv.y.mul vu.x).qs oz)) ?_;refine gD ?_;refine gc (sr vv) ?_;refine gt (br fY (cS rfl rfl) bT rfl rfl) ?_;refine gt (be (vT l G e1 hl af hp F1) (a7 rfl rfl rfl) rfl rfl rfl) ?_;refine gt (be (AT l G e1 n1 n0 oz oz) (a7 rfl rfl rfl) rfl rfl rfl) ?_;refine gD ?_;refine gc (sr vv) ?_;refine gt (be (Lu l G e1 nd nd oz oz dz) (a7 rfl rfl rfl) rfl rfl rfl) ?_;refine gt (be s1 (a7 rfl rfl rfl) rfl rfl rfl) ?_;refine gc (jA (qh.qs oz) (qh.qs oz)) ?_;refine gt (be s2 (a7 rfl rfl rfl) rfl rfl rfl) ?_;refine gt (be s3 (a7 rfl rfl rfl) rfl rfl rfl) ?_;refine gD ?_;refine gR ?_;exact aJ.keep (d8 rfl)
end
open Lean.Grind (CommRing)
structure Nxt(l:Li)(kw:List Bool)(g:Gr):Prop where
  b:∀x∈g.bo,kn kw x=false
  j:∀z∈g.jo,∀j,l.jo[z.toNat]?=some j->(j.a∈g.bo\/kn kw j.a=true)/\(j.b∈g.bo\/kn kw j.b=true)
theorem vH{l:Li}{kind b:Int}{kw:List Bool}{bs:List Int}(hb:b∈bs)(h:0<=bC l kind b kw){j:Jt}(hj:l.jo[(bC l kind b kw).toNat]?=some j) :
  (j.a∈bs\/kn kw j.a=true)/\(j.b∈bs\/kn kw j.b=true):=by
 obtain⟨i,j',e,h1,_,h2⟩:=AR h;rw[e,ai6,h1]at hj;cases hj;rcases h2 with⟨e1,e2⟩ |⟨e1,e2⟩
 ·exact⟨.inl (e1▸hb),.inr e2⟩
 ·exact⟨.inr e2,.inl (e1▸hb)⟩
theorem Yt{l:Li}(hl:ax l=0){kw:List Bool}{g:Gr}(h:bY l kw=some g):Nxt l kw g:=by
 unfold bY at h;cases h1:du l kw with
 |some g' =>
  rw[h1]at h;cases h;unfold du at h1;rw[ah8]at h1;obtain⟨i,hi,rfl⟩:=h1;obtain⟨h1,h2⟩:=fj hi;unfold gd at h2;simp only[ahc,ah7,ajh,ahh]at h2;refine⟨yy h2.1,fun z hz j hj=>?_⟩;rw[afr.1 hz]at hj;exact vH (by simp) h2.2 hj
 |none =>
  rw[h1]at h;cases h2:cH l kw with
  |some g' =>
   rw[h2]at h;cases h;have hf:=QK h2;unfold cH at h2;rw[ah8]at h2;obtain⟨i,hi,h3⟩:=h2;obtain⟨_,h4⟩:=fj hi;split at h3
   ·rename_i k hk;subst h3;unfold ik at hk;rw [ah8] at hk;obtain ⟨k',hk',rfl⟩:=hk;obtain ⟨h5,h6⟩:=fj hk';rw [show i + 1 + k' = k' + (i + 1) by omega] at h6;unfold df at h6;simp only [ahc,ah7,ajh] at h6;obtain ⟨_,⟨j1,j2⟩,j3⟩:=h6;refine ⟨fun x hx=>sJ (hf x hx),fun z hz j hj=>?_⟩;simp only [ia,aiq,aim,or_false] at hz;rcases hz with rfl | rfl | rfl
    ·exact vH (by simp[ia]) j1 hj
    ·exact vH (by simp[ia]) j2 hj
    ·obtain⟨n,a2,e,qg,iy,ht⟩:=AR j3;rw[e,ai6,qg]at hj;cases hj;obtain⟨i1,i2,_⟩:=ee hl qg;have i1:=(dM i1).1;have i2:=(dM i2).1;rcases ht with⟨e1,e2⟩ |⟨e1,e2⟩
     ·rw[uy i2 oz oz]at e2;have e2:=aji e2;exact⟨.inl (by simp[ia,e1]),.inl (by simp[ia,e2])⟩
     ·rw[uy i1 oz oz]at e2;have e2:=aji e2;exact⟨.inl (by simp[ia,e2]),.inl (by simp[ia,e1])⟩
   ·rename_i hk;rw[hk]at h4;cases h4
  |none =>
   rw[h2]at h;have hf:=X5 (show d5 l kw=some g from h);have h3:d5 l kw=some g:=h;unfold d5 at h3;rw[ah8]at h3;obtain⟨i,hi,rfl⟩:=h3;obtain⟨_,h4⟩:=fj hi;unfold fV at h4;simp only[ahc,ah7,ajh]at h4;obtain⟨_,j1,j2⟩:=h4;refine⟨fun x hx=>sJ (hf x hx),fun z hz j hj=>?_⟩;simp only[iP,aiq,aim,or_false]at hz;rcases hz with rfl |rfl
   ·exact vH (by simp[iP]) j1 hj
   ·exact vH (by simp[iP]) j2 hj
def FN(l:Li):List Bool->List Gr->Prop
  |_,[]=>True
  |kw,g::gs=>Nxt l kw g/\FN l (ba kw g.bo) gs
theorem MP{l:Li}(hl:ax l=0):∀(n:Nat)(kw:List Bool)(out:List Gr),∃gs,(cw l n kw out).2=out++gs/\FN l kw gs
 |0,kw,out=>⟨[],(afj _).symm,trivial⟩
 |n+1,kw,out=>by
  unfold cw;cases hg:bY l kw with
  |none=>exact⟨[],(afj _).symm,trivial⟩
  |some g =>
   obtain⟨gs,e,h⟩:=MP hl n (ba kw g.bo) (out++[g]);refine⟨g::gs,?_,Yt hl hg,h⟩;show(cw l n (ba kw g.bo) (out++[g])).2=_;rw[e,ajc];rfl
def ls(l:Li)(gs:List Gr)(m:Nat):List Bool:=(gs.take m).foldl (fun k g=>ba k g.bo) (cB l.bo.length 0)
theorem Ku{l:Li}:∀(gs:List Gr)(kw:List Bool),FN l kw gs->∀(m:Nat)(g:Gr),gs[m]?=some g->Nxt l ((gs.take m).foldl (fun k g=>ba k g.bo) kw) g
 |[],kw,h,m,g,hg=>by simp at hg
 |g0::gs,kw,h,0,g,hg=>by
  rw[List.getElem?_cons_zero]at hg;cases hg;exact h.1
 |g0::gs,kw,h,m+1,g,hg=>by
  rw[List.getElem?_cons_succ]at hg;exact Ku gs _ h.2 m g hg
theorem ab4(l:Li)(gs:List Gr)(m:Nat):(ls l gs m).length=l.bo.length:=by
 have:∀(gs:List Gr)(k:List Bool),(gs.foldl (fun k g=>ba k g.bo) k).length=k.length:=by
  intro gs
  induction gs with
  |nil=>intro k;rfl
  |cons g gs ih=>intro k;rw[af1,ih,lF]
 unfold ls;rw[this,jh]
theorem Sq{l:Li}{gs:List Gr}{m:Nat}{g:Gr}(hg:gs[m]?=some g):ls l gs (m+1)=ba (ls l gs m) g.bo:=by
 unfold ls;rw[List.take_add_one,hg,List.foldl_append];rfl
theorem H4{l:Li}{gs:List Gr}{m:Nat}{g:Gr}(hg:gs[m]?=some g)(ok:GrOk l g){b:Int}(h0:0<=b):kn (ls l gs (m+1)) b=(g.bo.any (fun x=>decide (x=b))||kn (ls l gs m) b):=by
 rw[Sq hg,C9 h0 (fun x hx=>by rw[ab4];exact ok.b x hx)]
theorem Re{l:Li}(hl:ax l=0)(hs:bU l=0){m:Nat}{g:Gr}(hg:(aC l)[m]?=some g):Nxt l (ls l (aC l) m) g:=by
 obtain⟨gs,e,h⟩:=MP hl l.bo.length (cB l.bo.length 0) []
 have e2:aC l=gs:=by
  unfold aC ce;rw[ajg hs,e];rfl
 rw[e2]at hg ⊢;exact Ku gs _ h m g hg
theorem At{n e:Nat}{a:List Rat}(h:Nm n e a):a.length<=2^n:=h.nl.le
theorem Pq.ok.nq{n e:Nat}{p:Pq}(h:Pq.ok n e p):Nq n p:=⟨At h.c,At h.s,At h.x,At h.y⟩
section
variable{l:Li}{xs:List Tn}{s g:Nat}(W:WkC l xs s g){gr:Gr}{a:Aq}(hg:(aC l)[a.ms.length]?=some gr)
variable{j r E:Nat}(Q:QInv l j r E a)
include W hg Q
end
end Go.Lw
namespace Go.Lw
open Go.Proofs
theorem mK{α:Type}{l:List α}{i:Nat}{d:α}(h:i<l.length):l[i]?=some (l.getD i d):=by
 rw[ah4,ah9 h];rfl
def jc(dv:Int)(k:Nat)(b:Int):Bool:=!(decide (0<b)&&(decide (k=0)||!decide (b=dv)))
def q6(l:Li)(dv:Int)(k:Nat)(g:Gr):Bool:=(ck l g).all (jc dv k)
def fH(l:Li)(G:List Gr):Int:=(G.getD 0 default).bo.getD 0 0
def i7(l:Li)(G:List Gr)(n:Nat):Bool:=(List.range n).all fun k=>q6 l (fH l G) k (G.getD k default)
def fc(l:Li)(G:List Gr):Bool:=decide (G.length≠0/\(G.getD 0 default).kind=0)&&i7 l G G.length
theorem SS(l:Li)(G:List Gr):i7 l G 0=true:=rfl
theorem Ai(l:Li)(G:List Gr)(n:Nat):i7 l G (n+1)=(i7 l G n&&q6 l (fH l G) n (G.getD n default)):=by
 unfold i7;rw[aft,all_append];simp
theorem C8{l:Li}{G:List Gr}{n m:Nat}(h:i7 l G n=true)(hm:m<=n):i7 l G m=true:=by
 unfold i7 at h ⊢;rw[aif]at h ⊢;exact fun k hk=>h k (afy.2 (by have:=afy.1 hk;omega))
theorem ZF{l:Li}{G:List Gr}{n m:Nat}(h:i7 l G m=false)(hm:m<=n):i7 l G n=false:=by
 cases h1:i7 l G n
 ·rfl
 ·rw[C8 h1 hm]at h;cases h
theorem I4{dv:Int}{k:Nat}{b:Int}:cond (aa .gtr b 0) (cond (aa .eql (k:Int) 0) true (aa .neq b dv)) false=!jc dv k b:=by
 have e1:aa .gtr b 0=decide (0<b):=rfl
 have e2:aa .eql (k:Int) 0=decide (k=0):=by
  show decide ((k:Int)=0)=_;exact decide_eq_decide.2 oz
 have e3:aa .neq b dv=!decide (b=dv):=by by_cases h9:b=dv <;> simp[aa,h9]
 unfold jc;rw[e1,e2,e3];cases decide (0<b) <;> cases decide (k=0) <;> cases decide (b=dv) <;> rfl
theorem GX{α:Type}{p:α->Bool}{l:List α}{i:Nat}{x:α}(h:l[i]?=some x)(hp:p x=false):l.all p=false:=by
 cases h1:l.all p
 ·rfl
 ·rw[aif]at h1;rw[h1 x (ah3 h)]at hp;cases hp
theorem aco{n:Nat}{k:Int}(h:cond (aa .eql (n:Int) 0) true (aa .neq k 0)=true):¬(n≠0/\k=0):=by
 cases h1:aa .eql (n:Int) 0
 ·rw[h1]at h
  have h2:k≠0:=by
   intro h9;rw[h9]at h;cases h
  exact fun h9=>h2 h9.2
 ·have:=dZ h1;exact fun h9=>h9.1 oz
theorem Qq{n:Nat}{k:Int}(h:cond (aa .eql (n:Int) 0) true (aa .neq k 0)=false):n≠0/\k=0:=by
 cases h1:aa .eql (n:Int) 0
 ·rw[h1]at h;have h2:=dw h1;refine⟨by omega,?_⟩;have h3:aa .neq k 0=false:=h;simpa[aa]using h3
 ·rw[h1]at h;cases h
theorem UJ(l:Li)(hl:l.ok)(af:ax l=0)(G:List Gr)(hG:∀g∈G,GrOk l g)(PX:0<G.length->(G.getD 0 default).bo[0]?=some (fH l G))(GI:G.length<=100) :
  FP 83 [l.av,.lst 4 (G.map Gr.av)] (.tup [bl (fc l G),.v .nilIface]):=by
 refine ak func83 ?_;refine gl ?_;refine mS (fun h=>(ay (mK (l:=G) (i:=0) (d:=default) (by have:=dw h;omega)))) ?_;refine gC (fun z=>?_) (fun z=>?_)
 ·have h1:=aco z;refine bq ?_;unfold fc;rw[ajl h1,ahe];rfl
 obtain⟨h1,h2⟩:=Qq z;obtain⟨dv,m6⟩:∃dv,dv=fH l G:=⟨_,rfl⟩
 rw[<- m6]at PX;have hs:fc l G=i7 l G G.length:=by unfold fc;rw[ajk ⟨h1,h2⟩,ahg]
 rw[hs];refine gi (ay (mK (l:=G) (i:=0) (d:=default) oz)) ?_;refine gi (ay (PX oz)) ?_;refine gl ?_;refine aK [2,6,29,30] [2] (fun(k:Nat)=>[pP 31 (i64 k)]) (fun _=>[]) (fun k=>k<=G.length/\i7 l G k=true) (fun k=>G.length-k) 0 ⟨aii _,rfl⟩ ?_;rintro k ⟨hk,x4⟩ K1 J1;refine gC (fun z=>?_) (fun z=>?_)
 ·have ae:=aI z;have hg:=mK (l:=G) (i:=k) (d:=default) ae;obtain⟨g,eg⟩:∃g,g=G.getD k default:=⟨_,rfl⟩
  rw[<- eg]at hg;have js:=hG g (ah3 hg);have hgj:=js.lj;refine gi (ay hg) ?_;refine gt (br (V5 l hl af g js) (cS rfl rfl) bT rfl rfl) ?_;refine gf ?_ (77777,0);refine gW ((Wk.freeze (k:=900) rfl).trans<|Wk.of (sl:=[pP 2 (.ptr 2 0),pP 6 (i64 dv),pP 7 (i64 k),pP 9 (.lst 1 ((ck l g).map i64)),pP 29 (.lst 4 (G.map Gr.av)),pP 30 (i64 G.length),pP 31 (i64 k)]) (hp:=[pP 2 (.box l.av.cells)]) (.k (.k (.k (.cons rfl (.of (b8 (by rw[ah6,pS]))) (.k (.k (.k .nil))))))) (.k .nil)) ?_;refine gl ?_;refine aK [2,6,7,29,30,31,45,46] [2] (fun(q:Nat)=>[pP 47 (i64 q)]) (fun _=>[]) (fun q=>q<=(ck l g).length/\((ck l g).take q).all (jc dv k)=true) (fun q=>(ck l g).length-q) 0 ⟨aii _,rfl⟩ ?_;rintro q ⟨hq,ov⟩ K2 J2;refine gC (fun z=>?_) (fun z=>?_)
  ·have bD:=aI z;obtain⟨b,hb⟩:=aB bD;refine gi (ay hb) ?_;refine gC (fun z=>?_) (fun z=>?_)
   ·have h3 : jc dv k b = false := by rw [I4] at z; simpa using z
    have h4:i7 l G (k+1)=false:=by rw[Ai,<- eg,<- m6];unfold q6;rw[GX hb h3,ahd]
    refine bq ?_;rw[ZF h4 ae];rfl
   have h3:jc dv k b=true:=by rw[I4]at z;simpa using z
   refine ga (ya (by unfold az;have:=pS l g;omega)) ?_;exact aE J2 (q+1) ⟨bD,rx ov hb h3⟩
  have bD:=aV hq z;refine ga aG ?_;exact aE J1 (k+1) ⟨ae,by rw[Ai,x4,<- eg,<- m6,ahg];exact rv bD ov⟩
 have ae:=aV hk z;subst ae;refine bq ?_;rw[x4];rfl
def md(l:Li)(G:List Gr):Jt:=l.jo.getD ((G.getD 0 default).jo.getD 0 0).toNat default
def gN(l:Li)(j:Jt)(x:Gr):Nat:=if cQ 0 (gM l x)=0/\ep l j x≠[]then 0 else 15
def di(l:Li):Nat :=
  if ax l≠0 then ax l else if bU l≠0 then bU l else if l.drivers.length≠1 then 7 else if fc l (aC l)=false then 15
  else if ∀x∈(aC l).tail,gN l (md l (aC l)) x=0 then 0 else 15
def d9(l:Li):LL:=if di l=0 then(aC l).tail.map (ep l (md l (aC l)))else[]
def dx(l:Li):List Int:=if di l=0 then(aC l).tail.map f8 else[]
theorem Ua(xs:List Rat):cQ 0 xs=0\/cQ 0 xs=15:=by unfold cQ;rw[ajf (by decide)];split;exact .inl rfl;exact .inr rfl
theorem aa2{l:Li}{x:Gr}(h:DyK l x){z:Int}(hz:z∈x.jo){j:Jt}(hj:l.jo[z.toNat]?=some j):j.a∈x.bo\/j.b∈x.bo:=by
 have key:∀{kd z b:Int}{bs:List Int}{j j':Jt},TieO l kd bs z b j'->l.jo[z.toNat]?=some j->b∈bs->j.a∈bs\/j.b∈bs:=by
  intro kd z b bs j j' t hj hb;have e:j'=j:=Option.some.inj (t.hj.symm.trans hj);rw[<- e];rcases t.tie with h9 |h9
  ·exact .inl (h9.1▸hb)
  ·exact .inr (h9.1▸hb)
 cases h with
 |drv t d0 hd hb =>
  rw[afr.1 hz]at hj;exact key t hj (by simp)
 |rrr ne t0 t1 h0 h2 kd tie =>
  simp only[aiq,aim,or_false]at hz;rcases hz with rfl |rfl |rfl
  ·exact key t0 hj (by simp)
  ·exact key t1 hj (by simp)
  ·cases h2.symm.trans hj;rcases tie with h9 |h9
   ·exact .inl (by rw[h9.1];simp)
   ·exact .inr (by rw[h9.1];simp)
 |pr t0 t1 ha =>
  simp only[aiq,aim,or_false]at hz;rcases hz with rfl |rfl
  ·exact key t0 hj (by simp)
  ·exact key t1 hj (by simp)
 |rp t0 t1 ha =>
  simp only[aiq,aim,or_false]at hz;rcases hz with rfl |rfl
  ·exact key t0 hj (by simp)
  ·exact key t1 hj (by simp)
structure Sg0(l:Li):Prop where
  pj:Pj l (aC l) (md l (aC l)) (fH l (aC l))
  ne:0<(aC l).length
  b0:(((aC l).getD 0 default).bo)[0]?=some (fH l (aC l))
  dr:∃x,l.drivers[0]?=some x/\x.body=fH l (aC l)
theorem Sk{dv b:Int}(h:jc dv 0 b=true):b<=0:=by
 unfold jc at h;simp at h;exact h
theorem abk{dv b:Int}{k:Nat}(h:jc dv (k+1) b=true):b<=0\/b=dv:=by
 unfold jc at h;simp at h;exact h
theorem CJ{l:Li}{g:Gr}(h:DyK l g)(hk:g.kind=0):∃b z d j x,g=⟨0,[b],[z],d⟩/\TieO l 0 [b] z b j/\0<=d/\l.drivers[d.toNat]?=some x/\x.body=b:=by
 cases h with
 |drv t d0 hd hb=>exact⟨_,_,_,_,_,rfl,t,d0,hd,hb⟩
 |rrr ne t0 t1 h0 h2 kd tie=>cases hk
 |pr t0 t1 ha=>cases hk
 |rp t0 t1 ha=>cases hk
theorem yI{l:Li}(af:ax l=0)(hd:l.drivers.length=1)(hs:fc l (aC l)=true):Sg0 l:=by
 unfold fc at hs;simp only[ah7,ajh]at hs;obtain⟨⟨h1,h2⟩,h3⟩:=hs;have hg:=mK (l:=aC l) (i:=0) (d:=default) oz;obtain⟨g,eg⟩:∃g,g=(aC l).getD 0 default:=⟨_,rfl⟩
 rw[<- eg]at hg h2;obtain⟨oE,bc⟩:=lT af (ah3 hg);obtain⟨b,z,d,j,x,rfl,t,d0,fL,hb⟩:=CJ oE h2;have e1:fH l (aC l)=b:=by unfold fH;rw[<- eg];rfl
 have e2:md l (aC l)=j:=by unfold md;rw[<- eg];exact aP t.hj
 have h4:=C8 h3 (show 1<=_ by omega);rw[Ai,SS,ahg,<- eg,e1]at h4;unfold q6 at h4;rw[aif]at h4;have hz:=bc.j z (by simp);obtain⟨i1,i2,_⟩:=ee af t.hj;have i1:=dM i1;have i2:=dM i2
 have aF:j.a≠j.b:=by
  intro h9;rcases t.tie with⟨a1,a2⟩ |⟨a1,a2⟩
  ·exact a2 (by rw[<- h9,a1];simp)
  ·exact a2 (by rw[h9,a1];simp)
 have ha:ck l ⟨0,[b],[z],d⟩=[eH ⟨0,[b],[z],d⟩ j]:=by show[eH _ (l.jo.getD z.toNat default)]=_;rw[aP t.hj]
 have h5:=Sk (h4 _ (by rw[ha];exact afr.2 rfl))
 have h6:fE j b=0:=by
  unfold fE;unfold eH at h5;rcases t.tie with⟨a1,a2⟩ |⟨a1,a2⟩
  ·rw[ajg a1];rw[ajg (Ae (by rw[a1];simp)),ajf (by rw[pR a2];simp)]at h5;omega
  ·have a3:¬j.a=b:=fun h9=>aF (h9.trans a1.symm)
   rw[ajf a3];rw[ajf (by rw[pR a2];simp)]at h5;omega
 refine⟨?_,by omega,by rw[<- eg,e1];rfl,?_⟩
 ·rw[e1,e2];exact⟨⟨_,z,hg,rfl,hz.1,hz.2,t.hj⟩,qK t,h6⟩
 ·have qd:=(afl.1 fL).1;rw[show d.toNat=0 by omega]at fL;exact⟨x,fL,by rw[e1];exact hb⟩
theorem U9{l:Li}(af:ax l=0){b:Int}(h0:0<=b):∀{n m:Nat},n<=m->m<=(aC l).length->kn (ls l (aC l) n) b=true->kn (ls l (aC l) m) b=true:=by
 intro n m
 induction m with
 |zero=>intro h _ hk;rwa [show n=0 by omega]at hk
 |succ m ih =>
  intro h hm hk
  by_cases e:n=m+1
  ·rwa [e]at hk
  ·obtain⟨g,hg⟩:=aB (l:=aC l) (i:=m) oz;rw[H4 hg (lT af (ah3 hg)).2 h0,ih oz oz hk,Bool.or_true]
theorem Fn{l:Li}(af:ax l=0)(gq:bU l=0)(hd:l.drivers.length=1)(hs:fc l (aC l)=true){k:Nat}{x:Gr}(hx:(aC l)[k+1]?=some x):Lg l (fH l (aC l)) x:=by
 have h0:=yI af hd hs;obtain⟨oE,bc⟩:=lT af (ah3 hx);have hl:=(afl.1 hx).1;refine⟨oE,bc,fun hk=>?_,fun z hz jt hj=>?_⟩
 ·obtain ⟨b, z, d, j, y, rfl, t, d0, fL, hb⟩:=CJ oE hk;have qd:=(afl.1 fL).1;rw [show d.toNat = 0 by omega] at fL;obtain ⟨y',h1,h2⟩:=h0.dr;have h3:y = y':=Option.some.inj (fL.symm.trans h1);have h4:b = fH l (aC l):=by rw [<- hb,h3,h2]
  have hn:=(Re af gq hx).b b (by simp);have oo:=mK (l:=aC l) (i:=0) (d:=default) h0.ne;have PY:=(lT af (ah3 oo)).2;have mY:=ah3 h0.b0;have iC:=(PY.b _ mY).1
  have h5:kn (ls l (aC l) 1) (fH l (aC l))=true:=by
   rw[H4 oo PY iC];rw[show((aC l).getD 0 default).bo.any (fun x=>decide (x=fH l (aC l)))=true from List.any_eq_true.2 ⟨_,mY,ajk rfl⟩];rfl
  rw[h4,U9 af iC (show 1<=k+1 by omega) oz h5]at hn;cases hn
 ·unfold fc at hs;simp only [ah7,ajh] at hs;have h4:=C8 hs.2 (show k + 2 <= _ by omega);rw [Ai,aP hx,ah7] at h4;have h5:=h4.2;unfold q6 at h5;rw [aif] at h5
  have h6:jc (fH l (aC l)) (k+1) (eH x jt)=true:=h5 _ (by
   unfold ck;exact af0.2 ⟨z,hz,by rw[aP hj]⟩)
  obtain⟨i1,i2,_⟩:=ee af hj;have i1:=dM i1;have i2:=dM i2;have h7:=abk h6;have h8:=aa2 oE hz hj;unfold eH at h7;refine⟨fun ha=>?_,fun hb=>?_⟩
  ·rw [ajf (by rw [pR ha]; simp)] at h7;rcases h7 with h7 | h7
   ·exact .inl oz
   ·exact .inr h7
  ·have ha:jt.a∈x.bo:=by
    rcases h8 with h9 |h9
    ·exact h9
    ·exact ajm h9 hb
   rw[ajg (Ae ha),ajf (by rw[pR hb];simp)]at h7;rcases h7 with h7 |h7
   ·exact .inl oz
   ·exact .inr h7
theorem MG{l:Li}(h:ax l≠0):di l=ax l:=by unfold di;rw[ajg h]
theorem I8{l:Li}(h1:ax l=0)(h:bU l≠0):di l=bU l:=by unfold di;rw[ajf oz,ajg h]
theorem ME{l:Li}(h1:ax l=0)(h2:bU l=0)(h:l.drivers.length≠1):di l=7:=by unfold di;rw[ajf oz,ajf oz,ajg h]
theorem HZ{l:Li}(h1:ax l=0)(h2:bU l=0)(h3:l.drivers.length=1)(h:fc l (aC l)=false):di l=15:=by unfold di;rw[ajf oz,ajf oz,ajf oz,ajg h]
theorem BR{l:Li}(h1:ax l=0)(h2:bU l=0)(h3:l.drivers.length=1)(h4:fc l (aC l)=true){x:Gr}(hx:x∈(aC l).tail)(h:gN l (md l (aC l)) x≠0):di l=15:=by
 unfold di;rw[ajf oz,ajf oz,ajf oz,ajf (by rw[h4];decide),ajf (fun h9=>h (h9 x hx))]
theorem MC{l:Li}(h1:ax l=0)(h2:bU l=0)(h3:l.drivers.length=1)(h4:fc l (aC l)=true)(h:∀x∈(aC l).tail,gN l (md l (aC l)) x=0):di l=0:=by
 unfold di;rw[ajf oz,ajf oz,ajf oz,ajf (by rw[h4];decide),ajg h]
structure ExP(l:Li):Prop where
  li:ax l=0
  sp:bU l=0
  dr:l.drivers.length=1
  si:fc l (aC l)=true
  al:∀x∈(aC l).tail,gN l (md l (aC l)) x=0
theorem LG{l:Li}(h:di l=0):ExP l:=by
 have h1:ax l=0:=Decidable.byContradiction fun h1=>by rw[MG h1]at h;omega
 have h2:bU l=0:=Decidable.byContradiction fun h2=>by rw[I8 h1 h2]at h;omega
 have h3:l.drivers.length=1:=Decidable.byContradiction fun h3=>by rw[ME h1 h2 h3]at h;omega
 have h4:fc l (aC l)=true:=by
  cases h4:fc l (aC l)
  ·rw[HZ h1 h2 h3 h4]at h;omega
  ·rfl
 refine⟨h1,h2,h3,h4,fun x hx=>Decidable.byContradiction fun h5=>?_⟩;rw[BR h1 h2 h3 h4 hx h5]at h;omega
theorem vO{x k:Int}(h:aa .neq x k=true):x≠k:=by simpa[aa]using h
theorem vf{x k:Int}(h:aa .neq x k=false):x=k:=by simpa[aa]using h
theorem XO{e n:Nat}(h:cond (eI (hO e)) (aa .eql (n:Int) 0) false=true):e=0/\n=0:=by
 cases h1:eI (hO e)
 ·rw[h1]at h;cases h
 ·rw[h1]at h;exact⟨Nk h1,by have:=dZ (x:=(n:Int)) (y:=0) h;omega⟩
theorem aa5{e n:Nat}(h:cond (eI (hO e)) (aa .eql (n:Int) 0) false=false):e≠0\/n≠0:=by
 cases h1:eI (hO e)
 ·exact .inl (RG h1)
 ·rw[h1]at h;exact .inr (by have:=dw (x:=(n:Int)) (y:=0) h;omega)
theorem RE{l:Li}{j:Jt}{x:Gr}(h:cQ 0 (gM l x)=0/\(ep l j x).length=0):gN l j x=15:=by
 unfold gN;rw[ajf (fun h9=>h9.2 (af7.1 h.2))]
theorem UZ{l:Li}{j:Jt}{x:Gr}(h:cQ 0 (gM l x)≠0\/(ep l j x).length≠0):gN l j x=cQ 0 (gM l x):=by
 unfold gN;rcases Ua (gM l x)with h1 |h1
 ·rw[ajg ⟨h1,fun h9=>by rw[h9]at h;rcases h with h |h;exact h h1;exact h rfl⟩,h1]
 ·rw[ajf (fun h9=>by rw[h1]at h9;exact ajm h9.1 (by decide)),h1]
theorem sM{α β:Type}(f:α->β){L:List α}{i:Nat}{x:α}(h:L[i]?=some x):(L.take (i+1)).map f=(L.take i).map f++[f x]:=by rw[g9 h,ai4];rfl
theorem CK(l:Li)(hl:l.ok):FP 33 [l.av] (.tup [.lst 1 ((d9 l).map nA),.lst 1 ((dx l).map i64),db (di l)]):=by
 refine ak func33 ?_;refine gc (Wt l hl) ?_;refine gC (fun z=>?_) (fun z=>?_)
 ·have h9:=n7 z
  have he:di l=(if ax l=0 then bU l else ax l):=by
   by_cases h1:ax l=0
   ·rw[ajg h1]at h9 ⊢;exact I8 h1 h9
   ·rw[ajf h1];exact MG h1
  have hn:di l≠0:=by rw[he];exact h9
  refine gR ?_;exact gE (by unfold d9 dx;rw[ajf hn,ajf hn,he];exact Sub.tup (.cons (.nil _ _ _) (.cons (.nil _ _ _) (.cons (.refl _) .nil))))
 have h9:=n5 z;have af:ax l=0:=Decidable.byContradiction fun h1=>by rw[ajf h1]at h9;exact h1 h9
 have gq:bU l=0:=by rw[ajg af]at h9;exact h9
 rw[ajg af,ajg af];have uL:=hl.ld;refine gl ?_;refine gC (fun z=>?_) (fun z=>?_)
 ·have h3 : l.drivers.length ≠ 1 := by have := vO z; omega
  have he:=ME af gq h3;refine gR ?_;exact gE (by unfold d9 dx;rw[he];exact Sub.tup (.cons (.nil _ _ _) (.cons (.nil _ _ _) (.cons (.refl _) .nil))))
 have h3:l.drivers.length=1:=by have:=vf z;omega
 obtain⟨G,hG⟩:∃G,G=aC l:=⟨_,rfl⟩
 have GI:G.length<=100:=by have:=yx af;rw[hG];omega
 have adt:=UJ l hl af G (fun g hg=>(lT af (hG▸hg)).2) (fun h0=>by
  have hg:=mK (l:=G) (i:=0) (d:=default) h0;have hm:G.getD 0 default∈aC l:=by have h9:=ah3 hg;rw[hG]at h9 ⊢;exact h9
  have oE:=(lT af hm).1
  have key:∀x,DyK l x->x.bo[0]?=some (x.bo.getD 0 0):=by
   intro x hx;cases hx <;> rfl
  exact key _ oE) GI
 rw[<- hG];refine gc adt ?_;refine gf ?_;refine gC (fun z=>?_) (fun z=>?_) (st2:=(77777,0))
 ·have h4 : fc l (aC l) = false := by rw [<- hG]; simpa using z
  have he:=HZ af gq h3 h4;refine gR ?_;exact gE (by unfold d9 dx;rw[he];exact Sub.tup (.cons (.nil _ _ _) (.cons (.nil _ _ _) (.cons (.refl _) .nil))))
 have h4:fc l (aC l)=true:=by rw[<- hG];simpa using z
 have hS:=yI af h3 h4;have aF:0<G.length:=by rw[hG];exact hS.ne
 obtain⟨T,hT⟩:∃T,T=G.tail:=⟨_,rfl⟩
 have hTl:T.length<=100:=by rw[hT,agk];omega
 obtain⟨j,hj⟩:∃j,j=md l G:=⟨_,rfl⟩
 have iV:Pj l G j (fH l G):=by rw[hj,hG];exact hS.pj
 have GJ:∀(i:Nat)(x:Gr),T[i]?=some x->Lg l (fH l G) x:=fun i x hx=>by
  rw[hG];refine Fn af gq h3 h4 (k:=i) ?_;rw[<- hG];rw[hT,afn]at hx;exact hx
 refine gW (Wk.o (sl:=[pP 1 (.ptr 1 0),pP 5 (.lst 4 (G.map Gr.av))]) (hp:=[pP 1 (.box l.av.cells)])) ?_ (14,2);refine gs ((eF (l:=1) (es:=G.map Gr.av) (.tmp rfl) (.some _ (.const _) oz) (.none _) T53 rfl T104 rfl (by rw[ah6];omega) (aie _) rfl)) ?_;refine ge rfl ?_;refine gW (Wk.of (sl:=[pP 8 (.ptr 8 0),pP 9 (nS),pP 10 (nS),pP 44 (.lst 4 (T.map Gr.av)),pP 45 (i64 T.length),pP 46 (i64 0)]) (hp:=[pP 8 (.box (sk l G 0))]) (.k (.k (.k (.cons rfl (.of (by rw[hT,<- List.drop_one,agc,aio (by rw[agd];omega)])) (.cons rfl (Sub.int (by have h8:T.length=G.length-1:=(by rw[hT,agk]);rw[h8,air,agd,ah6,Nat.min_self])) (.k .nil)))))) (.k .nil)) ?_ (99999,0)
 refine gW (Wk.virt 900 1 rfl) ?_ (99999,0);refine gW (Wk.virt 901 1 rfl) ?_;refine aK [8,44,45] [8] (fun(i:Nat)=>[pP 9 (.ms 900 1 0 i),pP 10 (.ms 901 1 0 i),pP 46 (i64 i)]) (fun i=>[pP 900 (.row 1 (((T.take i).map (ep l j)).map nA)),pP 901 (.row 1 (((T.take i).map f8).map i64))]) (fun i=>i<=T.length/\∀x∈T.take i,gN l j x=0) (fun i=>T.length-i) 0 ⟨aii _,fun x hx=>by simp at hx⟩ ?_ (h1:=(.cons rfl (Sub.nM _ _ _) (.cons rfl (Sub.nM _ _ _) (.k .nil))))
 rintro i ⟨hi,bc⟩ K1 J1;refine gC (fun z=>?_) (fun z=>?_) (st2:=(24,0))
 ·have ae:=aI z;obtain ⟨x,hx⟩:=aB ae;have GK:x ∈ (aC l).tail:=by rw [<- hG,<- hT]; exact ah3 hx
  refine gi (ay hx) ?_;refine gt (br (Con.rekeyB 8 rfl rfl rfl rfl (TW l G hl af iV (GJ i x hx))) (cS rfl rfl) bT rfl rfl) ?_;refine cq ?_;refine wb [8,13,14,44,45,46] [900,901] [pP 9 (.ms 900 1 0 i),pP 10 (.ms 901 1 0 i)] [pP 8 (.box (sk l G (gN l j x)))] (True) ?_ ?_
  ·intro K2 J2;refine gC (fun z=>?_) (fun z=>?_)
   ·have h5:=XO z;exact lR J2 trivial (hw:=Wk.of aU (.cons rfl (.of (by rw[RE h5];rfl)) (.k (.k .nil))))
   have h5:=aa5 z;exact lR J2 trivial (hw:=Wk.of aU (.cons rfl (.of (by rw[UZ h5])) (.k (.k .nil))))
  rintro -;refine gC (fun z=>?_) (fun z=>?_)
  ·have h5:=n7 z;have he:=BR af gq h3 h4 GK (by rw [<- hG,<- hj]; exact h5);have h6:gN l j x = 15:=by unfold gN at h5 ⊢; split at h5; exact ajm rfl h5; rw [ajf (by assumption)]
   refine gD ?_;refine gR ?_;exact gE (by unfold d9 dx;rw[he,h6];exact Sub.tup (.cons (.nil _ _ _) (.cons (.nil _ _ _) (.cons (.refl _) .nil))))
  have h5:=n5 z;refine gs (dX (.tmp rfl) rfl (by rw[ah6,ah6,air];omega) (.tmp rfl) T29 rfl T41 rfl rfl (by simp only[aij,aiv];omega) rfl rfl) ?_;refine gs (dX (.tmp rfl) rfl (by rw[ah6,ah6,air];omega) (.tmp rfl) T30 rfl T3 rfl rfl (by simp only[aij,aiv];omega) rfl rfl) ?_ (23,0);refine gW (Wk.of (sl:=[pP 8 (.ptr 8 0),pP 9 (.ms 73 1 0 (i+1)),pP 10 (.ms 77 1 0 (i+1)),pP 44 (.lst 4 (T.map Gr.av)),pP 45 (i64 T.length),pP 46 (i64 i)]) (hp:=[pP 8 (.box (sk l G 0)),pP 73 (.row 1 (((T.take (i+1)).map (ep l j)).map nA)),pP 77 (.row 1 (((T.take (i+1)).map f8).map i64))]) aU (.cons rfl (.of (by rw[h5])) (.cons rfl (.of (by rw[sM _ hx,ai4];rfl)) (.cons rfl (.of (by rw[sM _ hx,ai4];rfl)) .nil)))) ?_ (23,0)
  refine gW (Wk.rk (k:=73) (d:=900) rfl rfl) ?_ (23,0);refine gW (Wk.rk (k:=77) (d:=901) rfl rfl) ?_;refine ga aG ?_;exact aE J1 (i+1) ⟨ae,fun y hy=>by rw[g9 hx]at hy;rcases aia.1 hy with h9 |h9;exact bc y h9;rw[afr.1 h9];exact h5⟩
 have ae:=aV hi z;subst ae;have he:=MC af gq h3 h4 (by rw[<- hG,<- hT,<- hj,<- ail (l:=T)];exact bc);have eP:d9 l=T.map (ep l j):=by unfold d9;rw[ajg he,<- hG,<- hT,<- hj]
 have eN:dx l=T.map f8:=by unfold dx;rw[ajg he,<- hG,<- hT]
 refine gW ((Wk.freeze (k:=900) rfl).trans<|(Wk.freeze (k:=901) rfl).trans<|Wk.of (sl:=[pP 9 (.lst 1 ((T.map (ep l j)).map nA)),pP 10 (.lst 1 ((T.map f8).map i64))]) (hp:=[]) (.cons rfl (.of (by rw[b8 (by rw[ah6,ah6,air];omega),ail];rfl)) (.cons rfl (.of (by show AV.fz 901 1 _ (.ms 901 1 0 T.length)=_;rw[b8 (by rw[ah6,ah6,air];omega),ail])) .nil)) .nil) ?_;refine mv ?_;rw[eP,eN,he];rfl
variable{P:ajs}{N:Nat}{R:Array Oper}{s:AS}{pos:String}{after:Array Edge}
theorem GP{ρ:ajp->ajq}{d:Option Tmp}{x y:ajp}{T T2 t:ajr}{w w':ajt}{v:ajq}
  (h:(Builtin.copy_ #[T,T2] t #[ρ x,ρ y]).run P w=.ok v w') :
  (execOp ρ ⟨d,.call ⟨.builtin .copy,#[x,y],#[T,T2]⟩,t,pos,after,none⟩).run P w=.ok (.value v) w':=by
 simp[execOp,resolve,invoke,builtin,h]
set_option maxHeartbeats 1000000 in
theorem ZV{d k sz len:Nat}{es xs:List AV}{x y:ajp}{T T2 E t:ajr}{ti te:TI}
  (hx:Ev s x (.ms k sz 0 len)) (hk:s.blk k=some (.row sz es)) (ch:len=es.length) (hy:Ev s y (.lst sz xs)) (hT:aq P T=some ti) (iy:ti.k=.slice E) (hE:aq P E=some te)
  (aN:te.size=sz) (co:aek 0 te.size=true) (hb:xs.length<=len) (hN:aek d N=true) :
  Step P N R s ⟨some d,.call ⟨.builtin .copy,#[x,y],#[T,T2]⟩,t,pos,after,none⟩
   ⟨some (.v (.int .i64 xs.length)),[(k,some (.row sz (xs++es.drop xs.length)))],ai x++ai y,[k]⟩:=by
 refine vS rfl ?_;intro s' am bm C m a w next hC hr hnext;subst aN;subst ch
 rw[ad5]at hN co;have cp:lk s'.hp k=some (.row te.size es):=(am.2 k (by simp)).trans hk;have hd:d<C.nt:=by omega
 have dk:=(hx.agree am (fun _ h=>aia.2 (.inl h))).rep hr;have kT:=(hy.agree am (fun _ h=>aia.2 (.inr h))).rep hr;obtain⟨dd2,h3,h4,-,hu⟩:=cR hT w;obtain rfl:=gz (h4.trans iy);obtain⟨ll,jk⟩:∃ll,ll=es.length:=⟨_,rfl⟩
 rw[<- jk]at dk
 have xB:∀(w':ajt),RelM C ⟨s'.sl,(k,some (.row te.size (xs++es.drop xs.length)))::s'.hp⟩ m a w'->next (a.put (some d) (goInt xs.length)) w':=by
  intro w' hr';refine hnext m _ _ ?_;have:=hr'.put d (.int .i64 xs.length) (some (.v (.int .i64 xs.length))) (fun z hz=>by cases hz;exact⟨aip hd hr'.nt,.v _⟩);simpa[AS.app,Act.put,goInt]using this
 have xC:∀(b1 a1:Option Addr)(c1 c2 l1:Nat),a.eval x=.slice b1 l1 c1->a.eval y=.slice a1 0 c2->xs=[] ->
   (⟨some d,.call ⟨.builtin .copy,#[x,y],#[T,T2]⟩,t,pos,after,none⟩:Oper).upon P a next (fun _ _ _=>False) ((execOp a.eval ⟨some d,.call ⟨.builtin .copy,#[x,y],#[T,T2]⟩,t,pos,after,none⟩).run P w):=by
  intro b1 a1 c1 c2 l1 e1 e2 e3;subst e3
  have iR:(Builtin.firstCells te.size 0 (.slice a1 0 c2)).run P w=.ok #[] w:=by
   cases a1 with
   |none=>rfl
   |some a1=>exact run_firstCells_some w _ _ a1 _ _ [] (by simp) (by simp)
  have dK:(Builtin.copy_ #[T,T2] t #[.slice b1 l1 c1,.slice a1 0 c2]).run P w=.ok (goInt 0) w:=by
   have e0:Nat.min 0 l1=0:=Nat.zero_min _;cases b1 with
   |none=>simp[Builtin.copy_,h3,eR hE,Builtin.lenOf,e0,iR]
   |some b1=>simp[Builtin.copy_,h3,eR hE,Builtin.lenOf,e0,iR,storeCells]
  rw[GP (ρ:=a.eval) (by rw[e1,e2];exact dK)];refine xB w ?_;refine RelM.congr (s:=s') (fun t=>rfl) ?_ hr;intro k';simp only[AS.blk,aA];split
  ·subst_vars;rw[cp];rfl
  ·rfl
 rcases DW kT co with⟨rfl,a1,cap1,gk⟩ |⟨b1,off1,cap1,cs,gk,kW,cF,OZ,pZ,iT,gn,aQ⟩
 ·generalize dc:a.eval x=u at dk;cases dk with
  |ms0 a0=>exact xC _ _ _ _ _ dc gk rfl
  |ms hm hc hS=>exact xC _ _ _ _ _ dc gk rfl
 ·obtain ⟨O0, O1, t1, f1, jN⟩:=cF;have cK:(cs.extract off1 (off1 + xs.length * te.size)).toList.length = xs.length * te.size:=by simp; omega
  have mW:∀(j:Nat) v,(cs.extract off1 (off1+xs.length*te.size)).toList[j]?=some v->w.cell? ((⟨b1,off1,none⟩:Addr).add j)=some v:=by
   intro j v hj;rw[iX,qo jN];rw[ahz,ahy]at hj;split at hj
   ·exact hj
   ·cases hj
  have iS:∀u∈(cs.extract off1 (off1+xs.length*te.size)).toList,u.oneCell'=true:=by
   intro u hu;obtain⟨p,hp,rfl⟩:=afh.1 hu;rw[cK]at hp;have hi':p/te.size<xs.length:=by rw[aex co];exact hp
   have he:=ah9 hi';have lW:=iT _ _ he;have kV:p%te.size<te.size:=aeg _ co;have jM:=ah9 (show p%te.size<(xs[p/te.size]).cells.length by omega);have kQ:p/te.size*te.size+p%te.size=p:=by rw[aey];exact aeh _ _
   have kX:cs[off1+p/te.size*te.size+p%te.size]?=some ((cs.extract off1 (off1+xs.length*te.size)).toList[p]'oz):=by
    rw[aeo,kQ];simp only[Array.getElem_toList,Array.getElem_extract];exact ahm oz
   exact(aQ _ _ _ _ _ he jM kX).one (gn _ _ _ _ he jM)
  generalize dc:a.eval x=u at dk;cases dk with
  |ms0 a0=>omega
  | @ms _ _ _ _ _ cap b hm hc hS =>
   subst jk;obtain⟨c,t2,hw,hn,hl,k8,p4,jl⟩:=tc hr.heap cp hm;have Bb:xs.length*te.size<=es.length*te.size:=aik _ hb;have iR:=run_firstCells_some (P:=P) w te.size xs.length ⟨b1,off1,none⟩ xs.length cap1 _ cK mW;have cg:=zC (P:=P) (cs.extract off1 (off1+xs.length*te.size)).toList c w 0 0 hw (by rw[cK];omega) iS;simp only[ae4]at cg;have Gb:Nat.min xs.length es.length=xs.length:=afc hb
   have dK:(Builtin.copy_ #[T,T2] t #[.slice (some ⟨b,0*te.size,none⟩) es.length cap,.slice (some ⟨b1,off1,none⟩) xs.length cap1]).run P w =
     .ok (goInt xs.length) { w with heap:=w.heap.setIfInBounds b (.cells (over c.toList 0 (cs.extract off1 (off1+xs.length*te.size)).toList).toArray t2 (0,0)) }:=by
    rw[Nat.zero_mul];generalize(cs.extract off1 (off1+xs.length*te.size)).toList=news at iR cg ⊢;simp[Builtin.copy_,h3,eR hE,Builtin.lenOf,Gb,iR,cg]
   rw[GP (ρ:=a.eval) (by rw[dc,gk];exact dK)];refine xB _ ?_
   have bp:(over c.toList 0 (cs.extract off1 (off1+xs.length*te.size)).toList).toArray.size=c.size:=by
    simp only[agl];rw[sE _ _ _ (by rw[cK];simp;omega)];simp
   refine hr.write (x':=.row te.size (xs++es.drop xs.length)) cp hm hw bp rfl (fun g S hg hS hw'=>?_)
   have ol:∀(i:Nat)(e:AV),(xs++es.drop xs.length)[i]?=some e->(i<xs.length/\xs[i]?=some e)\/(xs.length<=i/\es[i]?=some e):=by
    intro i e he;rcases aid i xs.length with h |h
    ·rw[ais h]at he;exact .inl ⟨h,he⟩
    ·rw[ain h,ai5,show xs.length+(i-xs.length)=i by omega]at he;exact .inr ⟨h,he⟩
   refine .row hw' ?_ (by simp;omega) ?_ ?_ ?_
   ·rw [bp];have:(xs ++ es.drop xs.length).length = es.length:=by simp; omega
    rw[this];exact hn
   ·intro i e he;rcases ol i e he with⟨_,h⟩ |⟨_,h⟩
    ·exact iT i e h
    ·exact k8 i e h
   ·intro i j e z he hz;rcases ol i e he with⟨_,h⟩ |⟨_,h⟩
    ·exact gn i j e z h hz
    ·exact p4 i j e z h hz
   ·intro i j e u z he hz hu;refine Rep.mono hg hS ?_ (fun _ _ _ h=>h);rw [afg,jC _ _ _ (by rw [cK]; simp; omega),ajf oz,cK] at hu;rcases ol i e he with ⟨hi,h⟩ | ⟨hi,h⟩
    ·have hj:j<te.size:=by
      rw[<- iT i e h];rcases aid j e.cells.length with h |h
      ·exact h
      ·rw[aig h]at hz;cases hz
     have:=my (sz:=te.size) hi;rw[ajg oz,ahz,ahy,ajg oz]at hu;exact aQ i j e z u h hz (by rw[<- hu];congr 1;omega)
    ·have h9:xs.length*te.size<=i*te.size:=aik _ hi;rw[ajf oz,ahz]at hu;exact jl i j e u z h hz hu
end Go.Lw
namespace Go.Lw
open Go.Proofs
section
theorem CZ{p q:Rat}(hp:Qs p)(hq:Qs q):FP 193 [qA p,qA q] (qA (p+q)):=by
 have h:=Fq (rt p) (rt q) hp.ok hq.ok;rw[bH,bH]at h;exact h
theorem me{p q:Rat}(hp:Qs p)(hq:Qs q):FP 96 [qA p,qA q] (qA (p-q)):=by
 have h:=Lt (rt p) (rt q) hp.ok hq.ok;rw[bH,bH]at h;exact h
theorem nQ{p q:Rat}(hp:Qs p)(hq:Qs q):FP 99 [qA p,qA q] (qA (p*q)):=by
 have h:=UO (rt p) (rt q) hp.ok hq.ok;rw[bH,bH]at h;exact h
theorem aa3{p q:Rat}(hp:Qs p)(hq:Qs q):FP 371 [qA p,qA q] (.tup [qA (p/q),i64 (if q=0 then 8 else 0)]):=by
 have h:=SP (rt p) (rt q) hp.ok hq.ok;rw[bH,bH]at h;exact h
theorem Xs{p:Rat}(hp:Qs p):FP 197 [qA p] (qA (-p)):=by
 have h:=OO (rt p) hp.ok;rw[bH]at h;exact h
theorem yY{p:Rat}(hp:Qs p):FP 107 [qA p] (i64 (aR p)):=by
 have h:=BF (rt p) hp.ok;rw[bH]at h;exact h
end
def ke(s:Nat)(q:List Rat):List Rat:=afv s 0++q
theorem I0(t:Rat)(q:List Rat):∀s,au (ke s q) t=t^s*au q t
 |0=>by show au q t=t^0*au q t;rw[Rat.pow_zero];grind
 |s+1=>by
  have ih:=I0 t q s;show 0+t*au (ke s q) t=t^(s+1)*au q t;rw[ih,ag5];grind
theorem JY(t:Rat)(n:Nat):∀p:List Rat,au (p++afv n 0) t=au p t
 |[]=>BV n t
 |c::p=>by show c+t*au (p++afv n 0) t=c+t*au p t;rw[JY t n p]
theorem NA(p:List Rat)(n j:Nat):(p++afv n 0).getD j 0=p.getD j 0:=by
 rw[ah4,ah4,List.getElem?_append];split
 ·rfl
 ·rename_i h;rw[aix,aig oz];split <;> rfl
theorem L1(k:Nat)(e:Nat):e+4<=4^k*(e+4):=Nat.le_mul_of_pos_left _ (afb oz)
def kE(p q:List Rat)(c:Rat)(s:Nat):List Rat:=padd p (ke s q) c
theorem AJ(p q:List Rat)(c t:Rat)(s:Nat):au (kE p q c s) t=au p t+c*t^s*au q t:=by unfold kE;rw[j9,I0];grind
theorem nF{e:Nat}{p:List Rat}(hp:Po e p)(he:e<=1000000000000):FP 298 [nA p] (i64 0):=by
 have iU:=hp.len;have Be:=BG hp.td;refine ak func298 ?_;refine gl ?_;refine gC (fun y=>?_) (fun y=>?_) (st1:=(2,0));exact ajm (dU (b:=65) y) oz;refine gl ?_;refine aK [0,8,9] [] (fun(i:Nat)=>[pP 10 (i64 i)]) (fun _=>[]) (fun i=>i<=p.length) (fun i=>p.length-i) 0 (aii _) ?_;rintro i hi K1 J1;refine gC (fun y=>?_) (fun y=>?_)
 ·have ae:=aI y;obtain⟨q,hq⟩:=aB ae;have hv:=wk (rt q) (hp.qs he (ah3 hq)).ok;rw[ye]at hv;refine gi (ay hq) ?_;refine gc hv ?_;refine gf ?_;refine ga aG ?_;exact aE J1 (i+1) ae
 obtain⟨z,hz⟩:∃z,0<p.length->p[p.length-1]?=some z/\z≠0:=by
  by_cases h:0<p.length
  ·obtain⟨z,h1⟩:=Be h;exact⟨z,fun _=>h1⟩
  ·exact⟨0,fun h1=>ajm h1 h⟩
 refine gl ?_;refine cq ?_;refine kG (fun h=>(gx (by have:=dU (b:=0) h;omega) (by unfold az;omega))) ?_;refine mS (fun h=>(ay (hz (dU (b:=0) h)).1)) ?_;refine bP (fun h=>(yY (hp.qs he (ah3 (hz (dU (b:=0) h)).1)))) ?_;refine gC (fun y=>?_) (fun y=>?_) (st1:=(10,0));exact(N6 (fun h=>(hz h).2) y).elim;refine ah ?_
 first |rfl |(simp;done)
theorem Ao{p q:List Rat}(hp:FP 298 [nA p] (i64 0))(hq:FP 298 [nA q] (i64 0)):FP 295 [nA p,nA q] (i64 0):=by
 refine ak func295 ?_;refine gc hp ?_;refine gf ?_;refine gc hq ?_;refine ah ?_
 first |rfl |(simp;done)
theorem aa7(d:Nat)(hd:aek d 1000=true)(p:List Rat)(hq:∀c∈p,Qs c)(hl:p.length<=1000) :
  Con prog 293 [nA p] [] (.ms d 3 0 (ptr p).length) [(d,some (.row 3 (p.map qA)))]:=by
 refine gF func293 (fun k z h=>by cases h) ?_;refine gl ?_;refine gW (Wk.virt 900 3 rfl) ?_;refine aK [6,7] [] (fun(j:Nat)=>[pP 3 (.ms 900 3 0 j),pP 8 (i64 j)]) (fun j=>[pP 900 (.row 3 ((p.take j).map qA))]) (fun j=>j<=p.length) (fun j=>p.length-j) 0 (aii _) ?_ (h1:=(.cons rfl (Sub.nM _ _ _) (.k .nil)));rintro j hj K1 J1;refine gC (fun y=>?_) (fun y=>?_)
 ·have lr:=aI y;obtain⟨q,m7⟩:=aB lr;have ou:=Fq (rt q) (rt 0) (hq q (ah3 m7)).ok Qs.zero.ok;rw[MY,bH]at ou;refine gi (ay m7) ?_;refine gc (Con.subA (.cons (.refl _) (.cons o0 .nil)) ou) ?_;refine gs (dX (.tmp rfl) rfl (by rw[ah6,air];omega) (.tmp rfl) T41 rfl T44 rfl rfl (by simp only[aij,aiv];omega) rfl rfl) ?_ (6,0);refine gW (Wk.of (sl:=[pP 6 (nA p),pP 7 (i64 p.length),pP 8 (i64 j),pP 3 (.ms 17 3 0 (j+1))]) (hp:=[pP 17 (.row 3 ((p.take (j+1)).map qA))]) aU (.cons rfl (.of (by rw[g9 m7,ai4];rfl)) .nil)) ?_ (6,0);refine gW (Wk.rk (k:=17) (d:=900) rfl rfl) ?_;refine ga aG ?_;exact aE J1 (j+1) lr
 have lr:=aV hj y;subst lr;refine gW (Wk.of (sl:=[pP 3 (.ms 900 3 0 p.length)]) (hp:=[pP 900 (.row 3 (p.map qA))]) aU (.cons rfl (.of (by rw[ail])) .nil)) ?_;refine aK [] [900] (fun(n:Nat)=>[pP 3 (.ms 900 3 0 n)]) (fun _=>[]) (fun n=>n<=p.length/\ptr (p.take n)=ptr p) (fun n=>n) p.length ⟨aie _,by rw[ail]⟩ ?_;rintro n ⟨hn,hv⟩ K2 J2;refine kG (fun h=>(gx (dU (b:=0) h) (by unfold az;omega))) ?_;refine gs (fX rfl rfl rfl (fun h=>bt (n:=n-1) (.opt rfl (o1 h)) (.opt rfl (o1 h)) T41 rfl T44 rfl oz (by have:=dU (b:=0) h;omega) rfl)) ?_;refine gs (fX rfl rfl rfl (fun h=>dq (.opt rfl (o1 h)) rfl (ay (gO (l:=p) (i:=n-1) (by have:=dU (b:=0) h;omega))) T44 rfl rfl rfl)) ?_;refine bP (fun h=>(yY (hq _ (ah3 (gO (l:=p) (i:=n-1) (by have:=dU (b:=0) h;omega)))))) ?_;refine gC (fun t31=>?_) (fun t31=>?_)
 ·obtain ⟨h1, h2⟩:=Cc t31;have h3:p[n - 1]? = some 0:=by rw [gO (l:=p) (i:=n - 1) oz,h2]
  refine ga (gx oz (by unfold az;omega)) ?_;refine gs (qJ (.tmp rfl) (.none _) (.some _ (.tmp rfl) oz) T41 rfl T44 rfl oz oz rfl) ?_;exact aE J2 (n-1) ⟨by omega,Ch (by rw[show n-1+1=n by omega];exact hv) h3⟩ (hw:=Wk.of (.cons rfl (.of (by congr 1)) .nil) (.k .nil))
 have iS:n=(ptr p).length:=by
  rcases ae1 n with h |h
  ·subst h;rw[List.take_zero]at hv;rw[<- hv];rfl
  ·exact Kk hv ⟨_,gO (l:=p) (i:=n-1) oz,Ia t31 h⟩ hn h
 subst iS;refine gR ?_;exact aJ.own1 rfl hd rfl
theorem FR(p:List Rat)(hq:∀c∈p,Qs c)(hl:p.length<=1000):FP 293 [nA p] (nA (ptr p)):=by
 have h:=Con.freeze (by rw[ah6,ae9];exact ja p) (aa7 0 rfl p hq hl)
 rwa [ai9,<- map_take,<- rA]at h
theorem tv{e f k:Nat}{p q:List Rat}{c:Rat}(hp:Pb e p)(hq:Pb f q)(hc:Qb k c)(s:Nat)(h:e+k+f+5<=1000000000000)(lp:p.length<=60)(lq:q.length+s<=60):FP 297 [nA p,nA q,qA c,i64 s] (nA (kE p q c s)):=by
 obtain⟨n,hn⟩:∃n,n=max p.length (q.length+s):=⟨_,rfl⟩
 have kp:Qs c:=hc.qs oz;refine ak func297 ?_;refine gl ?_;refine gl ?_;refine ga (fh (by unfold az;omega) (by unfold az;omega)) ?_;refine gs (ra (.tmp rfl) (.tmp rfl) rfl) ?_;refine gs (f6 (.tmp rfl) T40 rfl T44 rfl rfl oz (by dsimp only;omega) rfl) ?_ (2,0);refine gW (Wk.of (sl:=[pP 0 (nA p),pP 1 (nA q),pP 3 (i64 s),pP 6 (.ptr 6 0),pP 9 (.ms 19 3 0 n)]) (hp:=[pP 6 (.box (qA c).cells),pP 19 (.row 3 ((afv n (0:Rat)).map qA))]) (.k (.k (.k (.k (.cons rfl (.of (by rw[hn];congr 1;omega)) .nil))))) (.k (.cons rfl (yL (by rw[hn];congr 1;omega)) .nil))) ?_ (2,3);refine gs ((ZV (k:=19) (len:=n) (es:=(afv n (0:Rat)).map qA) (xs:=p.map qA) (.tmp rfl) rfl (by rw[ah6,aiu]) (.tmp rfl) T40 rfl T44 rfl rfl (by rw[ah6];omega) rfl)) ?_ (3,0);refine gW (Wk.of (sl:=[pP 0 (nA p),pP 1 (nA q),pP 3 (i64 s),pP 6 (.ptr 6 0),pP 9 (.ms 19 3 0 n)]) (hp:=[pP 6 (.box (qA c).cells),pP 19 (.row 3 ((p++afv (n-p.length) (0:Rat)).map qA))]) aU (.k (.cons rfl (.of (by rw[ai4,ah6,<- agc,List.drop_replicate])) .nil))) ?_ (3,0);refine gW (Wk.rk (k:=19) (d:=900) rfl rfl) ?_;refine gl ?_;refine fF [0,1,3,6,23,24] [6] (fun(i:Nat)(M:List Rat)=>[pP 9 (.ms 900 3 0 n),pP 25 (i64 i)]) (fun _ M=>[pP 900 (.row 3 (M.map qA))]) (fun i M=>i<=q.length/\M.length=n/\(∀t,au M t=au p t+c*t^s*au (q.take i) t)/\(∀j,Qb (e+k+f+4) (M.getD j 0))/\∀j,i+s<=j->M.getD j 0=p.getD j 0) (fun i _=>q.length-i) 0 (p++afv (n-p.length) 0) ⟨aii _,by rw[ai0,aiu];omega,fun t=>by rw[JY];show _=_+c*t^s*0;grind,fun j=>by rw[NA];exact(wt hp j).mono oz,fun j _=>NA p _ j⟩ ?_
 rintro i M ⟨hi,hM,da,hb,heq⟩ K1 J1;refine gC (fun z=>?_) (fun z=>?_) (st2:=(8,0))
 ·have ae:=aI z;obtain ⟨x,hx⟩:=aB ae;have ma:=hq x (ah3 hx);have jQ:i + s < M.length:=by omega
  have cE:=gO jQ;have xW:=heq (i+s) (aie _);have xX:=hc.mul ma
  have bm:Qb (e+k+f+4) (M.getD (i+s) 0+c*x):=by
   rw[xW];exact((wt hp _).add xX).mono oz
  refine gi (ay hx) ?_;refine ga (fh (by unfold az;omega) (by unfold az;omega)) ?_;refine ga (fh (by unfold az;omega) (by unfold az;omega)) ?_;refine gs (bt (n:=i+s) (.tmp rfl) (.tmp rfl) T40 rfl T44 rfl oz oz rfl) ?_;refine gs (dq (.tmp rfl) rfl (ay cE) T44 rfl rfl rfl) ?_;refine gc (nQ kp (ma.qs oz)) ?_;refine gc (CZ (by rw[xW];exact Cg hp oz _) (xX.qs oz)) ?_;refine gs (bt (n:=i+s) (.tmp rfl) (.tmp rfl) T40 rfl T44 rfl oz oz rfl) ?_;refine gs (de (.tmp rfl) rfl (ay cE) rfl (.tmp rfl) rfl rfl T44 rfl rfl) ?_;refine gD ?_ (7,0);refine gW (Wk.of (sl:=[pP 0 (nA p),pP 1 (nA q),pP 3 (i64 s),pP 6 (.ptr 6 0),pP 9 (.ms 900 3 0 n),pP 23 (nA q),pP 24 (i64 q.length),pP 25 (i64 i)]) (hp:=[pP 6 (.box (qA c).cells),pP 900 (.row 3 ((M.set (i+s) (M.getD (i+s) 0+c*x)).map qA))]) aU (.k (.cons rfl (.of (by rw[aja])) .nil))) ?_;refine ga aG ?_;exact fC J1 (i+1) (M.set (i+s) (M.getD (i+s) 0+c*x)) ⟨ae,by rw[aje];exact hM,fun t=>by rw[wg _ _ _ _ jQ,da,sG t hx,AO];grind,fun j=>by rw[m9 _ _ _ _ jQ];split;exact bm;exact hb j,fun j hj=>by rw[m9 _ _ _ _ jQ,ajf oz];exact heq j oz⟩
 have ae:=aV hi z;subst ae;have hr:ptr M=kE p q c s:=nV (dC _) (dC _) (fun t=>by rw[it,da,ail,AJ]);refine gW ((Wk.freeze (k:=900) rfl).trans<|Wk.of (sl:=[pP 9 (nA M)]) (hp:=[]) (.cons rfl (.of (by rw[b8 (by rw[ah6];exact hM.symm)];rfl)) .nil) .nil) ?_;refine gc (FR M (fun x hx=>((zw hb) x hx).qs oz) oz) ?_;refine ah ?_;rw[hr]
theorem abh{e f:Nat}{p q:List Rat}(hp:Pb e p)(hq:Pb f q)(lp:p.length<=30)(lq:q.length<=30)(h:31*(e+f+4)+f<=900000000000):FP 300 [nA p,nA q] (nA (fA p q)):=by
 refine ak func300 ?_;refine gl ?_;refine fF [1,8,9] [] (fun(i:Nat)(R:List Rat)=>[pP 5 (nA R),pP 10 (i64 i)]) (fun _ _=>[]) (fun i R=>i<=p.length/\cV R/\R.length<=i+q.length/\(∀t,au R t=au (p.take i) t*au q t)/\Pb (i*(e+f+4)+1) R) (fun i _=>p.length-i) 0 ([]) ⟨aii _,rfl,aii _,fun t=>by show(0:Rat)=0*au q t;grind,fun c hc=>by cases hc⟩ ?_ (h1:=(.cons rfl (Sub.nil _ _ _) (.k .nil)));rintro i R ⟨hi,hR,hl,da,hb⟩ K1 J1;refine gC (fun z=>?_) (fun z=>?_)
 ·have ae:=aI z;obtain⟨x,hx⟩:=aB ae;have ma:=hp x (ah3 hx);have adp:i*(e+f+4)<=30*(e+f+4):=aik _ oz
  have hlS:(kE R q x i).length<=i+1+q.length:=by
   refine aiw (Fk _ _ _) ?_;unfold ke;rw[ai0,aiu];omega
  have hbS:Pb ((i+1)*(e+f+4)+1) (kE R q x i):=by
   have hs:Pb (f+1) (ke i q):=fun c hc=>by
    unfold ke at hc;rcases aia.1 hc with h9 |h9
    ·rw[afz h9];exact Qb.zero.mono oz
    ·exact(hq c h9).mono oz
   exact(hb.add ma hs).mono (by rw[aez];omega)
  refine gi (ay hx) ?_;refine gc (tv hb hq ma i oz oz oz) ?_;refine ga aG ?_;exact fC J1 (i+1) (kE R q x i) ⟨ae,dC _,hlS,fun t=>by rw[AJ,da,sG t hx];grind,hbS⟩
 have ae:=aV hi z;subst ae;have hr:R=fA p q:=nV hR (dC _) (fun t=>by rw[da,ail,ux]);refine ah ?_;rw[hr]
theorem RV(p:List Rat)(h:p.length<=65):FP 299 [nA p] (.tup [nA p,i64 0]):=by
 refine ak func299 ?_;refine gl ?_;refine gC (fun z=>?_) (fun z=>?_) (st1:=(2,0));exact ajm (dU (b:=65) z) oz;refine bq ?_
 first |rfl |(simp;done)
theorem wU{e f:Nat}{p q:List Rat}(hp:Po e p)(hq:Po f q)(h:e+f+6<=1000000000000):FP 195 [nA p,nA q] (.tup [nA (padd p q 1),i64 0]):=by
 have l1:=hp.len;have l2:=hq.len;have h1:Qb 1 (((1:Int):Rat)):=Qb.one;have kU:=tv hp.b hq.b h1 0 oz oz oz;refine ak func195 ?_;refine gc (Ao (nF hp oz) (nF hq oz)) ?_;refine gf ?_;refine gc (r9 1 oz) ?_;refine gc kU ?_;refine bq ?_
 first |rfl |(simp;done)
theorem qQ{e f:Nat}{p q:List Rat}(hp:Po e p)(hq:Po f q)(h:e+f+6<=1000000000000):FP 198 [nA p,nA q] (.tup [nA (padd p q (-1)),i64 0]):=by
 have l1:=hp.len;have l2:=hq.len;have h1:Qb 1 (((-1:Int):Rat)):=⟨by decide,by decide⟩
 have kU:=tv hp.b hq.b h1 0 oz oz oz;refine ak func198 ?_;refine gc (Ao (nF hp oz) (nF hq oz)) ?_;refine gf ?_;refine gc (r9 (-1) oz) ?_;refine gc kU ?_;refine bq ?_
 first |rfl |(simp;done)
theorem oG{e f:Nat}{p q:List Rat}(hp:Po e p)(hq:Po f q)(h:31*(e+f+4)+f<=900000000000):FP 199 [nA p,nA q] (.tup [nA (fA p q),i64 0]):=by
 have l1:=hp.len;have l2:=hq.len;have l3:=Mb p q;refine ak func199 ?_;refine gc (Ao (nF hp oz) (nF hq oz)) ?_;refine gf ?_;refine gc (abh hp.b hq.b l1 l2 h) ?_;refine gc (RV _ oz) ?_;refine bq ?_
 first |rfl |(simp;done)
theorem j7{e k:Nat}{p:List Rat}{c:Rat}(hp:Po e p)(hc:Qb k c)(h:k+e+8<=1000000000000):FP 196 [nA p,qA c] (.tup [nA (padd [] p c),i64 0]):=by
 have l1:=hp.len;have kU:FP 297 [nS,nA p,qA c,i64 0] (nA (padd [] p c)):=Con.subA (.cons (Sub.nil 3 none 0) (.cons (.refl _) (.cons (.refl _) (.cons (.refl _) .nil)))) (tv (p:=[]) (e:=1) (fun x hx=>by cases hx) hp.b hc 0 oz (by simp) oz);refine ak func196 ?_;refine gc (nF hp oz) ?_;refine gf ?_;refine gc kU ?_;refine bq ?_
 first |rfl |(simp;done)
theorem TB{e:Nat}{p:List Rat}(hp:Pb e p)(lp:p.length<=12)(h:1048576*(e+4)<=900000000000):FP 296 [nA p,nA pW] (.tup [nA (dvQ p),nA (fM p)]):=by
 have GE:Qs (1:Rat):=Qb.one.qs oz;have PZ:Pb 1 pW:=fun c hc=>by simp only[pW,aiq,aim,or_false]at hc;rcases hc with rfl |rfl |rfl;exact Qb.one;exact Qb.zero;exact Qb.one
 refine ak func296 ?_;refine gc (FR p (fun c hc=>(hp c hc).qs oz) oz) ?_;refine fF [1] [] (fun(Q R:List Rat)=>[pP 6 (nA Q),pP 7 (nA R)]) (fun _ _=>[]) (fun Q R=>cV Q/\cV R/\R.length<=p.length/\Q.length<=12/\(∀t,au p t=au Q t*(1+t*t)+au R t)/\Pb (4^(p.length-R.length)*(e+4)) R/\Pb (4^(p.length-R.length)*(e+4)) Q) (fun _ R=>R.length) ([]) (ptr p) ⟨rfl,dC _,ja p,by simp,fun t=>by rw[it];show _=(0:Rat)*_+_;grind,hp.tr.mono (by have:=L1 (p.length-(ptr p).length) e;omega),fun c hc=>by cases hc⟩ ?_ (h1:=(.cons rfl (Sub.nil _ _ _) (.k .nil)))
 rintro Q R ⟨hQ,hR,hRl,PS,da,BB,uN⟩ K1 J1;refine gl ?_;refine gl ?_;refine gC (fun z=>?_) (fun z=>?_)
 ·have rV : 3 <= R.length := by have h9 := aji (p := (R.length : Int) >= 3) z; omega
  obtain⟨c,hc⟩:∃c,c=R.getD (R.length-1) 0:=⟨_,rfl⟩
  have P0:R[R.length-1]?=some c:=by rw[hc];exact gO oz
  obtain⟨B,hB⟩:∃B,B=4^(p.length-R.length)*(e+4):=⟨_,rfl⟩
  have hB9:B<=4^9*(e+4):=by rw[hB];exact aik _ (ae6 oz oz)
  have hp9:(4:Nat)^9=262144:=by decide
  rw[<- hB]at BB uN;have hBe:e+4<=B:=by rw[hB];exact L1 _ e
  have lX:Qb B c:=BB c (ah3 P0);have kp:Qs c:=lX.qs oz;have eL:c/1=c:=by grind
  have P1:=aa3 kp GE;rw[eL]at P1;have jp:=Xs kp;have P3:Qb 1 (((1:Int):Rat)):=Qb.one;have hs9:R.length-3+1<=12:=by omega
  have adu:=tv (q:=[c]) uN (fun x hx=>by rw[afr.1 hx];exact lX) P3 (R.length-3) oz oz (by simp only[aij,aiv];omega);have adv:=tv BB PZ lX.neg (R.length-3) oz oz (by show 3+_<=60;omega)
  have hRn:(kE R pW (-c) (R.length-3)).length<R.length:=by
   unfold kE padd;refine I1 (by rw[ni];unfold ke;rw[ai0,aiu];show max _ (_+3)=_;omega) oz ?_;rw[Cn,<- hc];unfold ke;rw[ah4,ain (by rw[aiu];omega),aiu,show R.length-1-(R.length-3)=2 by omega];show c+-c*1=0;grind
  have F3:4*B<=4^(p.length-(kE R pW (-c) (R.length-3)).length)*(e+4):=by
   rw[hB,<- aer,<- Nat.pow_succ'];exact aik _ (ae6 oz oz)
  have hsW:Pb 1 (ke (R.length-3) pW):=fun x hx=>by
   unfold ke at hx;rcases aia.1 hx with h9 |h9
   ·rw[afz h9];exact Qb.zero
   ·exact PZ x h9
  have hsC:Pb B (ke (R.length-3) [c]):=fun x hx=>by
   unfold ke at hx;rcases aia.1 hx with h9 |h9
   ·rw[afz h9];exact Qb.zero.mono oz
   ·rw[afr.1 h9];exact lX
  refine gl ?_;refine ga (gx oz (by unfold az;omega)) ?_;refine gi (ay P0) ?_;refine gl ?_;refine ga (show _=(2:Int)from rfl) ?_;refine gi (rfl) ?_;refine gc P1 ?_;refine gD ?_;refine gl ?_;refine gl ?_;refine ga (show _=((R.length-3:Nat):Int)from Il (by show 3<=R.length;omega) (by unfold az;omega)) ?_;refine gc (r9 1 oz) ?_;refine gc adu ?_;refine gD ?_;refine gc jp ?_;refine gc adv ?_;exact fC J1 (kE Q [c] 1 (R.length-3)) (kE R pW (-c) (R.length-3)) ⟨dC _,dC _,by omega,by refine aiw (Fk _ _ _) ?_;unfold ke;rw[ai0,aiu];simp only[aij,aiv];omega,fun t=>by rw[AJ,AJ,wO,da t];show _=(_+1*t^(R.length-3)*(c+t*0))*_+_;grind,(BB.add lX.neg hsW).mono oz,(uN.add P3 hsC).mono oz⟩
 have rV:R.length<=2:=by have h9:=ajj (p:=(R.length:Int)>=3) z;omega
 obtain⟨r1,r2⟩:=EX (p:=p) hQ hR rV da;refine bq ?_;rw[r1,r2]
theorem Tz{e:Nat}{p:List Rat}(hp:Po e p)(lp:p.length<=12)(h:1048576*(e+4)<=900000000000):FP 194 [nA p,nA pW] (.tup [nA (dvQ p),nA (fM p),i64 0]):=by
 have hW:Po 1 pW:=⟨rfl,by decide,fun c hc=>by simp only[pW,aiq,aim,or_false]at hc;rcases hc with rfl |rfl |rfl;exact Qb.one;exact Qb.zero;exact Qb.one⟩
 refine ak func194 ?_;refine gc (Ao (nF hp oz) (nF hW oz)) ?_;refine gf ?_;refine gl ?_;refine gf ?_;refine gc (TB hp.b lp h) ?_;refine mv ?_
 first |rfl |(simp;done)
theorem W7{e k:Nat}{p:List Rat}{x:Rat}(hp:Po e p)(hx:Qb k x)(h:31*(e+k+4)<=1000000000000):FP 108 [nA p,qA x] (qA (au p x)):=by
 have l1:=hp.len;have xV:=hx.qs (show k<=4398046511104 by omega);have ci:∀n,n<=p.length->Qb ((p.length-n)*(e+k+4)+1) (au (p.drop n) x):=zY hp.b hx;refine ak func108 ?_;refine gl ?_;refine ga (dg oz) ?_;refine aK [0,3,4,5] [3,4] (fun(n:Nat)=>[pP 6 (i64 ((n:Int)-1))]) (fun n=>[pP 5 (.box (qA (au (p.drop n) x)).cells)]) (fun n=>n<=p.length) (fun n=>n) p.length (aie _) ?_ (h2:=(.cons rfl (BlkSub.bL (by rw[drop_length];exact .cons (.refl _) (.cons (.nil _ _ _) (.cons (.nil _ _ _) .nil))) rfl) .nil));rintro n hn K1 J1;refine gC (fun y=>?_) (fun y=>?_)
 ·have gT : 0 < n := by have h9 := aji (p := (n : Int) - 1 >= 0) y; omega
  obtain⟨m,rfl⟩:∃m,n=m+1:=⟨n-1,by omega⟩
  obtain⟨c,hc⟩:=aB (l:=p) (i:=m) oz;have kp:=hp.qs oz (ah3 hc);have bh:=ci (m+1) hn;have adq:(p.length-(m+1))*(e+k+4)<=30*(e+k+4):=aik _ oz;refine gc (nQ (bh.qs oz) xV) ?_;refine gi (eT (n:=m) oz hc) ?_;refine gc (CZ ((bh.mul hx).qs oz) kp) ?_;refine gD ?_ (4,0);refine gW (Wk.of (sl:=[pP 0 (nA p),pP 3 (.ptr 3 0),pP 4 (.ptr 4 0),pP 5 (.ptr 5 0),pP 6 (i64 (((m+1:Nat):Int)-1))]) (hp:=[pP 3 (.box (qA x).cells),pP 4 (.box [.v (.bool false),nS,nS]),pP 5 (.box (qA (au (p.drop m) x)).cells)]) aU (.k (.k (.cons rfl (.of (by rw[KS x hc,Rat.add_comm,Rat.mul_comm];rfl)) .nil)))) ?_;refine ga (dg oz) ?_;exact aE J1 m oz (hw:=Wk.of (.cons rfl (.of (by congr 3;omega)) (.k (.k (.k (.k .nil))))) (.k (.k (.k .nil))))
 have gT:n=0:=by have h9:=ajj (p:=(n:Int)-1>=0) y;omega
 subst gT;refine ah ?_;rfl
def kM(xs:List Int):List Rat:=xs.map fun z:Int=>(z:Rat)
def pH:List Rat:=[1,0,-1]
def pV:List Rat:=[0,2]
theorem yE:Plm 3 2 pH:=⟨rfl,by decide,fun c hc=>by simp only[pH,aiq,aim,or_false]at hc;rcases hc with rfl |rfl |rfl;exact Qb.one.mono oz;exact Qb.zero.mono oz;exact⟨by decide,by decide⟩⟩
theorem yc:Plm 2 2 pV:=⟨rfl,by decide,fun c hc=>by simp only[pV,aiq,aim,or_false]at hc;rcases hc with rfl |rfl;exact Qb.zero.mono oz;exact⟨by decide,by decide⟩⟩
theorem Oh(t:Rat):au pH t=1-t*t:=by show(1:Rat)+t*(0+t*(-1+t*0))=_;grind
theorem LD(t:Rat):au pV t=2*t:=by show(0:Rat)+t*(2+t*0)=_;grind
theorem Fi(xs:List Int)(hx:∀z∈xs,z.natAbs<1000)(hl:xs.length<=100):FP 192 [.lst 1 (xs.map i64)] (nA (ptr (kM xs))):=by
 have hq:∀c∈kM xs,Qs c:=fun c hc=>by
  unfold kM at hc;obtain⟨z,hz,rfl⟩:=af0.1 hc;have:=hx z hz;exact BE oz
 refine ak func192 ?_;refine gl ?_;refine gW (Wk.virt 900 3 rfl) ?_;refine aK [6,7] [] (fun(i:Nat)=>[pP 3 (.ms 900 3 0 i),pP 8 (i64 i)]) (fun i=>[pP 900 (.row 3 (((kM xs).take i).map qA))]) (fun i=>i<=xs.length) (fun i=>xs.length-i) 0 (aii _) ?_ (h1:=(.cons rfl (Sub.nM _ _ _) (.k .nil)));rintro i hi K1 J1;refine gC (fun y=>?_) (fun y=>?_) (st2:=(7,0))
 ·have ae:=aI y;obtain ⟨z,hz⟩:=aB ae;have hz9:=hx z (ah3 hz);have hzq:(kM xs)[i]? = some (z:Rat):=by unfold kM; rw [aib,hz]; rfl
  refine gi (ay hz) ?_;refine gc (r9 z oz) ?_;refine gs (dX (.tmp rfl) rfl (by rw[ah6,air];unfold kM;rw[ah6];omega) (.tmp rfl) T40 rfl T44 rfl rfl (by simp only[aij,aiv];omega) rfl rfl) ?_ (6,0);refine gW (Wk.of (sl:=[pP 6 (.lst 1 (xs.map i64)),pP 7 (i64 xs.length),pP 8 (i64 i),pP 3 (.ms 16 3 0 (i+1))]) (hp:=[pP 16 (.row 3 (((kM xs).take (i+1)).map qA))]) aU (.cons rfl (.of (by rw[g9 hzq,ai4];rfl)) .nil)) ?_ (6,0);refine gW (Wk.rk (k:=16) (d:=900) rfl rfl) ?_;refine ga aG ?_;exact aE J1 (i+1) ae
 have ae:=aV hi y;subst ae;have jk:(kM xs).length=xs.length:=by unfold kM;rw[ah6]
 refine gW ((Wk.freeze (k:=900) rfl).trans<|Wk.of (sl:=[pP 3 (nA (kM xs))]) (hp:=[]) (.cons rfl (.of (by rw[b8 (by rw[ah6,air];omega),<- jk,ail];rfl)) .nil) .nil) ?_;refine gc (FR (kM xs) hq oz) ?_;refine ah ?_
 first |rfl |(simp;done)
theorem mQ:FP 95 [] (nA pW):=by
 have h:FP 192 [.lst 1 [i64 1,i64 0,i64 1]] (nA pW):=Fi [1,0,1] (by decide) (by decide);refine ak func95 ?_;refine gc h ?_;refine ah ?_
 first |rfl |(simp;done)
theorem ww{p q r:List Rat}(h:FP 195 [nA p,nA q] (.tup [nA r,i64 0])):FP 93 [nA p,nA q] (nA r):=by
 refine ak func93 ?_;refine gc h ?_;refine ah ?_
 first |rfl |(simp;done)
theorem qu{p q r:List Rat}(h:FP 198 [nA p,nA q] (.tup [nA r,i64 0])):FP 97 [nA p,nA q] (nA r):=by
 refine ak func97 ?_;refine gc h ?_;refine ah ?_
 first |rfl |(simp;done)
theorem oP{p q r:List Rat}(h:FP 199 [nA p,nA q] (.tup [nA r,i64 0])):FP 98 [nA p,nA q] (nA r):=by
 refine ak func98 ?_;refine gc h ?_;refine ah ?_
 first |rfl |(simp;done)
theorem ka{p r:List Rat}{c:Rat}(h:FP 196 [nA p,qA c] (.tup [nA r,i64 0])):FP 94 [nA p,qA c] (nA r):=by
 refine ak func94 ?_;refine gc h ?_;refine ah ?_
 first |rfl |(simp;done)
theorem EA{e:Nat}{p:List Rat}(hp:Po e p)(lp:p.length<=12)(he:e<=800000):FP 91 [nA p] (nA (dvQ p)):=by
 refine ak func91 ?_;refine gc mQ ?_;refine gc (Tz hp lp oz) ?_;refine ah ?_
 first |rfl |(simp;done)
theorem A6{f h:Nat}{a b:List Rat×List Rat}(ha:Vn f a)(hb:Vn h b)(hf:f<=10000000)(hh:h<=10000000):FP 90 [ii a,ii b] (ii (nG a b)):=by
 refine ak func90 ?_;refine gc (qu (qQ (ha.x.po oz) (hb.x.po oz) oz)) ?_;refine gc (qu (qQ (ha.y.po oz) (hb.y.po oz) oz)) ?_;refine gD ?_;refine ah ?_
 first |rfl |(simp;done)
theorem Ij{f h:Nat}{a b:List Rat×List Rat}(ha:Vn f a)(hb:Vn h b)(hf:f<=1000000)(hh:h<=1000000):FP 92 [ii a,ii b] (nA (o8 a b)):=by
 have m1:=ha.x.mul hb.x;have m2:=ha.y.mul hb.y;refine ak func92 ?_;refine gc (oP (oG (ha.x.po oz) (hb.x.po oz) oz)) ?_;refine gc (oP (oG (ha.y.po oz) (hb.y.po oz) oz)) ?_;refine gc (ww (wU (m1.po oz) (m2.po oz) oz)) ?_;refine gD ?_;refine ah ?_
 first |rfl |(simp;done)
theorem Uh{f h:Nat}{a b:List Rat×List Rat}(ha:Vn f a)(hb:Vn h b)(hf:f<=1000000)(hh:h<=1000000):FP 101 [ii a,ii b] (nA (ql a b)):=by
 have m1:=ha.x.mul hb.y;have m2:=ha.y.mul hb.x;refine ak func101 ?_;refine gc (oP (oG (ha.x.po oz) (hb.y.po oz) oz)) ?_;refine gc (oP (oG (ha.y.po oz) (hb.x.po oz) oz)) ?_;refine gc (qu (qQ (m1.po oz) (m2.po oz) oz)) ?_;refine gD ?_;refine ah ?_
 first |rfl |(simp;done)
theorem yv(j:Jt)(b:Int):FP 87 [j.av,i64 b] (.tup [i64 (dh j b),i64 (fE j b),i64 (b9 j b)]):=by
 refine ak func87 ?_;refine gC (fun z=>?_) (fun z=>?_)
 ·have h1:j.a=b:=dZ z;refine gD ?_;refine mv ?_;unfold dh fE b9;rw[ajg h1,ajg h1,ajg h1]
 have h1:j.a≠b:=dw z;refine gD ?_;refine mv ?_;unfold dh fE b9;rw[ajf h1,ajf h1,ajf h1]
theorem pU(l:Li)(hl:l.ok)(af:ax l=0){body pt:Int}(h1:aX body l.bo.length=true)(h2:aX pt (bV l body).length=true) :
  FP 102 [l.av,i64 body,i64 pt] (.tup [qA (aL l body pt).1,qA (aL l body pt).2]):=by
 obtain⟨n,k,bd,m,mp⟩:=xi hl af h1 h2;have e1:qA (aL l body pt).1=m.x.av:=by rw[mp.ex];rfl
 have e2:qA (aL l body pt).2=m.y.av:=by rw[mp.ey];rfl
 rw[e1,e2];have hn:=mp.hn;have hk:=mp.hk;have fJ:=hl.lb;subst hn;subst hk;refine ak func102 ?_;refine gi (ay mp.gbd) ?_;refine gi (ay mp.gm) ?_;refine gD ?_;refine bq ?_
 first |rfl |(simp;done)
theorem MU(t:Rat):au [] t=0:=rfl
theorem X8{f:Rat}{d:Rat×Rat}:padd (padd [] pW f) (padd (padd [] pH d.1) (padd [] pV d.2) (-1)) 1=padd (padd [] pW f) (ptr (pC d)) 1 :=
 nV (dC _) (dC _) (fun t=>by
  simp only[j9,JZ,Oh,LD,wO,MU];grind)
theorem Zf{f:Rat}{d:Rat×Rat}:padd (padd [] pW f) (padd (padd [] pV d.1) (padd [] pH d.2) 1) 1=padd (padd [] pW f) (ptr (oN d)) 1 :=
 nV (dC _) (dC _) (fun t=>by
  simp only[j9,Jm,Oh,LD,wO,MU];grind)
theorem QI{p q:Rat×Rat}(hp:Sm 1000 p)(hq:Sm 1000 q):Qs ((cc p q).1)/\Qs ((cc p q).2)/\Qs ((cc p q).1*(cc p q).1)/\Qs ((cc p q).2*(cc p q).2):=by
 have h:=hp.sub hq;exact⟨h.x.qs oz,h.y.qs oz,(h.x.mul h.x).qs oz,(h.y.mul h.y).qs oz⟩
theorem uR(l:Li)(hl:l.ok)(af:ax l=0){body p q:Int}(h1:aX body l.bo.length=true)(h2:aX p (bV l body).length=true)(h3:aX q (bV l body).length=true) :
  FP 89 [l.av,i64 body,i64 p,i64 q] (qA (f7 (cc (aL l body p) (aL l body q)))):=by
 have s1:=cu hl af h1 h2;have s2:=cu hl af h1 h3;obtain⟨k1,k2,k3,k4⟩:=QI s1 s2;refine ak func89 ?_;refine gc (pU l hl af h1 h2) ?_;refine gc (pU l hl af h1 h3) ?_;refine gc (me (s1.x.qs oz) (s2.x.qs oz)) ?_;refine gc (me (s1.y.qs oz) (s2.y.qs oz)) ?_;refine gD ?_;refine gc (nQ k1 k1) ?_;refine gc (nQ k2 k2) ?_;refine gc (CZ k3 k4) ?_;refine gD ?_;refine ah ?_
 first |rfl |(simp;done)
theorem wh{x:Rat}(hx:Qs x):FP 100 [qA x] (bl (decide (x=0))):=by
 refine ak func100 ?_;refine gc (yY hx) ?_;refine ah ?_;rw[Dy];rfl
theorem v8(l:Li)(hl:l.ok)(af:ax l=0){G:List Gr}{j:Jt}{dv b pt:Int}(hp:Pj l G j dv)(hF:Fd l dv b pt) :
  FP 88 [l.av,j.av,i64 b,i64 pt] (ii (fa l j b pt)):=by
 obtain⟨d1,d2,d3,d4⟩:=hp.in af;have s5:=cu hl af hF.hb hF.hp;have hW:=pL;refine ak func88 ?_;refine gc (pU l hl af hF.hb hF.hp) ?_;refine gC (fun z=>?_) (fun z=>?_)
 ·have hb:b = 0:=dZ z;have e9:fa l j b pt = jU (aL l b pt):=by unfold fa; rw [ajg hb,hb]
  rw[e9];refine gc mQ ?_;refine gc (ka (j7 (hW.po oz) s5.x oz)) ?_;refine gc mQ ?_;refine gc (ka (j7 (hW.po oz) s5.y oz)) ?_;refine gD ?_;refine ah ?_
  first |rfl |(simp;done)
 have hb:b≠0:=dw z;obtain rfl:b=dv:=by rcases hF.hd with h9 |h9;exact ajm h9 hb;exact h9
 obtain⟨s6,s7⟩:=hp.sm hl af;rw[<- Qj]at s6;have s8:=s5.sub s6;obtain⟨d,hd⟩:∃d,d=cc (aL l b pt) (aL l b (dh j b)):=⟨_,rfl⟩
 have ev:fa l j b pt=(padd (padd [] pW (aL l 0 (b9 j b)).1) (padd (padd [] pH d.1) (padd [] pV d.2) (-1)) 1,padd (padd [] pW (aL l 0 (b9 j b)).2) (padd (padd [] pV d.1) (padd [] pH d.2) 1) 1):=by
  rw[X8,Zf,hd];unfold fa;rw[ajf hb];rfl
 rw[ev];have ho:=hp.o;rw[<- hd]at s8;have h1:Qb 1 (((1:Int):Rat)):=Qb.one;have h2:Qb 1 (((-1:Int):Rat)):=⟨by decide,by decide⟩
 have f1:=(eQ 3).add hW s7.x;have f2:=(eQ 3).add hW s7.y;have c1:=(eQ 3).add yE s8.x;have c2:=(eQ 3).add yE s8.y;have n1:=(eQ 2).add yc s8.y;have n2:=(eQ 2).add yc s8.x;have a1:=c1.add n1 h2;have a2:=n2.add c2 h1;have hC:FP 192 [.lst 1 [i64 1,i64 0,i64 (-1)]] (nA pH):=Fi [1,0,-1] (by decide) (by decide);have hS:FP 192 [.lst 1 [i64 0,i64 2]] (nA pV):=Fi [0,2] (by decide) (by decide);have hx:=me (s5.x.qs oz) (s6.x.qs oz);have hy:=me (s5.y.qs oz) (s6.y.qs oz);have ex:(aL l b pt).1-(aL l b (dh j b)).1=d.1:=by rw[hd];rfl
 have ey:(aL l b pt).2-(aL l b (dh j b)).2=d.2:=by rw[hd];rfl
 rw[ex]at hx;rw[ey]at hy;have hpf:FP 102 [l.av,i64 (fE j b),i64 (b9 j b)] (.tup [qA (aL l 0 (b9 j b)).1,qA (aL l 0 (b9 j b)).2]):=by rw[ho];exact pU l hl af d3 d4
 refine gc (yv j b) ?_;refine gc (pU l hl af d1 d2) ?_;refine gc hpf ?_;refine gc hx ?_;refine gc hy ?_;refine gD ?_;refine gc hC ?_;refine gc hS ?_;refine gc mQ ?_;refine gc (ka (j7 (hW.po oz) s7.x oz)) ?_;refine gc (ka (j7 (yE.po oz) s8.x oz)) ?_;refine gc (ka (j7 (yc.po oz) s8.y oz)) ?_;refine gc (qu (qQ (c1.po oz) (n1.po oz) oz)) ?_;refine gc (ww (wU (f1.po oz) (a1.po oz) oz)) ?_;refine gc mQ ?_;refine gc (ka (j7 (hW.po oz) s7.y oz)) ?_;refine gc (ka (j7 (yc.po oz) s8.x oz)) ?_;refine gc (ka (j7 (yE.po oz) s8.y oz)) ?_;refine gc (ww (wU (n2.po oz) (c2.po oz) oz)) ?_;refine gc (ww (wU (f2.po oz) (a2.po oz) oz)) ?_;refine gD ?_;refine ah ?_
 first |rfl |(simp;done)
def rG(xs:List Rat):Bool:=xs.all fun y=>!decide (y=0)
theorem Cp(p:Rat×Rat):0<=f7 p:=by
 have h:∀x:Rat,0<=x*x:=fun x=>by
  rcases Rat.le_total (a:=0) (b:=x)with h |h
  ·exact ag1 h h
  ·have := ag1 (show 0 <= -x by grind) (show 0 <= -x by grind);grind
 have h1:=h p.1;have h2:=h p.2;unfold f7;grind
theorem Ol(p q:Rat×Rat):f7 (cc p q)=f7 (cc q p):=by unfold f7 cc;dsimp only;grind
theorem UP{xs:List Rat}(h:∀y∈xs,0<=y):decide (cQ 0 xs=0)=rG xs:=by
 have e:xs.all (fun x=>decide (0<x))=rG xs:=by
  unfold rG;rw[ahf,aif,aif];constructor
  ·intro h1 y hy;have:=aji (h1 y hy);simp only[ahh,decide_eq_false_iff_not];grind
  ·intro h1 y hy;have h2:=h1 y hy;simp only[ahh,decide_eq_false_iff_not]at h2;have:=h y hy;exact ajk (by grind)
 unfold cQ;rw[ajf (by decide),e];cases rG xs <;> rfl
theorem Uu(l:Li)(x:Gr):∀y∈gM l x,0<=y:=by
 intro y hy;unfold gM at hy;split at hy
 ·simp only[aiq,aim,or_false]at hy;rcases hy with rfl |rfl <;> exact Cp _
 ·split at hy
  ·simp only[aiq,aim,or_false]at hy;rcases hy with rfl |rfl <;> exact Cp _
  ·rw[afr.1 hy];exact Cp _
theorem Yn{l:Li}{j:Jt}{x:Gr}:cond (rG (gM l x)) (aa .gtr ((ep l j x).length:Int) 0) false=decide (gN l j x=0):=by
 rw[<- UP (Uu l x)];unfold gN
 by_cases h1:cQ 0 (gM l x)=0
 ·rw[ajk h1]
  by_cases h2:ep l j x=[]
  ·rw[ajf (fun h=>h.2 h2),h2];rfl
  ·rw[ajg ⟨h1,h2⟩];have:=afq.2 h2;exact ajk oz
 ·rw[ajl h1,ajf (fun h=>h1 h.1)];rfl
theorem If(a b:Rat):cond (!decide (a=0)) (!decide (b=0)) false=rG [a,b]:=by
 show _=(!decide (a=0)&&(!decide (b=0)&&true));cases decide (a=0) <;> cases decide (b=0) <;> rfl
theorem XX{l:Li}{x:Gr}(h:DyK l x)(nd:x.kind≠0):∃z1 j1,x.jo[1]?=some z1/\0<=z1/\l.jo[z1.toNat]?=some j1:=by
 cases h with
 |drv t d0 hd hb=>exact ajm rfl nd
 |rrr ne t0 t1 h0 h2 kd tie=>exact⟨_,_,rfl,t1.hz,t1.hj⟩
 |pr t0 t1 ha=>exact⟨_,_,rfl,t1.hz,t1.hj⟩
 |rp t0 t1 ha=>exact⟨_,_,rfl,t1.hz,t1.hj⟩
theorem R0{l:Li}{x:Gr}(h:DyK l x)(nd:x.kind≠0)(n1:x.kind≠1)(n2:x.kind≠2):x.kind=3:=by
 cases h with
 |drv t d0 hd hb=>exact ajm rfl nd
 |rrr ne t0 t1 h0 h2 kd tie=>exact ajm rfl n1
 |pr t0 t1 ha=>exact ajm rfl n2
 |rp t0 t1 ha=>rfl
theorem WQ(l:Li)(hl:l.ok)(af:ax l=0){G:List Gr}{j:Jt}{dv:Int}(hp:Pj l G j dv){x:Gr}(hx:Lg l dv x) :
  FP 35 [l.av,j.av,x.av] (.tup [nA (ep l j x),i64 (f8 x),bl (decide (gN l j x=0))]):=by
 have hd:=hx.dy;obtain⟨i,z0,j0,hi,aZ,t0⟩:=Fh hx.dy hx.nd;obtain⟨z1,j1,co,ad3,uG⟩:=XX hx.dy hx.nd;have oA:=hl.lj;have ads:=t0.hz;have F0:=ui hx af rfl t0 (ah3 aZ);have n0:=F0.n hp hl af;obtain⟨o1,o2⟩:=nD af t0.hj (qK t0);have m0:=cu hl af o1 o2;have hW:=pL;refine ak func35 ?_;refine gi (ay hi) ?_;refine gi (ay aZ) ?_;refine gi (eT (n:=z0.toNat) oz t0.hj) ?_;refine gD ?_;refine gc (yv j0 i) ?_;refine gc (v8 l hl af hp F0) ?_;refine gi (ay co) ?_;refine gi (eT (n:=z1.toNat) oz uG) ?_;refine gD ?_ (9,0);refine wb [] [] [pP 16 (nA (ep l j x)),pP 17 (i64 (f8 x)),pP 18 (bl (rG (gM l x)))] [] (True) ?_ ?_ 2
 ·intro K1 J1;refine gC (fun z=>?_) (fun z=>?_)
  ·have hk:x.kind = 1:=dZ z;obtain ⟨k,z1',z2,j1',j2,P⟩:=EL hx.dy hk hi aZ t0.hj;obtain rfl:z1' = z1:=Option.some.inj (P.y1.symm.trans co);obtain rfl:j1' = j1:=Option.some.inj (P.t1.hj.symm.trans uG);have km:=P.h0;have F1:=ui hx af rfl P.t1 (ah3 P.y1);have n1:=F1.n hp hl af;obtain ⟨o3,o4⟩:=nD af P.t1.hj (qK P.t1);have m1:=cu hl af o3 o4;obtain ⟨o5,o6⟩:=nD af P.h2 (b:=i) (by rcases P.ti with h9 | h9; exact .inl h9.1; exact .inr h9.1);have m2:=cu hl af o5 o6
   have o7:aX (b9 j2 i) (bV l k).length=true:=by
    obtain⟨i1,i2,i3,i4,_⟩:=ee af P.h2;have aF:=P.ne;unfold b9;rcases P.ti with⟨h8,h9⟩ |⟨h8,h9⟩
    ·rw[ajg h8,<- h9];exact i4
    ·rw[ajf (fun h=>aF (h.symm.trans h9)),<- h9];exact i3
   have m3:=cu hl af o3 o7;have qr:=jd (m2.sub m0);have qs:=jd (m3.sub m1);have nd:=kr n1 n0;have nw:=(lO nd nd).1;have ng:=nw.dvQ;have b1:=(eQ 3).add hW (qr.sub qs);have h1:Qb 1 (((1:Int):Rat)):=Qb.one;have nr:=(b1.add ng h1).mono (m:=5) (f:=600000) oz oz;have nm:=(ng.mul hW).mono (m:=7) (f:=3000000) oz oz;have nf:=((eQ 7).add nm (qG.mul qr)).mono (m:=7) (f:=3100000) oz oz;have nq:=(nr.mul nr).mono (m:=9) (f:=6100000) oz oz;refine gi (ay P.b1) ?_;refine gc (yv j1' k) ?_;refine gc (v8 l hl af hp F1) ?_;refine gi (ay P.y2) ?_;refine gi (eT (n:=z2.toNat) oz P.h2) ?_;refine gc (yv j2 i) ?_;refine gD ?_;refine gc (uR l hl af o5 o6 o2) ?_;refine gc (uR l hl af o3 o7 o4) ?_;refine gD ?_;refine gc (A6 n1 n0 oz oz) ?_;refine gc (Ij nd nd oz oz) ?_;refine gc (EA (nw.po oz) (by have:=nw.len;omega) oz) ?_;refine gc mQ ?_;refine gc (me (qr.qs oz) (qs.qs oz)) ?_;refine gc (ka (j7 (hW.po oz) (qr.sub qs) oz)) ?_;refine gc (ww (wU (b1.po oz) (ng.po oz) oz)) ?_;refine gD ?_;refine gc mQ ?_;refine gc (oP (oG (ng.po oz) (hW.po oz) oz)) ?_;refine gc (r9 4 oz) ?_;refine gc (nQ (qG.qs oz) (qr.qs oz)) ?_;refine gc (ka (j7 (nm.po oz) (qG.mul qr) oz)) ?_;refine gc (oP (oG (nr.po oz) (nr.po oz) oz)) ?_;refine gc (qu (qQ (nf.po oz) (nq.po oz) oz)) ?_;refine gD ?_;refine gc (wh (qr.qs oz)) ?_;refine bP (fun _=>(wh (qs.qs oz))) ?_;exact lR J1 trivial (hw:=Wk.of (.cons rfl (.of (by rw[P.eE];rfl)) (.cons rfl (.of (by rw[P.eN];rfl)) (.cons rfl (.of (by rw[P.eX,<- If];rfl)) .nil))) .nil)
  have iz:x.kind≠1:=dw z;refine gC (fun z=>?_) (fun z=>?_)
  ·have hk:x.kind = 2:=dZ z;obtain ⟨z1',j1',P,ha,eE,eX,eN⟩:=Dn hx.dy hk hi aZ t0.hj;obtain rfl:z1' = z1:=Option.some.inj (P.y1.symm.trans co);obtain rfl:j1' = j1:=Option.some.inj (P.t1.hj.symm.trans uG);obtain ⟨i1,i2,i3,i4,i5⟩:=ee af P.t1.hj;have i5:=i5 (by rw [P.t1.kd]; decide);have xZ:=(hx.an z1' (ah3 P.y1) j1' P.t1.hj).2;have F1:Fd l dv j1'.b j1'.on:=⟨i2,i4,xZ (by rcases P.t1.tie with h9 | h9; exact h9.2; exact ajm (ha ▸ ah3 hi) h9.2)⟩
   have F2:Fd l dv j1'.b j1'.to:=⟨i2,i5,F1.hd⟩
   have n1:=F1.n hp hl af;have n2:=F2.n hp hl af;have m1:=cu hl af i2 i4;have m2:=cu hl af i2 i5;rw[ha]at i1 i3;have m3:=cu hl af i1 i3;have BC:=uR l hl af i2 i4 i5;rw[Ol]at BC;have qm:=jd (m2.sub m1);have qr:=jd (m3.sub m0);have na:=kr n2 n1;have nb:=kr n0 n1;have nw:=(lO na nb).2;have ng:=nw.dvQ;have nx:=hW.mul hW;have nf:=(eQ 5).add nx (qm.mul qr);have nq:=(ng.mul ng).mono (m:=9) (f:=6100000) oz oz;refine gc (v8 l hl af hp F1) ?_;refine gc (v8 l hl af hp F2) ?_;refine gD ?_;refine gc (uR l hl af i1 i3 o2) ?_;refine gc BC ?_;refine gD ?_;refine gc (A6 n2 n1 oz oz) ?_;refine gc (A6 n0 n1 oz oz) ?_;refine gc (Uh na nb oz oz) ?_;refine gc (EA (nw.po oz) (by have:=nw.len;omega) oz) ?_;refine gD ?_;refine gc mQ ?_;refine gc mQ ?_;refine gc (oP (oG (hW.po oz) (hW.po oz) oz)) ?_;refine gc (nQ (qm.qs oz) (qr.qs oz)) ?_;refine gc (ka (j7 (nx.po oz) (qm.mul qr) oz)) ?_;refine gc (oP (oG (ng.po oz) (ng.po oz) oz)) ?_;refine gc (qu (qQ (nf.po oz) (nq.po oz) oz)) ?_;refine gD ?_;refine gc (wh (qr.qs oz)) ?_;refine bP (fun _=>(wh (qm.qs oz))) ?_;exact lR J1 trivial (hw:=Wk.of (.cons rfl (.of (by rw[eE];rfl)) (.cons rfl (.of (by rw[eN];rfl)) (.cons rfl (.of (by rw[eX,<- If];rfl)) .nil))) .nil)
  have cD:x.kind≠2:=dw z;have mZ:=R0 hx.dy hx.nd iz cD;refine gC (fun z=>?_) (fun z=>?_) (st2:=(77777,0))
  ·obtain ⟨z1', j1', P, ha, eE, eX, eN⟩:=Dw hx.dy hx.nd iz cD hi aZ t0.hj;obtain rfl:z1' = z1:=Option.some.inj (P.y1.symm.trans co);obtain rfl:j1' = j1:=Option.some.inj (P.t1.hj.symm.trans uG);obtain ⟨i1,i2,i3,i4,i5⟩:=ee af P.t1.hj;have i5:=i5 (by rw [P.t1.kd]; decide);have x3:=(hx.an z1' (ah3 P.y1) j1' P.t1.hj).1;have hb:j1'.b = i:=by rcases P.t1.tie with h9 | h9; exact ajm h9.1 ha; exact h9.1
   have F1:Fd l dv j1'.a j1'.point:=⟨i1,i3,x3 (by rcases P.t1.tie with h9 |h9;exact ajm h9.1 ha;exact h9.2)⟩
   have n1:=F1.n hp hl af;rw[hb]at i2 i4 i5;have m1:=cu hl af i2 i4;have m2:=cu hl af i2 i5;have vv:Sm 2001 (lw l i j1'):=m2.sub m1;have vu:Sm 2001 (zx l i j0 j1'):=m1.sub m0
   have BC:FP 89 [l.av,i64 i,i64 j1'.on,i64 j1'.to] (qA (f7 (lw l i j1'))):=by
    have h9:=uR l hl af i2 i4 i5;rw[Ol]at h9;exact h9
   have qv:=jd vv;have qh:=vv.cross vu;have nd:=kr n1 n0;have nw:=(lO nd nd).1;have ng:=nw.dvQ;have na:=(eQ 5).add ng qv;have nb:=(eQ 3).add hW (qh.mul qh);refine gc (v8 l hl af hp F1) ?_;refine gc (A6 n1 n0 oz oz) ?_;refine gc (Ij nd nd oz oz) ?_;refine gc (EA (nw.po oz) (by have:=nw.len;omega) oz) ?_;refine gc BC ?_;refine gc (pU l hl af i2 i4) ?_;refine gc (pU l hl af i2 i5) ?_;refine gc (pU l hl af o1 o2) ?_;refine gc (me (m2.x.qs oz) (m1.x.qs oz)) ?_;refine gc (me (m2.y.qs oz) (m1.y.qs oz)) ?_;refine gD ?_;refine gc (me (m1.y.qs oz) (m0.y.qs oz)) ?_;refine gc (nQ (vv.x.qs oz) (vu.y.qs oz)) ?_;refine gc (me (m1.x.qs oz) (m0.x.qs oz)) ?_;refine gc (nQ (vv.y.qs oz) (vu.x.qs oz)) ?_;refine gc (me ((vv.x.mul vu.y).qs oz) ((vv.y.mul vu.x).qs oz)) ?_;refine gD ?_;refine gc (ka (j7 (ng.po oz) qv oz)) ?_;refine gc mQ ?_;refine gc (nQ (qh.qs oz) (qh.qs oz)) ?_;refine gc (ka (j7 (hW.po oz) (qh.mul qh) oz)) ?_;refine gc (qu (qQ (na.po oz) (nb.po oz) oz)) ?_;refine gD ?_;refine gc (wh (qv.qs oz)) ?_;exact lR J1 trivial (hw:=Wk.of (.cons rfl (.of (by rw[eE];rfl)) (.cons rfl (.of (by rw[eN];rfl)) (.cons rfl (.of (by rw[eX];show bl (!decide (_=0))=bl (!decide (_=0)&&true);rw[Bool.and_true])) .nil))) .nil)
  exact ajm mZ (dw z)
 rintro -;refine cq ?_;refine mv ?_;rw[Yn];rfl
def mg(dv:Int)(b:Int):Bool:=!(decide (0<b)&&!decide (b=dv))
def pN(l:Li)(dv:Int)(k:Nat)(g:Gr):Bool:=!(decide (k=0)&&!decide (g.kind=0))&&(ck l g).all (mg dv)
def iM(l:Li)(dv:Int)(G:List Gr)(n:Nat):Bool:=(List.range n).all fun k=>pN l dv k (G.getD k default)
theorem A4(l:Li)(dv:Int)(G:List Gr)(n:Nat):iM l dv G (n+1)=(iM l dv G n&&pN l dv n (G.getD n default)):=by
 unfold iM;rw[aft,all_append];simp
theorem Rn{l:Li}{dv:Int}{G:List Gr}{n m:Nat}(h:iM l dv G n=true)(hm:m<=n):iM l dv G m=true:=by
 unfold iM at h ⊢;rw[aif]at h ⊢;exact fun k hk=>h k (afy.2 (by have:=afy.1 hk;omega))
theorem Dv{l:Li}{dv:Int}{G:List Gr}{n m:Nat}(h:iM l dv G m=false)(hm:m<=n):iM l dv G n=false:=by
 cases h1:iM l dv G n
 ·rfl
 ·rw[Rn h1 hm]at h;cases h
theorem Ik{dv b:Int}:cond (aa .gtr b 0) (aa .neq b dv) false=!mg dv b:=by
 have e1:aa .gtr b 0=decide (0<b):=rfl;have e3:aa .neq b dv=!decide (b=dv):=by by_cases h9:b=dv <;> simp[aa,h9]
 unfold mg;rw[e1,e3];cases decide (0<b) <;> cases decide (b=dv) <;> rfl
theorem Hf{k:Nat}{z:Int}:cond (aa .eql (k:Int) 0) (aa .neq z 0) false=(decide (k=0)&&!decide (z=0)):=by
 have e2:aa .eql (k:Int) 0=decide (k=0):=by
  show decide ((k:Int)=0)=_;exact decide_eq_decide.2 oz
 have e3:aa .neq z 0=!decide (z=0):=by by_cases h9:z=0 <;> simp[aa,h9]
 rw[e2,e3];cases decide (k=0) <;> rfl
theorem UV{l:Li}(hs:bU l=0):(eY (bW l)).length=0/\aC l=ce l:=by
 have h9:(eY (bW l)).length+(eY (fo l)).length=0:=by
  unfold bU at hs;split at hs
  ·assumption
  ·cases hs
 exact⟨by omega,by unfold aC;rw[ajg hs]⟩
theorem YK{l:Li}(h:ax l=0){i:Nat}{d:Dr}(hd:l.drivers[i]?=some d):d.body≠0:=by
 have h1:=(ft h).2.2.1;unfold gK at h1;split at h1
 ·cases h1
 ·have h2:=w9 h1 i (afl.1 hd).1;unfold dH at h2;rw[aP hd]at h2;split at h2
  ·cases h2
  ·split at h2
   ·cases h2
   ·split at h2
    ·cases h2
    ·split at h2
     ·cases h2
     ·assumption
theorem Z1{l:Li}(af:ax l=0)(gq:bU l=0)(hd:l.drivers.length=1):0<(aC l).length:=by
 refine Nat.pos_of_ne_zero fun h0=>?_
 obtain⟨h1,h3⟩:=UV gq;have hf:ce l=[]:=by rw[<- h3];exact af7.1 h0
 have hr:bW l=cB l.bo.length 0:=by unfold bW;rw[hf];rfl
 have hg:=mK (l:=l.drivers) (i:=0) (d:=default) oz;have hb:=dM (qj af hg);have hnz:=YK af hg
 have hk:kn (bW l) (l.drivers.getD 0 default).body=true:=by
  unfold kn;cases h9:(bW l).getD (l.drivers.getD 0 default).body.toNat false
  ·exfalso
   have hm:(((l.drivers.getD 0 default).body.toNat:Nat):Int)∈eY (bW l):=by
    unfold eY;refine af0.2 ⟨_,agf.2 ⟨afy.2 ?_,by rw[h9];rfl⟩,rfl⟩;rw[hr,jh];omega
   rw[af7.1 h1]at hm;cases hm
  ·rfl
 rw[hr,uy hb.1 oz oz]at hk;exact hnz (aji hk)
theorem YQ{l:Li}(af:ax l=0)(gq:bU l=0)(hd:l.drivers.length=1):iM l (l.drivers.getD 0 default).body (aC l) (aC l).length=fc l (aC l):=by
 have aF:=Z1 af gq hd;have hg:=mK (l:=aC l) (i:=0) (d:=default) aF;obtain⟨g,eg⟩:∃g,g=(aC l).getD 0 default:=⟨_,rfl⟩
 rw[<- eg]at hg;obtain⟨oE,bc⟩:=lT af (ah3 hg)
 by_cases hk:g.kind=0
 ·obtain⟨b,z,d,j,x,rfl,t,d0,fL,hb⟩:=CJ oE hk;have qd:=(afl.1 fL).1
  have e0:(l.drivers.getD 0 default).body=b:=by
   rw[show d.toNat=0 by omega]at fL;rw[aP fL,hb]
  have e1:fH l (aC l)=b:=by unfold fH;rw[<- eg];rfl
  rw[e0];unfold fc;rw[ajk (show(aC l).length≠0/\((aC l).getD 0 default).kind=0 from⟨by omega,by rw[<- eg]⟩),ahg];unfold iM i7;rw[ahf,aif,aif]
  have key:∀k∈List.range (aC l).length,pN l b k ((aC l).getD k default)=q6 l (fH l (aC l)) k ((aC l).getD k default):=by
   intro k uO;rw[e1];unfold pN q6
   by_cases k0:k=0
   ·subst k0;rw [<- eg];show (!(true && !decide ((0:Int) = 0)) && _) = _;rw [ajk rfl];have ha:ck l ⟨0,[b],[z],d⟩ = [eH ⟨0,[b],[z],d⟩ j]:=by show [eH _ (l.jo.getD z.toNat default)] = _; rw [aP t.hj]
    have rO:eH ⟨0,[b],[z],d⟩ j≠b:=by
     unfold eH;rcases t.tie with⟨a1,a2⟩ |⟨a1,a2⟩
     ·rw[ajg (Ae (by rw[a1];simp)),ajf (by rw[pR a2];simp)];intro h9;exact a2 (by rw[h9];simp)
     ·rw[ajf (by rw[pR a2];simp)];intro h9;exact a2 (by rw[h9];simp)
    rw[ha];show(true&&(mg b _&&true))=(jc b 0 _&&true);unfold mg jc;rw[ajl rO,ajk rfl];simp
   ·rw[ajl k0];show(true&&_)=_;rw[ahg]
    have e9:mg b=jc b k:=by
     funext y;unfold mg jc;rw[ajl k0,Bool.false_or]
    rw[e9]
  constructor
  ·intro h k uO;rw[<- key k uO];exact h k uO
  ·intro h k uO;rw[key k uO];exact h k uO
 ·have h1:fc l (aC l)=false:=by
   unfold fc;rw[ajl (fun h=>hk (by rw[eg];exact h.2)),ahe]
  rw[h1];refine Dv (m:=1) ?_ aF;rw[A4,<- eg];unfold pN;rw[ajk (rfl:0=0),ajl hk];simp
def fO(l:Li):Nat:=if ax l≠0 then ax l else if bU l≠0 then bU l else if l.drivers.length≠1 then 7 else if fc l (aC l)=false then 15 else 0
def oH(l:Li):List Gr:=if fO l=0 then aC l else[]
def rc(l:Li):Int:=if fO l=0 then(l.drivers.getD 0 default).body else 0
theorem WT(l:Li)(hl:l.ok):FP 34 [l.av] (.tup [.lst 4 ((oH l).map Gr.av),i64 (rc l),i64 (fO l)]):=by
 refine ak func34 ?_;refine gc (NV l hl) ?_;refine gC (fun z=>?_) (fun z=>?_)
 ·have h1 : ax l ≠ 0 := by have := vO z; omega
  have he:fO l=ax l:=by unfold fO;rw[ajg h1]
  refine gR ?_;exact gE (by unfold oH rc;rw[ajf oz,ajf oz,he];exact Sub.tup (.cons (.nil _ _ _) (.cons (.refl _) (.cons (.refl _) .nil))))
 have af:ax l=0:=by have:=vf z;omega
 refine gc (Yo l hl af) ?_;refine gC (fun z=>?_) (fun z=>?_)
 ·have h1 : bU l ≠ 0 := by have := vO z; omega
  have he:fO l=bU l:=by unfold fO;rw[ajf oz,ajg h1]
  refine gR ?_;exact gE (by unfold oH rc;rw[ajf oz,ajf oz,he];exact Sub.tup (.cons (.nil _ _ _) (.cons (.refl _) (.cons (.refl _) .nil))))
 have gq:bU l=0:=by have:=vf z;omega
 have uL:=hl.ld;refine gl ?_;refine gC (fun z=>?_) (fun z=>?_)
 ·have h3 : l.drivers.length ≠ 1 := by have := vO z; omega
  have he:fO l=7:=by unfold fO;rw[ajf oz,ajf oz,ajg h3]
  refine gR ?_;exact gE (by unfold oH rc;rw[ajf oz,ajf oz,he];exact Sub.tup (.cons (.nil _ _ _) (.cons (.refl _) (.cons (.refl _) .nil))))
 have h3:l.drivers.length=1:=by have:=vf z;omega
 have hrs:=YQ af gq h3;have PM:=yx af
 have BD:iM l (l.drivers.getD 0 default).body (aC l) (aC l).length=false->fO l=15:=fun h=>by
  unfold fO;rw[ajf oz,ajf oz,ajf oz,ajg (by rw[<- hrs];exact h)]
 have GL:iM l (l.drivers.getD 0 default).body (aC l) (aC l).length=true->fO l=0:=fun h=>by
  unfold fO;rw[ajf oz,ajf oz,ajf oz,ajf (by rw[<- hrs,h];decide)]
 obtain⟨dv,m6⟩:∃dv,dv=(l.drivers.getD 0 default).body:=⟨_,rfl⟩
 rw[<- m6]at BD GL;obtain⟨G,hG⟩:∃G,G=aC l:=⟨_,rfl⟩
 have hGo:∀g∈G,GrOk l g:=fun g hg=>(lT af (hG▸hg)).2
 rw[<- hG]at BD GL PM ⊢;refine gi (ay (mK (l:=l.drivers) (i:=0) (d:=default) oz)) ?_ (10,0);refine gW (Wk.of (sl:=[pP 1 (.ptr 1 0),pP 6 (.lst 4 (G.map Gr.av)),pP 8 (i64 dv)]) (hp:=[pP 1 (.box l.av.cells)]) (.k (.k (.cons rfl (.of (by rw[m6])) .nil))) (.k .nil)) ?_;refine gl ?_;refine aK [1,6,8,37,38] [1] (fun(k:Nat)=>[pP 39 (i64 k)]) (fun _=>[]) (fun k=>k<=G.length/\iM l dv G k=true) (fun k=>G.length-k) 0 ⟨aii _,rfl⟩ ?_;rintro k ⟨hk,x4⟩ K1 J1;refine gC (fun z=>?_) (fun z=>?_)
 ·have ae:=aI z;have hg:=mK (l:=G) (i:=k) (d:=default) ae;obtain⟨g,eg⟩:∃g,g=G.getD k default:=⟨_,rfl⟩
  rw[<- eg]at hg;have js:=hGo g (ah3 hg);have hgj:=js.lj;refine gi (ay hg) ?_;refine gC (fun z=>?_) (fun z=>?_)
  ·have h5 : (decide (k = 0) && !decide (g.kind = 0)) = true := by rw [<- Hf]; exact z
   have h6:iM l dv G (k+1)=false:=by rw[A4,<- eg];unfold pN;rw[h5];simp
   have he:=BD (Dv h6 ae);refine gR ?_;exact gE (by unfold oH rc;rw[ajf oz,ajf oz,he];exact Sub.tup (.cons (.nil _ _ _) (.cons (.refl _) (.cons (.refl _) .nil))))
  have h5:(decide (k=0)&&!decide (g.kind=0))=false:=by rw[<- Hf];exact z
  refine gc (ab7 l hl g js) ?_;refine gl ?_;refine aK [1,6,8,37,38,39,57,58] [1] (fun(q:Nat)=>[pP 59 (i64 q)]) (fun _=>[]) (fun q=>q<=(ck l g).length/\((ck l g).take q).all (mg dv)=true) (fun q=>(ck l g).length-q) 0 ⟨aii _,rfl⟩ ?_;rintro q ⟨hq,ov⟩ K2 J2;refine gC (fun z=>?_) (fun z=>?_)
  ·have bD:=aI z;obtain⟨b,hb⟩:=aB bD;refine gi (ay hb) ?_;refine gC (fun z=>?_) (fun z=>?_)
   ·have h7 : mg dv b = false := by rw [Ik] at z; simpa using z
    have h6:iM l dv G (k+1)=false:=by rw[A4,<- eg];unfold pN;rw[GX hb h7,ahd,ahd]
    have he:=BD (Dv h6 ae);refine gR ?_;exact gE (by unfold oH rc;rw[ajf oz,ajf oz,he];exact Sub.tup (.cons (.nil _ _ _) (.cons (.refl _) (.cons (.refl _) .nil))))
   have h7:mg dv b=true:=by rw[Ik]at z;simpa using z
   refine ga (ya (by unfold az;have:=pS l g;omega)) ?_;exact aE J2 (q+1) ⟨bD,rx ov hb h7⟩
  have bD:=aV hq z;refine ga aG ?_;exact aE J1 (k+1) ⟨ae,by rw[A4,x4,<- eg,ahg];unfold pN;rw[h5,rv bD ov];rfl⟩
 have ae:=aV hk z;subst ae;have he:=GL x4;refine mv ?_;unfold oH rc;rw[ajg he,ajg he,he,<- hG,<- m6];rfl
theorem Sb{l:Li}(h:fO l≠0):di l=fO l:=by
 unfold fO at h ⊢;unfold di;split
 ·rfl
 ·split
  ·rfl
  ·split
   ·rfl
   ·split
    ·rfl
    ·rename_i h1 h2 h3 h4;rw[ajf h1,ajf h2,ajf h3,ajf h4]at h;exact ajm rfl h
structure SmP(l:Li):Prop where
  li:ax l=0
  sp:bU l=0
  dr:l.drivers.length=1
  si:fc l (aC l)=true
theorem abp{l:Li}(h:fO l=0):SmP l:=by
 unfold fO at h;split at h
 ·omega
 ·split at h
  ·omega
  ·split at h
   ·omega
   ·split at h
    ·omega
    ·rename_i h1 h2 h3 h4;exact⟨by omega,by omega,by omega,by simpa using h4⟩
theorem Jo(l:Li)(hl:l.ok):FP 9 [l.av] (.tup [.lst 1 ((d9 l).map nA),.lst 1 ((dx l).map i64),i64 (di l)]):=by
 refine ak func9 ?_;refine gc (WT l hl) ?_;refine gC (fun u=>?_) (fun u=>?_)
 ·have h1 : fO l ≠ 0 := by have := vO u; omega
  have he:=Sb h1;refine gR ?_;exact gE (by unfold d9 dx;rw[ajf oz,ajf oz,he];exact Sub.tup (.cons (.nil _ _ _) (.cons (.nil _ _ _) (.cons (.refl _) .nil))))
 have h1:fO l=0:=by have:=vf u;omega
 obtain⟨af,gq,h3,h4⟩:=abp h1;have eG:oH l=aC l:=ajg h1;rw[eG];obtain⟨G,hG⟩:∃G,G=aC l:=⟨_,rfl⟩
 have GI:G.length<=100:=by have:=yx af;rw[hG];omega
 rw[<- hG];have hS:=yI af h3 h4;have aF:0<G.length:=by rw[hG];exact hS.ne
 obtain⟨T,hT⟩:∃T,T=G.tail:=⟨_,rfl⟩
 have hTl:T.length<=100:=by rw[hT,agk];omega
 obtain⟨j,hj⟩:∃j,j=md l G:=⟨_,rfl⟩
 have iV:Pj l G j (fH l G):=by rw[hj,hG];exact hS.pj
 have GJ:∀(i:Nat)(x:Gr),T[i]?=some x->Lg l (fH l G) x:=fun i x hx=>by
  rw[hG];refine Fn af gq h3 h4 (k:=i) ?_;rw[<- hG];rw[hT,afn]at hx;exact hx
 obtain⟨g0,z,oo,hz,aZ,co,oB⟩:=iV.ex;have oA:=hl.lj;refine gi (ay oo) ?_;refine gi (ay hz) ?_;refine gi (eT (n:=z.toNat) oz oB) ?_;refine gD ?_ (7,2);refine gs ((eF (l:=1) (es:=G.map Gr.av) (.tmp rfl) (.some _ (.const _) oz) (.none _) T53 rfl T104 rfl (by rw[ah6];omega) (aie _) rfl)) ?_;refine ge rfl ?_;refine gW (Wk.of (sl:=[pP 1 (.ptr 1 0),pP 8 (.ptr 8 0),pP 9 (nS),pP 10 (nS),pP 36 (.lst 4 (T.map Gr.av)),pP 37 (i64 T.length),pP 38 (i64 0)]) (hp:=[pP 1 (.box l.av.cells),pP 8 (.box j.av.cells)]) (.k (.k (.k (.k (.cons rfl (.of (by rw[hT,<- List.drop_one,agc,aio (by rw[agd];omega)])) (.cons rfl (Sub.int (by have h8:T.length=G.length-1:=(by rw[hT,agk]);rw[h8,air,agd,ah6,Nat.min_self])) (.k .nil))))))) (.k (.k .nil))) ?_ (99999,0)
 refine gW (Wk.virt 900 1 rfl) ?_ (99999,0);refine gW (Wk.virt 901 1 rfl) ?_;refine aK [1,8,36,37] [1,8] (fun(i:Nat)=>[pP 9 (.ms 900 1 0 i),pP 10 (.ms 901 1 0 i),pP 38 (i64 i)]) (fun i=>[pP 900 (.row 1 (((T.take i).map (ep l j)).map nA)),pP 901 (.row 1 (((T.take i).map f8).map i64))]) (fun i=>i<=T.length/\∀x∈T.take i,gN l j x=0) (fun i=>T.length-i) 0 ⟨aii _,fun x hx=>by simp at hx⟩ ?_ (h1:=(.cons rfl (Sub.nM _ _ _) (.cons rfl (Sub.nM _ _ _) (.k .nil))))
 rintro i ⟨hi,bc⟩ K1 J1;refine gC (fun u=>?_) (fun u=>?_) (st2:=(15,0))
 ·have ae:=aI u;obtain ⟨x,hx⟩:=aB ae;have GK:x ∈ (aC l).tail:=by rw [<- hG,<- hT]; exact ah3 hx
  refine gi (ay hx) ?_;refine gc (WQ l hl af iV (GJ i x hx)) ?_;refine gC (fun u=>?_) (fun u=>?_)
  ·have h5 : gN l j x ≠ 0 := by simpa using u
   have he:=BR af gq h3 h4 GK (by rw[<- hG,<- hj];exact h5);refine gR ?_;exact gE (by unfold d9 dx;rw[he];exact Sub.tup (.cons (.nil _ _ _) (.cons (.nil _ _ _) (.cons (.refl _) .nil))))
  have h5:gN l j x=0:=by simpa using u
  refine gs (dX (.tmp rfl) rfl (by rw[ah6,ah6,air];omega) (.tmp rfl) T29 rfl T41 rfl rfl (by simp only[aij,aiv];omega) rfl rfl) ?_;refine gs (dX (.tmp rfl) rfl (by rw[ah6,ah6,air];omega) (.tmp rfl) T30 rfl T3 rfl rfl (by simp only[aij,aiv];omega) rfl rfl) ?_ (14,0);refine gW (Wk.of (sl:=[pP 1 (.ptr 1 0),pP 8 (.ptr 8 0),pP 9 (.ms 55 1 0 (i+1)),pP 10 (.ms 59 1 0 (i+1)),pP 36 (.lst 4 (T.map Gr.av)),pP 37 (i64 T.length),pP 38 (i64 i)]) (hp:=[pP 1 (.box l.av.cells),pP 8 (.box j.av.cells),pP 55 (.row 1 (((T.take (i+1)).map (ep l j)).map nA)),pP 59 (.row 1 (((T.take (i+1)).map f8).map i64))]) aU (.k (.k (.cons rfl (.of (by rw[sM _ hx,ai4];rfl)) (.cons rfl (.of (by rw[sM _ hx,ai4];rfl)) .nil))))) ?_ (14,0)
  refine gW (Wk.rk (k:=55) (d:=900) rfl rfl) ?_ (14,0);refine gW (Wk.rk (k:=59) (d:=901) rfl rfl) ?_;refine ga aG ?_;exact aE J1 (i+1) ⟨ae,fun y hy=>by rw[g9 hx]at hy;rcases aia.1 hy with h9 |h9;exact bc y h9;rw[afr.1 h9];exact h5⟩
 have ae:=aV hi u;subst ae;have he:=MC af gq h3 h4 (by rw[<- hG,<- hT,<- hj,<- ail (l:=T)];exact bc);have eP:d9 l=T.map (ep l j):=by unfold d9;rw[ajg he,<- hG,<- hT,<- hj]
 have eN:dx l=T.map f8:=by unfold dx;rw[ajg he,<- hG,<- hT]
 refine gW ((Wk.freeze (k:=900) rfl).trans<|(Wk.freeze (k:=901) rfl).trans<|Wk.of (sl:=[pP 9 (.lst 1 ((T.map (ep l j)).map nA)),pP 10 (.lst 1 ((T.map f8).map i64))]) (hp:=[]) (.cons rfl (.of (by rw[b8 (by rw[ah6,ah6,air];omega),ail];rfl)) (.cons rfl (.of (by show AV.fz 901 1 _ (.ms 901 1 0 T.length)=_;rw[b8 (by rw[ah6,ah6,air];omega),ail])) .nil)) .nil) ?_;refine mv ?_;rw[eP,eN,he];rfl
def nK(r:Rt)(n d:Nat):Bool :=
  cond (cond (cond (aa .lss (r.num.length:Int) 2) (aa .lss (r.den.length:Int) 2) false) (cond (aa .eql (r.num.length:Int) 0) true (aa .leq (aj r.num 0:Int) (n:Int))) false)
    (cond (aa .eql (r.den.length:Int) 0) true (aa .leq (aj r.den 0:Int) (d:Int))) false
theorem GS{r:Rt}{n d:Nat}(h:nK r n d=true):r.num.length<=1/\r.den.length<=1:=by
 unfold nK at h;cases h1:aa .lss (r.num.length:Int) 2
 ·rw[h1]at h;cases h
 ·cases h2:aa .lss (r.den.length:Int) 2
  ·rw[h1,h2]at h;cases h
  ·have a:=aI (b:=2) h1;have b:=aI (b:=2) h2;exact⟨by omega,by omega⟩
theorem A7(r:Rt)(n d:Nat)(hn:n<4294967296)(hd:d<4294967296):FP 25 [r.av,u32 n,u32 d] (bl (nK r n d)):=by
 refine ak func25 ?_;refine gl ?_;refine cq ?_;refine cq ?_;refine mS (fun⟨h,h2⟩=>(bI (by have:=dw h2;have e:Int.toNat 0=0:=rfl;omega))) ?_;refine cq ?_;refine mS (fun⟨h,h2⟩=>(bI (by have:=dw h2;have e:Int.toNat 0=0:=rfl;omega))) ?_;refine ah ?_
 first |rfl |(simp;done)
def uf(m:Mk):Bool:=!(cond (!nK m.x 60 5) true (!nK m.y 60 5))
def AA(l:Li):Bool:=l.bo.all (fun b=>b.pts.all uf)
def tO(m:Mk):Bool:=!(cond (cond (aa .gtr (m.name.size:Int) 100) true (!nK m.x 200 13)) true (!nK m.y 200 13))
def zh(b:Bd):Bool:=cond (aa .gtr (b.pts.length:Int) 10) true (aa .gtr (b.name.size:Int) 100)
def mb(b:Bd):Bool:=!zh b&&b.pts.all tO
def wc(l:Li):Bool:=cond (cond (aa .gtr (l.bo.length:Int) 6) true (aa .gtr (l.jo.length:Int) 9)) true (aa .gtr (l.drivers.length:Int) 4)
def tK(xs:List Int):Nat->Int
  |0=>0
  |n+1=>tK xs n+xs.getD n 0
def Je(l:Li):Bool:=cond (cond (aa .neq (di l:Int) 0) true (aa .lss ((d9 l).length:Int) 2)) true (cond (cond (aa .eql ((d9 l).length:Int) 2) (aa .leq (tK (dx l) (dx l).length) 6) false) (AA l) false)
def ml(l:Li):Bool:=!wc l&&(l.bo.all mb&&(if ax l=0 then Je l else true))
theorem Wx{m:Mk}(h:tO m=true):m.x.num.length<=1/\m.x.den.length<=1/\m.y.num.length<=1/\m.y.den.length<=1:=by
 unfold tO at h;have h:=dR h;cases h1:nK m.x 200 13
 ·rw[h1]at h;revert h;cases aa .gtr (m.name.size:Int) 100 <;> exact fun h=>by cases h
 ·cases h2:nK m.y 200 13
  ·rw[h1,h2]at h;revert h;cases aa .gtr (m.name.size:Int) 100 <;> exact fun h=>by cases h
  ·have a:=GS h1;have b:=GS h2;exact⟨a.1,a.2,b.1,b.2⟩
theorem LS{l:Li}(hw:l.okw)(h1:wc l=false)(h2:l.bo.all mb=true):l.ok:=by
 refine DF ?_ hw;unfold BU;unfold wc at h1;rw[aif]at h2
 have hb:l.bo.all yM=true:=by
  rw[aif];intro b hb;have h3:=h2 b hb;unfold mb at h3;rw[ah7]at h3;have h4:=dR h3.1;unfold zh at h4
  have h5:b.pts.length<=10:=by
   cases h9:aa .gtr (b.pts.length:Int) 10
   ·exact jT (b:=10) h9
   ·rw[h9]at h4;cases h4
  unfold yM;rw[ajk oz,ahg,aif];intro m hm;have h6:=Wx (aif.1 h3.2 m hm);unfold zt;exact ajk ⟨by omega,by omega,by omega,by omega⟩
 rw[hb,ahg];cases h3:aa .gtr (l.bo.length:Int) 6
 ·cases h4:aa .gtr (l.jo.length:Int) 9
  ·cases h5:aa .gtr (l.drivers.length:Int) 4
   ·have a:=jT (b:=6) h3;have b:=jT (b:=9) h4;have c:=jT (b:=4) h5;exact ajk ⟨by omega,by omega,by omega⟩
   ·rw[h3,h4,h5]at h1;cases h1
  ·rw[h3,h4]at h1;cases h1
 ·rw[h3]at h1;cases h1
theorem Ek{l:Li}:∀x∈dx l,0<=x/\x<=4:=by
 intro x hx;unfold dx at hx;split at hx
 ·obtain⟨g,_,rfl⟩:=af0.1 hx;unfold f8;split
  ·omega
  ·split <;> omega
 ·cases hx
theorem Fs(l:Li):(d9 l).length<=8/\(dx l).length=(d9 l).length:=by
 unfold d9 dx;split
 ·rename_i h;have h1:=yx (LG h).li;rw[ah6,ah6,agk];exact⟨by omega,rfl⟩
 ·exact⟨aii _,rfl⟩
theorem QM{xs:List Int}{i:Nat}{x:Int}(h:xs[i]?=some x):tK xs (i+1)=tK xs i+x:=by
 show tK xs i+xs.getD i 0=_;rw[aP h]
theorem RF(l:Li)(hl:l.ok):FP 27 [l.av] (bl (AA l)):=by
 have fJ:=hl.lb;refine ak func27 ?_;refine gl ?_;refine aK [1,8,9] [1] (fun(i:Nat)=>[pP 10 (i64 i)]) (fun _=>[]) (fun i=>i<=l.bo.length/\(l.bo.take i).all (fun b=>b.pts.all uf)=true) (fun i=>l.bo.length-i) 0 ⟨aii _,rfl⟩ ?_;rintro i ⟨xU,qg⟩ K1 J1;refine gC (fun z=>?_) (fun z=>?_)
 ·have ae:=aI z;obtain⟨b,hb⟩:=aB ae;have xH:=(hl.bo b (ah3 hb)).ll;refine gi (ay hb) ?_;refine gl ?_;refine aK [1,8,9,10,15,16] [1] (fun(k:Nat)=>[pP 17 (i64 k)]) (fun _=>[]) (fun k=>k<=b.pts.length/\(b.pts.take k).all uf=true) (fun k=>b.pts.length-k) 0 ⟨aii _,rfl⟩ ?_;rintro k ⟨hk,gU⟩ K2 J2;refine gC (fun z=>?_) (fun z=>?_)
  ·have aW:=aI z;obtain⟨p,hp⟩:=aB aW;refine gi (ay hp) ?_;refine gc (A7 p.x 60 5 oz oz) ?_;refine bP (fun _=>(A7 p.y 60 5 oz oz)) ?_;refine gC (fun z=>?_) (fun z=>?_)
   ·have h1:uf p=false:=ajn Bool.not z;refine ah ?_;unfold AA;rw[sj hb (sj hp h1)];rfl
   have h1:uf p=true:=ajn Bool.not z;refine ga aG ?_;exact aE J2 (k+1) ⟨aW,rx gU hp h1⟩
  have hP:b.pts.all uf=true:=rv (aV hk z) gU;refine ga aG ?_;exact aE J1 (i+1) ⟨ae,rx qg hb hP⟩
 have hL:AA l=true:=rv (aV xU z) qg;refine ah ?_;rw[hL];rfl
theorem WX(l:Li)(hw:l.okw):FP 6 [l.av] (bl (ml l)):=by
 refine ak func6 ?_;refine gl ?_;refine cq ?_;refine cq ?_;refine gC (fun z=>?_) (fun z=>?_)
 ·have h1:wc l=true:=z;refine ah ?_;unfold ml;rw[h1];rfl
 have h1:wc l=false:=z;have fJ:=hw.lb;refine gl ?_;refine aK [1,30,31] [1] (fun(i:Nat)=>[pP 32 (i64 i)]) (fun _=>[]) (fun i=>i<=l.bo.length/\(l.bo.take i).all mb=true) (fun i=>l.bo.length-i) 0 ⟨aii _,rfl⟩ ?_;rintro i ⟨xU,qg⟩ K1 J1;refine gC (fun z=>?_) (fun z=>?_)
 ·have ae:=aI z;obtain⟨b,hb⟩:=aB ae;have xH:=(hw.pts b (ah3 hb)).2.1;refine gi (ay hb) ?_;refine gl ?_;refine gC (fun z=>?_) (fun z=>?_)
  ·have h2 : mb b = false := by unfold mb; rw [show zh b = true from z]; rfl
   refine ah ?_;unfold ml;rw[sj hb h2,ahe,ahd];rfl
  have h2:zh b=false:=z;refine gl ?_;refine aK [1,30,31,32,47,48] [1] (fun(k:Nat)=>[pP 49 (i64 k)]) (fun _=>[]) (fun k=>k<=b.pts.length/\(b.pts.take k).all tO=true) (fun k=>b.pts.length-k) 0 ⟨aii _,rfl⟩ ?_;rintro k ⟨hk,gU⟩ K2 J2;refine gC (fun z=>?_) (fun z=>?_)
  ·have aW:=aI z;obtain⟨p,hp⟩:=aB aW;refine gi (ay hp) ?_;refine bP (fun _=>(A7 p.x 200 13 oz oz)) ?_;refine bP (fun _=>(A7 p.y 200 13 oz oz)) ?_;refine gC (fun z=>?_) (fun z=>?_)
   ·have h3:tO p=false:=ajn Bool.not z;refine ah ?_;unfold ml;rw[sj hb (by unfold mb;rw[sj hp h3,ahd]),ahe,ahd];rfl
   have h3:tO p=true:=ajn Bool.not z;refine ga aG ?_;exact aE J2 (k+1) ⟨aW,rx gU hp h3⟩
  have hP:mb b=true:=by unfold mb;rw[h2,rv (aV hk z) gU];rfl
  refine ga aG ?_;exact aE J1 (i+1) ⟨ae,rx qg hb hP⟩
 have hL:l.bo.all mb=true:=rv (aV xU z) qg;have hl:=LS hw h1 hL;refine gc (NV l hl) ?_;refine gC (fun z=>?_) (fun z=>?_)
 ·have h4:=qk z;refine ah ?_;unfold ml;rw[h1,hL,ajf h4];rfl
 have h4:=q9 z;obtain⟨e1,e2⟩:=Fs l;refine gc (Jo l hl) ?_;refine gl ?_;refine fF [1,7,9,80,81] [1] (fun(i:Nat)(s:Int)=>[pP 10 (i64 s),pP 82 (i64 i)]) (fun _ _=>[]) (fun i s=>i<=(dx l).length/\s=tK (dx l) i/\0<=s/\s<=4*i) (fun i _=>(dx l).length-i) 0 0 ⟨aii _,rfl,by omega,by omega⟩ ?_;rintro i s ⟨hi,hs,k8,hs4⟩ K3 J3;refine gC (fun z=>?_) (fun z=>?_)
 ·have ae:=aI z;obtain⟨x,hx⟩:=aB ae;have hx4:=Ek x (ah3 hx);refine gi (ay hx) ?_;refine ga (cP oz) ?_;refine ga aG ?_;exact fC J3 (i+1) (s+x) ⟨ae,by rw[QM hx,hs],by omega,by omega⟩
 have ae:=aV hi z;subst ae;refine cq ?_;refine cq ?_;refine bP (fun _=>(RF l hl)) ?_;refine ah ?_;unfold ml Je;rw[h1,hL,ajg h4,hs];rfl
theorem Qb.m1:Qb 1 (-1:Rat):=⟨by decide,by decide⟩
theorem aby{l:Li}{G:List Gr}(hl:l.ok)(af:ax l=0){j:Jt}{dv:Int}(hp:Pj l G j dv){x:Gr}(hx:Lg l dv x):Plm 9 20000000 (ep l j x):=by
 obtain⟨i,z0,j0,hi,aZ,t0⟩:=Fh hx.dy hx.nd;have F0:=ui hx af rfl t0 (ah3 aZ);have n0:=F0.n hp hl af;obtain⟨o1,o2⟩:=nD af t0.hj (qK t0);have m0:=cu hl af o1 o2;have hW:=pL;have h1:Qb 1 (((1:Int):Rat)):=Qb.one
 by_cases hk:x.kind=1
 ·obtain ⟨k, z1, z2, j1, j2, P⟩:=EL hx.dy hk hi aZ t0.hj;rw [P.eE];have F1:=ui hx af rfl P.t1 (ah3 P.y1);have n1:=F1.n hp hl af;obtain ⟨o3,o4⟩:=nD af P.t1.hj (qK P.t1);have m1:=cu hl af o3 o4;obtain ⟨o5,o6⟩:=nD af P.h2 (b:=i) (by rcases P.ti with h9 | h9; exact .inl h9.1; exact .inr h9.1);have m2:=cu hl af o5 o6
  have o7:aX (b9 j2 i) (bV l k).length=true:=by
   obtain⟨i1,i2,i3,i4,_⟩:=ee af P.h2;have aF:=P.ne;unfold b9;rcases P.ti with⟨h8,h9⟩ |⟨h8,h9⟩
   ·rw[ajg h8,<- h9];exact i4
   ·rw[ajf (fun h=>aF (h.symm.trans h9)),<- h9];exact i3
  have m3:=cu hl af o3 o7;have qr:=jd (m2.sub m0);have qs:=jd (m3.sub m1);have nd:=kr n1 n0;have ng:=(lO nd nd).1.dvQ;have b1:=(eQ 3).add hW (qr.sub qs);have nr:=(b1.add ng h1).mono (m:=5) (f:=600000) oz oz;have nm:=(ng.mul hW).mono (m:=7) (f:=3000000) oz oz;have nf:=((eQ 7).add nm (qG.mul qr)).mono (m:=7) (f:=3100000) oz oz;have nq:=(nr.mul nr).mono (m:=9) (f:=6100000) oz oz;exact(nf.add nq Qb.m1).mono oz oz
 ·by_cases cD:x.kind=2
  ·obtain ⟨z1, j1, P, ha, eE, eX, eN⟩:=Dn hx.dy cD hi aZ t0.hj;rw [eE];obtain ⟨i1,i2,i3,i4,i5⟩:=ee af P.t1.hj;have i5:=i5 (by rw [P.t1.kd]; decide);have xZ:=(hx.an z1 (ah3 P.y1) j1 P.t1.hj).2;have F1:Fd l dv j1.b j1.on:=⟨i2,i4,xZ (by rcases P.t1.tie with h9 | h9; exact h9.2; exact ajm (ha ▸ ah3 hi) h9.2)⟩
   have F2:Fd l dv j1.b j1.to:=⟨i2,i5,F1.hd⟩
   have n1:=F1.n hp hl af;have n2:=F2.n hp hl af;have m1:=cu hl af i2 i4;have m2:=cu hl af i2 i5;rw[ha]at i1 i3;have m3:=cu hl af i1 i3;have qm:=jd (m2.sub m1);have qr:=jd (m3.sub m0);have na:=kr n2 n1;have nb:=kr n0 n1;have ng:=(lO na nb).2.dvQ;have nf:=(eQ 5).add (hW.mul hW) (qm.mul qr);exact(nf.add (ng.mul ng) Qb.m1).mono oz oz
  ·obtain ⟨z1, j1, P, ha, eE, eX, eN⟩:=Dw hx.dy hx.nd hk cD hi aZ t0.hj;rw [eE];obtain ⟨i1,i2,i3,i4,i5⟩:=ee af P.t1.hj;have i5:=i5 (by rw [P.t1.kd]; decide);have x3:=(hx.an z1 (ah3 P.y1) j1 P.t1.hj).1;have hb:j1.b = i:=by rcases P.t1.tie with h9 | h9; exact ajm h9.1 ha; exact h9.1
   have F1:Fd l dv j1.a j1.point:=⟨i1,i3,x3 (by rcases P.t1.tie with h9 |h9;exact ajm h9.1 ha;exact h9.2)⟩
   have n1:=F1.n hp hl af;rw[hb]at i2 i4 i5;have m1:=cu hl af i2 i4;have m2:=cu hl af i2 i5;have vv:Sm 2001 (lw l i j1):=m2.sub m1;have vu:Sm 2001 (zx l i j0 j1):=m1.sub m0;have qv:=jd vv;have qh:=vv.cross vu;have nd:=kr n1 n0;have ng:=(lO nd nd).1.dvQ;have na:=(eQ 5).add ng qv;have nb:=(eQ 3).add hW (qh.mul qh);exact(na.add nb Qb.m1).mono oz oz
theorem NY{l:Li}(hl:l.ok){p:List Rat}(h:p∈d9 l):Po 20000000 p:=by
 unfold d9 at h;split at h
 ·rename_i he;have e:=LG he;obtain⟨g,hg,rfl⟩:=af0.1 h;obtain⟨k,hk⟩:=List.mem_iff_getElem?.1 hg;rw[afn]at hk;exact(aby hl e.li (yI e.li e.dr e.si).pj (Fn e.li e.sp e.dr e.si hk)).po oz
 ·cases h
theorem SY{l:Li}(hw:l.okw)(h:ml l=true):l.ok:=by
 unfold ml at h;rw[ah7,ah7]at h;exact LS hw (dR h.1) h.2.1
end Go.Lw
