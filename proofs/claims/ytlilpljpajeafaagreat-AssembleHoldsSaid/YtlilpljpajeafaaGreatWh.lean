/- AssembleHolds: for any linkage and any turns the law returns true and leaves its arguments as they were. No other condition. Part 8 of 8: the statement -/
import Derived.Test.YtlilpljpajeafaaGreatWg
set_option linter.unusedVariables false
open List (mem_of_getElem? mem_cons_of_mem map_cons mem_cons foldl_cons mem_cons_self length_nil getD_eq_getElem?_getD all_eq_true append_assoc getElem?_eq_getElem append_nil take_of_length_le map_nil not_mem_nil length_map length_replicate)
open Nat (le_refl le_trans zero_le)
open Option (map_eq_some_iff)
open Bool (and_eq_true)
open Int (toNat_natCast)
open Go.Proofs.Tryz
namespace Go.Lw
open Lean.Grind (CommRing)
theorem Ny(half:Bool)(t:Rat):du half t*du half t+dw half t*dw half t=1:=by
 unfold du dw;cases half
 ·have h:1+t*t≠0:=by
   have:=oe t;intro e;grind
  simp only[Bool.false_eq_true,if_false]
  have e1:(1-t*t)/(1+t*t)*((1-t*t)/(1+t*t))+(t+t)/(1+t*t)*((t+t)/(1+t*t))=((1-t*t)*(1-t*t)+(t+t)*(t+t))*((1+t*t)⁻¹*(1+t*t)⁻¹):=by
   rw[Rat.div_def,Rat.div_def];grind
  rw[e1];have e2:(1+t*t)*(1+t*t)⁻¹=1:=Rat.mul_inv_cancel _ h;generalize(1+t*t)⁻¹=k at e2 ⊢;have e3:((1-t*t)*(1-t*t)+(t+t)*(t+t))*(k*k)=((1+t*t)*k)*((1+t*t)*k):=by grind
  rw[e3,e2,Rat.one_mul]
 ·simp only[if_true];decide +kernel
section
variable{l:Li}{a:As}{r:Nat}(tw:Tw (llq a.rs) r)(hN:∀p∈bf a,Nq (llq a.rs).length p)
include tw hN
theorem Ph{i z0 z1:Int}{j0 j:Jt}(t0:TieO l 0 [i] z0 i j0)(t1:TieO l 1 [i] z1 i j)(ha:j.a≠i)(hi:0<=i)(hil:i.toNat<(bf a).length)(hn:∀j∈l.jo,0<=j.a/\0<=j.b)(hv:bW (dh l i j) (dh l i j)≠0)
  {s:Sv} (hs:s∈kL l a i j0 j):GrpH l a ⟨3,[i],[z0,z1],0⟩ s:=by
 unfold kL at hs;split at hs
 ·cases hs
 ·rename_i h1;split at hs
  ·cases hs
  ·rename_i h2;have hd:=wA tw h2 h1;split at hs
   ·rename_i h3;have hp:=yq tw.pos h3;have L:=zy (bg l a i j0 j) hp;have e:=yW (bg l a i j0 j);unfold kg at hs;obtain⟨m,hm,rfl⟩:=List.mem_map.1 hs;have hm:=List.mem_range.1 hm;unfold jN
    match m,hm with
    |0,_ =>
     refine yH tw hN t0 t1 ha hi hil hn hv hd L ?_;show am L.pos (bw (bg l a i j0 j)*bw (bg l a i j0 j))=_;rw[e];rfl
    |1,_ =>
     refine yH tw hN t0 t1 ha hi hil hn hv hd L ?_;show am L.pos (dE _ (sX (-bw (bg l a i j0 j)))*dE _ (sX (-bw (bg l a i j0 j))))=_;rw[jk,show -bw (bg l a i j0 j)*-bw (bg l a i j0 j)=bw (bg l a i j0 j)*bw (bg l a i j0 j) by grind,e];rfl
    |m+2,h=>exact absurd h (by simp)
   ·rename_i h3;have hX:ak (bg l a i j0 j) = 0:=by omega
    have L:=uX (ts:=llq a.rs) tw.pos;unfold kg at hs;obtain⟨m,hm,rfl⟩:=List.mem_map.1 hs;have hm:=List.mem_range.1 hm;unfold jN
    match m,hm with
    |0,_ =>
     refine yH tw hN t0 t1 ha hi hil hn hv hd L ?_;show am L.pos (dE _ []*dE _ [])=_;have e0:(dE (llq a.rs) []:Et (llq a.rs))=0:=by rw[E.zero_def];exact gQ _
     rw[e0,gY];refine((fj L.pos).2 ?_).trans ((fj L.pos).2 hX).symm;rw[show(0:Et (llq a.rs))*0=0 by grind];exact(gN _ _ L.pos).zero
    |m+1,h=>exact absurd h (by simp)
theorem I9{i z0 d:Int}{j0:Jt}(t0:TieO l 0 [i] z0 i j0)(hi:0<=i)(hil:i.toNat<(bf a).length)(hn:∀j∈l.jo,0<=j.a/\0<=j.b){x:Tn}
  {s:Sv} (hs:s∈kK l a i j0 x):GrpH l a ⟨0,[i],[z0],d⟩ s/\dE s.ts ((bK (bf a) [i] s.ps).getD i.toNat bF).c=qE (du x.half x.t.q)/\dE s.ts ((bK (bf a) [i] s.ps).getD i.toNat bF).s=qE (dw x.half x.t.q):=by
 unfold kK at hs;split at hs
 ·cases hs
 ·rw[List.mem_singleton.1 hs];obtain⟨n0,n1⟩:=hn j0 (mem_of_getElem? t0.hj);have L:=uX (ts:=llq a.rs) tw.pos;have hbs:∀B0,bK (bf a) [i] [B0]=(bf a).set i.toNat B0:=fun _=>rfl
  have g0:∀B0,(bK (bf a) [i] [B0]).getD i.toNat bF=B0:=fun B0=>by rw[hbs,o8 hil]
  have gn:∀(B0:Pq)(b:Int),0<=b->b∉[i]->jZ (bf a) (bK (bf a) [i] [B0]) (llq a.rs).length b:=fun B0 b h0 hb=>uB tw hN (by
   rw[hbs,n6 hi h0 (fun e=>hb (by simp[e]))])
  have eN:(jP (((1:Int):Rat),0):Et (llq a.rs))=qE 1:=congrArg qE (show((1:Int):Rat)*((1:Int):Rat)+0*0=1 by decide +kernel);have q1:(qE 1:Et (llq a.rs))=1:=rfl
  have hc:(dE (llq a.rs) (kJ l a i j0 x).c:Et (llq a.rs))=qE (du x.half x.t.q):=by
   unfold kJ;rw[wt];unfold dH;rw[eN,zU,lE,z7];grind
  have hsn:(dE (llq a.rs) (kJ l a i j0 x).s:Et (llq a.rs))=qE (dw x.half x.t.q):=by
   unfold kJ;rw[u5];unfold dk;rw[eN,zU,lE,z7];grind
  refine⟨⟨L,?_,?_⟩,by rw[g0];exact hc,by rw[g0];exact hsn⟩
  ·intro z hz;rw [List.mem_singleton.1 hz,aD t0.hj];show JH l (llq a.rs) (bK (bf a) [i] [kJ l a i j0 x]) j0;refine L.pin t0.kd (i:=i) ?_ (by rw [g0,gY,gY]; exact rV);rcases t0.tie with ⟨e,hb⟩ | ⟨e,hb⟩
   ·exact .inl ⟨e,gn _ _ n1 hb⟩
   ·exact .inr ⟨fun e2=>hb (by simp[e2]),e,gn _ _ n0 hb⟩
  ·intro b hb;rw[List.mem_singleton.1 hb];show CH (llq a.rs) ((bK (bf a) [i] [kJ l a i j0 x]).getD i.toNat bF);rw[g0];unfold CH;rw[hc,hsn,<- mf,<- mf,<- qG,Ny,q1,show(1:Et (llq a.rs))-1=0 by grind];exact(gN _ _ L.pos).zero
theorem M2{g:Gr}(hg:DyK l g)(hgb:∀b∈g.bo,0<=b/\b.toNat<(bf a).length)(hli:aB l=0){x:Tn}{s:Sv}(hs:s∈fg l a g x):GrpH l a g s/\(g.kind=0->dE s.ts ((bK (bf a) g.bo s.ps).getD (eW g 0).toNat bF).c=qE (du x.half x.t.q)/\dE s.ts ((bK (bf a) g.bo s.ps).getD (eW g 0).toNat bF).s=qE (dw x.half x.t.q)):=by
 have hn:∀j∈l.jo,0<=j.a/\0<=j.b:=fun j hj=>by
  obtain⟨n,hn⟩:=List.getElem?_of_mem hj;obtain⟨i1,i2,_⟩:=dZ hli hn;have i1:=dj i1;have i2:=dj i2;omega
 cases hg with
 | @drv b z d j dr t d0 hd hb =>
  have e:dA l ⟨0,[b],[z],d⟩ 0=j:=aD t.hj;have hs:s∈kK l a b j x:=by rw[<- e];exact hs
  obtain⟨h1,h2⟩:=hgb b (by simp);have h:=I9 (d:=d) tw hN t h1 h2 hn hs;exact⟨h.1,fun _=>h.2⟩
 | @rrr i k z0 z1 z2 j0 j1 j2 ne t0 t1 h0 h2 kd tie =>
  have e0:dA l ⟨1,[i,k],[z0,z1,z2],0⟩ 0=j0:=aD t0.hj;have e1:dA l ⟨1,[i,k],[z0,z1,z2],0⟩ 1=j1:=aD t1.hj;have e2:dA l ⟨1,[i,k],[z0,z1,z2],0⟩ 2=j2:=aD h2;have hs:s∈lh l a i k j0 j1 j2:=by rw[<- e0,<- e1,<- e2];exact hs
  obtain⟨b1,b2⟩:=hgb i (by simp);obtain⟨b3,b4⟩:=hgb k (by simp);exact⟨Py tw hN ne t0 t1 h2 kd tie b1 b3 b2 b4 hn hs,fun h=>absurd h (by simp)⟩
 | @pr i z0 z1 j0 j1 t0 t1 ha =>
  have e0:dA l ⟨2,[i],[z0,z1],0⟩ 0=j0:=aD t0.hj;have e1:dA l ⟨2,[i],[z0,z1],0⟩ 1=j1:=aD t1.hj;have hs:s∈kP l a i j0 j1:=by rw[<- e0,<- e1];exact hs
  obtain⟨b1,b2⟩:=hgb i (by simp);exact⟨U2 tw hN t0 t1 ha b1 b2 hn hs,fun h=>absurd h (by simp)⟩
 | @rp i z0 z1 j0 j1 t0 t1 ha =>
  have e0:dA l ⟨3,[i],[z0,z1],0⟩ 0=j0:=aD t0.hj;have e1:dA l ⟨3,[i],[z0,z1],0⟩ 1=j1:=aD t1.hj;have hs:s∈kL l a i j0 j1:=by rw[<- e0,<- e1];exact hs
  obtain⟨b1,b2⟩:=hgb i (by simp)
  have tb:j1.b=i:=by
   rcases t1.tie with⟨e,_⟩ |⟨e,_⟩
   ·exact absurd e ha
   ·exact e
  exact⟨Ph tw hN t0 t1 ha b1 b2 hn (x7 hli t1.hj (by rw[t1.kd];decide) tb) hs,fun h=>absurd h (by simp)⟩
end
end Go.Lw
namespace Go.Lw
open Lean.Grind (CommRing)
structure Nxt(l:Li)(kw:List Bool)(g:Gr):Prop where
  b:∀x∈g.bo,kn kw x=false
  j:∀z∈g.jo,∀j,l.jo[z.toNat]?=some j->(j.a∈g.bo\/kn kw j.a=true)/\(j.b∈g.bo\/kn kw j.b=true)
theorem sj{l:Li}{kind b:Int}{kw:List Bool}{bs:List Int}(hb:b∈bs)(h:0<=bQ l kind b kw){j:Jt}(hj:l.jo[(bQ l kind b kw).toNat]?=some j) :
  (j.a∈bs\/kn kw j.a=true)/\(j.b∈bs\/kn kw j.b=true):=by
 obtain⟨i,j',e,h1,_,h2⟩:=um h;rw[e,toNat_natCast,h1]at hj;cases hj;rcases h2 with⟨e1,e2⟩ |⟨e1,e2⟩
 ·exact⟨.inl (e1▸hb),.inr e2⟩
 ·exact⟨.inr e2,.inl (e1▸hb)⟩
theorem MB{l:Li}(hl:aB l=0){kw:List Bool}{g:Gr}(h:bY l kw=some g):Nxt l kw g:=by
 unfold bY at h;cases h1:di l kw with
 |some g' =>
  rw[h1]at h;cases h;unfold di at h1;rw[map_eq_some_iff]at h1;obtain⟨i,hi,rfl⟩:=h1;obtain⟨h1,h2⟩:=eU hi;unfold fJ at h2;simp only[Bool.not_eq_false',and_eq_true,decide_eq_true_eq,Bool.not_eq_true']at h2;refine⟨vL h2.1,fun z hz j hj=>?_⟩;rw[List.mem_singleton.1 hz]at hj;exact sj (by simp) h2.2 hj
 |none =>
  rw[h1]at h;cases h2:cM l kw with
  |some g' =>
   rw[h2]at h;cases h;have hf:=F8 h2;unfold cM at h2;rw[map_eq_some_iff]at h2;obtain⟨i,hi,h3⟩:=h2;obtain⟨_,h4⟩:=eU hi;split at h3
   ·rename_i k hk;subst h3;unfold gj at hk;rw [map_eq_some_iff] at hk;obtain ⟨k',hk',rfl⟩:=hk;obtain ⟨h5,h6⟩:=eU hk';rw [show i + 1 + k' = k' + (i + 1) by omega] at h6;unfold dz at h6;simp only [Bool.not_eq_false',and_eq_true,decide_eq_true_eq] at h6;obtain ⟨_,⟨j1,j2⟩,j3⟩:=h6;refine ⟨fun x hx=>qz (hf x hx),fun z hz j hj=>?_⟩;simp only [gy,mem_cons,not_mem_nil,or_false] at hz;rcases hz with rfl | rfl | rfl
    ·exact sj (by simp[gy]) j1 hj
    ·exact sj (by simp[gy]) j2 hj
    ·obtain⟨n,a2,e,hj2,hkd,ht⟩:=um j3;rw[e,toNat_natCast,hj2]at hj;cases hj;obtain⟨i1,i2,_⟩:=dZ hl hj2;have i1:=(dj i1).1;have i2:=(dj i2).1;rcases ht with⟨e1,e2⟩ |⟨e1,e2⟩
     ·rw[oM i2 oz oz]at e2;have e2:=of_decide_eq_true e2;exact⟨.inl (by simp[gy,e1]),.inl (by simp[gy,e2])⟩
     ·rw[oM i1 oz oz]at e2;have e2:=of_decide_eq_true e2;exact⟨.inl (by simp[gy,e2]),.inl (by simp[gy,e1])⟩
   ·rename_i hk;rw[hk]at h4;cases h4
  |none =>
   rw[h2]at h;have hf:=C6 (show d8 l kw=some g from h);have h3:d8 l kw=some g:=h;unfold d8 at h3;rw[map_eq_some_iff]at h3;obtain⟨i,hi,rfl⟩:=h3;obtain⟨_,h4⟩:=eU hi;unfold fw at h4;simp only[Bool.not_eq_false',and_eq_true,decide_eq_true_eq]at h4;obtain⟨_,j1,j2⟩:=h4;refine⟨fun x hx=>qz (hf x hx),fun z hz j hj=>?_⟩;simp only[gM,mem_cons,not_mem_nil,or_false]at hz;rcases hz with rfl |rfl
   ·exact sj (by simp[gM]) j1 hj
   ·exact sj (by simp[gM]) j2 hj
def zY(l:Li):List Bool->List Gr->Prop
  |_,[]=>True
  |kw,g::gs=>Nxt l kw g/\zY l (bm kw g.bo) gs
theorem DX{l:Li}(hl:aB l=0):∀(n:Nat)(kw:List Bool)(out:List Gr),∃gs,(co l n kw out).2=out++gs/\zY l kw gs
 |0,kw,out=>⟨[],(append_nil _).symm,trivial⟩
 |n+1,kw,out=>by
  unfold co;cases hg:bY l kw with
  |none=>exact⟨[],(append_nil _).symm,trivial⟩
  |some g =>
   obtain⟨gs,e,h⟩:=DX hl n (bm kw g.bo) (out++[g]);refine⟨g::gs,?_,MB hl hg,h⟩;show(co l n (bm kw g.bo) (out++[g])).2=_;rw[e,append_assoc];rfl
def gL(l:Li)(gs:List Gr)(m:Nat):List Bool:=(gs.take m).foldl (fun k g=>bm k g.bo) (cB l.bo.length 0)
theorem IA{l:Li}:∀(gs:List Gr)(kw:List Bool),zY l kw gs->∀(m:Nat)(g:Gr),gs[m]?=some g->Nxt l ((gs.take m).foldl (fun k g=>bm k g.bo) kw) g
 |[],kw,h,m,g,hg=>by simp at hg
 |g0::gs,kw,h,0,g,hg=>by
  rw[List.getElem?_cons_zero]at hg;cases hg;exact h.1
 |g0::gs,kw,h,m+1,g,hg=>by
  rw[List.getElem?_cons_succ]at hg;exact IA gs _ h.2 m g hg
theorem Se(l:Li)(gs:List Gr)(m:Nat):(gL l gs m).length=l.bo.length:=by
 have:∀(gs:List Gr)(k:List Bool),(gs.foldl (fun k g=>bm k g.bo) k).length=k.length:=by
  intro gs
  induction gs with
  |nil=>intro k;rfl
  |cons g gs ih=>intro k;rw[foldl_cons,ih,i9]
 unfold gL;rw[this,ia]
theorem MV{l:Li}{gs:List Gr}{m:Nat}{g:Gr}(hg:gs[m]?=some g):gL l gs (m+1)=bm (gL l gs m) g.bo:=by
 unfold gL;rw[List.take_add_one,hg,List.foldl_append];rfl
theorem yz{l:Li}{gs:List Gr}{m:Nat}{g:Gr}(hg:gs[m]?=some g)(ok:GrOk l g){b:Int}(h0:0<=b):kn (gL l gs (m+1)) b=(g.bo.any (fun x=>decide (x=b))||kn (gL l gs m) b):=by
 rw[MV hg,xH h0 (fun x hx=>by rw[Se];exact ok.b x hx)]
theorem CZ{l:Li}(hl:aB l=0)(hs:cm l=0){m:Nat}{g:Gr}(hg:(aN l)[m]?=some g):Nxt l (gL l (aN l) m) g:=by
 obtain⟨gs,e,h⟩:=DX hl l.bo.length (cB l.bo.length 0) []
 have e2:aN l=gs:=by
  unfold aN cr;rw[if_pos hs,e];rfl
 rw[e2]at hg ⊢;exact IA gs _ h m g hg
theorem Ey:∀(zs:List (Int×Pq))(bs:List Pq)(b:Int),(∀z∈zs,0<=z.1/\z.1≠b)->0<=b->(zs.foldl (fun k x=>k.set x.1.toNat x.2) bs).getD b.toNat bF=bs.getD b.toNat bF
 |[],bs,b,h,h0=>rfl
 |z::zs,bs,b,h,h0=>by
  rw[foldl_cons,Ey zs _ b (fun y hy=>h y (mem_cons_of_mem _ hy)) h0];obtain⟨h1,h2⟩:=h z mem_cons_self;exact n6 h1 h0 (Ne.symm h2)
theorem NL{bs:List Pq}{is:List Int}{ps:List Pq}{b:Int}(h:∀x∈is,0<=x)(hb:b∉is)(h0:0<=b):(bK bs is ps).getD b.toNat bF=bs.getD b.toNat bF :=
 Ey _ _ b (fun z hz=>by
  have:=(List.of_mem_zip hz).1;exact⟨h _ this,fun e=>hb (e▸this)⟩) h0
structure WkH(l:Li)(xs:List Tn)(a:Aq):Prop where
  js:∀m g,m<a.ms.length->(aN l)[m]?=some g->∀z∈g.jo,JH l a.ts a.bs (l.jo.getD z.toNat default)
  cs:∀b:Int,0<=b->kn (gL l (aN l) a.ms.length) b=true->CH a.ts (a.bs.getD b.toNat bF)
  dr:∀m g,m<a.ms.length->(aN l)[m]?=some g->g.kind=0->dE a.ts (a.bs.getD (eW g 0).toNat bF).c=qE (du (cg g xs).half (cg g xs).t.q)/\dE a.ts (a.bs.getD (eW g 0).toNat bF).s=qE (dw (cg g xs).half (cg g xs).t.q)
  fr:a.bs.getD 0 bF=kA
theorem Uf(T:LL):dE T []=0:=by rw[E.zero_def];exact gQ _
theorem Qu(T:LL):dE T [1]=1:=lJ _ 1
theorem Rg{T:LL}(hp:iU T):CH T kA:=by
 unfold CH kA;dsimp only;rw[Qu,Uf,show(1:Et T)*1+0*0-1=0 by grind];exact(gN _ _ hp).zero
theorem LD{n:Nat}{b:Int}(h0:0<=b)(h:kn (cB n 0) b=true):b=0:=by
 unfold cB at h;rcases Eo h with h |h
 ·rw[wU]at h;cases h
 ·have:(0:Int).toNat=0:=rfl;omega
theorem OG(l:Li)(xs:List Tn)(hb:0<l.bo.length):WkH l xs (fK l):=by
 have e0:(fK l).bs.getD 0 bF=kA:=o8 (by rw[length_replicate];exact hb);refine⟨fun m g h=>absurd h (Nat.not_lt_zero _),fun b h0 h=>?_,fun m g h=>absurd h (Nat.not_lt_zero _),e0⟩;have:b=0:=LD h0 h;subst this;show CH (fK l).ts ((fK l).bs.getD 0 bF);rw[e0];exact Rg ud.pos
theorem uO{n e:Nat}{a:List Rat}(h:Nm n e a):a.length<=2^n:=h.nl.le
theorem Pq.ok.nq{n e:Nat}{p:Pq}(h:Pq.ok n e p):Nq n p:=⟨uO h.c,uO h.s,uO h.x,uO h.y⟩
theorem Sx{ts ts' T:LL}(e:ts=ts')(h:Lf ts T):Lf ts' T:=e▸h
section
variable{l:Li}{xs:List Tn}{s g:Nat}(W:WkC l xs s g){gr:Gr}{a:Aq}(hg:(aN l)[a.ms.length]?=some gr)
variable{j r E:Nat}(Q:QInv l j r E a)
include W hg Q
theorem WkH.step(H:WkH l xs a){sv:Sv}(hs:sv∈fg l a.as gr (cg gr xs)):WkH l xs (a.nxt gr sv):=by
 have tw:=QInv.twl W hg Q;have hq:(Lw.llq a.as.rs)=a.ts:=a.llq;obtain⟨dy,ok⟩:=W.grp hg;have N:=CZ W.li W.sp hg
 have hN:∀p∈bf a.as,Nq (Lw.llq a.as.rs).length p:=by
  intro p hp;rw[vj]at hp;rw[hq];exact(Q.bs p hp).nq
 have G:=M2 tw hN dy (fun b hb=>by
  rw[vj];have:=ok.b b hb;have:=Q.ln;omega) W.li hs
 rw[vj]at G;have L:Lf a.ts sv.ts:=Sx hq G.1.lf;have js:=G.1.js;have cs:=G.1.cs;rw[vj]at js cs;have hN':∀i,Nq a.ts.length (a.bs.getD i bF):=fun i=>CX (fun p hp=>(Q.bs p hp).nq) i
 have sam:∀b:Int,0<=b->b∉gr.bo->jZ a.bs (bK a.bs gr.bo sv.ps) a.ts.length b:=fun b h0 hb=>⟨NL (fun x hx=>(ok.b x hx).1) hb h0,hN' _⟩
 have old:∀b:Int,kn (gL l (aN l) a.ms.length) b=true->b∉gr.bo:=fun b hk hb=>by
  rw[N.b b hb]at hk;cases hk
 have hml:(a.nxt gr sv).ms.length=a.ms.length+1:=by show(a.ms++[sv.mode]).length=_;simp
 have mono:∀(k m:Nat),m+k<=a.ms.length->∀b:Int,0<=b->kn (gL l (aN l) m) b=true->kn (gL l (aN l) (m+k)) b=true:=by
  intro k
  induction k with
  |zero=>intro m _ b _ h;exact h
  |succ k ih =>
   intro m hm b h0 h;have h1:=ih m oz b h0 h;have hlt:m+k<(aN l).length:=by have:=(List.getElem?_eq_some_iff.1 hg).1;omega
   obtain⟨g2,hg2⟩:=aw hlt;rw[show m+(k+1)=(m+k)+1 by omega,yz hg2 (W.grp hg2).2 h0,h1];simp
 have jn:∀{z:Int}{jt:Jt},l.jo[z.toNat]?=some jt->0<=jt.a/\0<=jt.b:=fun hj=>by
  obtain⟨i1,i2,_⟩:=dZ W.li hj;have i1:=dj i1;have i2:=dj i2;omega
 have cz:∀m g2,m<a.ms.length->(aN l)[m]?=some g2->∀b:Int,0<=b->(b∈g2.bo\/kn (gL l (aN l) m) b=true)->b∉gr.bo:=by
  intro m g2 hm hg2 b h0 hb;refine old b ?_
  have h1:kn (gL l (aN l) (m+1)) b=true:=by
   rw[yz hg2 (W.grp hg2).2 h0];rcases hb with hb |hb
   ·have : g2.bo.any (fun x => decide (x = b)) = true := by rw [List.any_eq_true]; exact ⟨b, hb, by simp⟩
    rw[this];rfl
   ·rw[hb];simp
  have:=mono (a.ms.length-(m+1)) (m+1) oz b h0 h1
  rwa [show m+1+(a.ms.length-(m+1))=a.ms.length by omega]at this
 refine⟨?_,?_,?_,?_⟩
 ·intro m g2 hm hg2 z hz;rw[hml]at hm;show JH l sv.ts (bK a.bs gr.bo sv.ps) _
  by_cases e:m=a.ms.length
  ·subst e;rw[hg]at hg2;cases hg2;exact js z hz
  ·obtain⟨jt,hj⟩ := aw (l := l.jo) (i := z.toNat) (by have := (W.grp hg2).2.j z hz;omega);have hjz:l.jo[z.toNat]?=some jt:=hj;have H1:=H.js m g2 oz hg2 z hz;rw[aD hj]at H1 ⊢;have N2:=CZ W.li W.sp hg2;obtain⟨na,nb⟩:=N2.j z hz jt hj;obtain⟨a0,b0⟩:=jn hjz;exact L.jh (sam _ a0 (cz m g2 oz hg2 _ a0 na)) (sam _ b0 (cz m g2 oz hg2 _ b0 nb)) H1
 ·intro b h0 hk;rw[hml,yz hg ok h0]at hk;show CH sv.ts ((bK a.bs gr.bo sv.ps).getD b.toNat bF)
  by_cases hb:b∈gr.bo
  ·exact cs b hb
  ·have:gr.bo.any (fun x=>decide (x=b))=false:=by
    cases h:gr.bo.any (fun x=>decide (x=b))with
    |false=>rfl
    |true =>
     rw[List.any_eq_true]at h;obtain⟨x,hx,e⟩:=h;exact absurd ((of_decide_eq_true e)▸hx) hb
   rw[this,Bool.false_or]at hk;have S:=sam b h0 hb;rw[S.1];exact L.ch S.2 (H.cs b h0 hk)
 ·intro m g2 hm hg2 hk;rw[hml]at hm;show dE sv.ts ((bK a.bs gr.bo sv.ps).getD (eW g2 0).toNat bF).c=_/\dE sv.ts ((bK a.bs gr.bo sv.ps).getD (eW g2 0).toNat bF).s=_
  by_cases e:m=a.ms.length
  ·subst e;rw[hg]at hg2;cases hg2;exact G.2 hk
  ·obtain⟨h1,h2⟩:=H.dr m g2 oz hg2 hk
   have hb:eW g2 0∈g2.bo:=by
    have:=(W.grp hg2).1;cases this with
    |drv=>exact mem_cons_self
    |rrr=>exact absurd hk (by simp)
    |pr=>exact absurd hk (by simp)
    |rp=>exact absurd hk (by simp)
   have h0:=((W.grp hg2).2.b _ hb).1;have S:=sam _ h0 (cz m g2 oz hg2 _ h0 (.inl hb));obtain⟨n1,n2,_⟩:=S.2;rw[S.1,<- L.low _ n1,<- L.low _ n2,h1,h2,L.q,L.q];exact⟨rfl,rfl⟩
 ·show(bK a.bs gr.bo sv.ps).getD (0:Int).toNat bF=kA
  have h0:(0:Int)∉gr.bo:=by
   refine old 0 ?_
   have hs:=mono a.ms.length 0 oz 0 oz (by
    show kn (cB l.bo.length 0) 0=true;rw[oM oz oz (by have:=(cW W.li).2.2.2;omega)];rfl)
   rwa [Nat.zero_add]at hs
  rw[(sam 0 oz h0).1];exact H.fr
end
end Go.Lw
namespace Go.Lw
theorem RK{F:Int->Bool}{sg:Bool}{f:Sv->List Aq×Nat}{b:Aq}:∀{S:List Sv},b∈(fm F sg f S).1->∃s∈S,b∈(f s).1:=by
 intro S h;obtain⟨s,hs,_,h2⟩:=AR h;exact⟨s,hs,h2⟩
theorem H7{l:Li}{xs:List Tn}{s g:Nat}(W:WkC l xs s g){F:Nat->Int->Bool}{sg:Bool}:∀(n:Nat)(a:Aq),WkSt l s g n a->WkH l xs a->∀b∈(ji F sg l xs (aN l) n a).1,WkSt l s g 0 b/\WkH l xs b
 |0,a,h,H,b,hb=>by rw[List.mem_singleton.1 hb];exact⟨h,H⟩
 |n+1,a,h,H,b,hb=>by
  obtain⟨gr,hg,_,hP,hn⟩:=h.next W;obtain⟨⟨j,r,E,y,Q,ok,hc⟩,hl⟩:=h;unfold ji at hb;rw[aD hg]at hb;split at hb
  ·cases hb
  ·obtain⟨sv,hsv,h2⟩:=RK hb;exact H7 W n _ (hn sv hsv) (WkH.step W hg Q H hsv) b h2
structure AqFin(l:Li)(xs:List Tn)(a:Aq):Prop where
  li:aB l=0
  lx:xs.length=l.dv.length
  xo:∀x∈xs,x.err=0/\Qb 1000 x.t.q/\x.t.ok
  tw:∃r,r<=400000000/\Tw a.ts r
  two:a.ts.length<=2
  bs:∀p∈a.bs,Pq.ok a.ts.length 3200000000 p
  ln:a.bs.length=l.bo.length
  lm:a.ms.length<=100
  js:∀j∈l.jo,JH l a.ts a.bs j
  cs:∀i,i<l.bo.length->CH a.ts (a.bs.getD i bF)
  dr:∀i d,l.dv[i]?=some d->dE a.ts (a.bs.getD d.body.toNat bF).c=qE (du (xs.getD i fF).half (xs.getD i fF).t.q)/\dE a.ts (a.bs.getD d.body.toNat bF).s=qE (dw (xs.getD i fF).half (xs.getD i fF).t.q)
  fr:a.bs.getD 0 bF=kA
theorem BS{f:Gr->List Int}:∀(gs:List Gr)(k:List Bool)(b:Int),kn (gs.foldl (fun k g=>bm k (f g)) k) b=true->kn k b=true\/∃g∈gs,∃x∈f g,x.toNat=b.toNat
 |[],k,b,h=>.inl h
 |g::gs,k,b,h=>by
  rw[foldl_cons]at h;rcases BS gs _ b h with h |⟨g',hg,x,hx,e⟩
  ·rcases yF _ h with h |⟨x,hx,e⟩
   ·exact .inl h
   ·exact .inr ⟨g,mem_cons_self,x,hx,e⟩
  ·exact .inr ⟨g',mem_cons_of_mem _ hg,x,hx,e⟩
theorem H5{k:List Bool}(h:(eD k).length=0){i:Nat}(hi:i<k.length):kn k (i:Int)=true:=by
 rw[vA]at h;unfold kn;rw[getD_eq_getElem?_getD,getElem?_eq_getElem (by omega:(i:Int).toNat<k.length)];show k[(i:Int).toNat]=true;cases hv:k[(i:Int).toNat]'oz with
 |true=>rfl
 |false =>
  exfalso;have hm:false∈k:=hv▸List.getElem_mem _;rw[<- List.contains_iff_mem]at hm;rw[hm]at h;cases h
theorem zR(f:Gr->List Int):∀(gs:List Gr)(k:List Bool),(gs.foldl (fun k g=>bm k (f g)) k).length=k.length
 |[],k=>rfl
 |g::gs,k=>by rw[foldl_cons,zR f gs,i9]
theorem Ui{l:Li}(hs:cm l=0):(eD (bM l)).length=0/\(eD (d7 l)).length=0/\aN l=cr l:=by
 have h9:(eD (bM l)).length+(eD (d7 l)).length=0:=by
  unfold cm at hs;split at hs
  ·assumption
  ·cases hs
 exact⟨by omega,by omega,by unfold aN;rw[if_pos hs]⟩
theorem Mi{l:Li}{xs:List Tn}{s g:Nat}(W:WkC l xs s g){a:Aq}(h:WkSt l s g 0 a)(H:WkH l xs a):AqFin l xs a:=by
 obtain⟨⟨j,r,E,y,Q,ok,_⟩,hl⟩:=h;obtain⟨hE,hr,hj⟩:=uE ok;obtain⟨r1,r2,r3⟩:=Ui W.sp;have h1:=Q.lv;have h4:=rQ W.li;refine⟨W.li,W.ln,fun x hx=>⟨(W.ok x hx).2.1,(W.ok x hx).2.2.1,(W.ok x hx).1⟩,⟨r,hr,Q.tw⟩,by omega,fun p hp=>(Q.bs p hp).up (le_refl _) Q.tw.five hE,Q.ln,by omega,?_,?_,?_,H.fr⟩
 ·intro jt hjt;obtain ⟨i,hi⟩:=List.getElem?_of_mem hjt;have hil:=(List.getElem?_eq_some_iff.1 hi).1;have hlen:(d7 l).length = l.jo.length:=by unfold d7; rw [zR Gr.jo,length_replicate]
  have hk:=H5 r2 (i:=i) oz;unfold d7 at hk;rcases BS (f:=Gr.jo) _ _ _ hk with h9 |⟨gr,hg,z,hz,e⟩
  ·rw[wU]at h9;cases h9
  ·rw[<- r3]at hg;obtain⟨m,hm⟩:=List.getElem?_of_mem hg;have hml:=(List.getElem?_eq_some_iff.1 hm).1;have hJ:=H.js m gr oz hm z hz;rw[e,toNat_natCast,aD hi]at hJ;exact hJ
 ·intro i hi;have hlen:(bM l).length = l.bo.length:=by unfold bM; rw [zR Gr.bo,ia]
  have hk:=H5 r1 (i:=i) oz
  have e:bM l=gL l (aN l) a.ms.length:=by
   unfold gL bM;rw[r3]at hl ⊢;rw[take_of_length_le oz]
  rw[e]at hk;have:=H.cs i oz hk
  rwa [toNat_natCast]at this
 ·intro i d hd;obtain ⟨gr,hg,hk,hb⟩:=Fo W.li W.sp d (mem_of_getElem? hd);obtain ⟨m,hm⟩:=List.getElem?_of_mem hg;have hml:=(List.getElem?_eq_some_iff.1 hm).1;have hD:=H.dr m gr oz hm hk;have eb:eW gr 0 = d.body:=by unfold eW; rw [hb]; rfl
  have hdy:=(W.grp hm).1
  have ed:gr.driver=(i:Int):=by
   cases hdy with
   | @drv b z dd jt x t d0 hd2 hxb =>
    have e2:x.body=d.body:=hxb.trans (by simpa using hb);rcases Nat.lt_trichotomy dd.toNat i with h9 |h9 |h9
    ·exact absurd e2 ((u7 W.li hd).2 _ x h9 hd2)
    ·show dd=(i:Int);omega
    ·exact absurd e2.symm ((u7 W.li hd2).2 _ d h9 hd)
   |rrr=>exact absurd hk (by simp)
   |pr=>exact absurd hk (by simp)
   |rp=>exact absurd hk (by simp)
  have et:cg gr xs=xs.getD i fF:=by unfold cg;rw[if_pos hk,ed,toNat_natCast]
  rw[eb,et]at hD;exact hD
theorem J7{l:Li}(hl:l.ok){xs:List Tn}(hL:jR l xs=true)(hxw:∀x∈xs,x.t.wok){A:List Aq}{e:Nat}(h:lF l xs=(A,e)):∀a∈A,AqFin l xs a:=by
 by_cases h0:cO l xs=0
 ·obtain⟨s,g,W,St⟩:=Bu hL hl hxw h0;have hb:=(cW W.li).2.2.2;have hw:=H7 W (F:=ki) (sg:=false) (aN l).length (fK l) St (OG l xs oz);unfold lF at h;rw[if_neg (fun h=>h h0)]at h;intro a ha;split at h
  ·cases h;cases ha
  ·have e1:(oh ki false l xs).1=A:=congrArg Prod.fst h;rw[<- e1]at ha;obtain⟨h1,h2⟩:=hw a ha;exact Mi W h1 h2
 ·unfold lF at h;rw[if_pos h0]at h;cases h;intro a ha;cases ha
open Go.Proofs
theorem wj{ts:LL}{r:Nat}(hr:r<=400000000)(h2:ts.length<=2):kB r ts.length<=1200000006:=by
 have h:=g9 r h2;have h3:eB r 2=3*r+6:=by simp only[eB];omega
 show eB r ts.length<=_;omega
theorem tW{ts:LL}(h2:ts.length<=2):lm ts.length=200000000000:=by unfold lm;rw[if_pos h2]
theorem Vc{ts:LL}{r:Nat}(tw:Tw ts r):FP 27 [aI ts,nS] (i64 (0:Nat)):=by
 have h:=H2 (ts.map (List.map rt)) r 0 tw.tr [] (fun x hx=>by cases hx) (zero_le _) (by show 0<=_;omega)
 have e:aV (ts.map (List.map rt)) []=0:=by
  unfold aV;rw[if_neg (by rw[tw.chk];simp)];rfl
 rw[e,gT]at h;exact Con.sA (.cons (.refl _) (.cons (Sub.nil 1 none 0) .nil)) h
theorem Sd{ts:LL}{r e:Nat}(tw:Tw ts r){p:Pq}(hp:Pq.ok ts.length e p)(he:e<=lm ts.length):FP 27 [aI ts,.lst 1 [nA p.c,nA p.s,nA p.x,nA p.y]] (i64 (0:Nat)):=by
 have h:=H2 (ts.map (List.map rt)) r e tw.tr p.pl.l (hp.nr he) (by rw[length_map];exact he) (by show 4<=_;omega)
 have e0:aV (ts.map (List.map rt)) p.pl.l=0:=by
  unfold aV;rw[if_neg (by rw[tw.chk];simp),length_map];exact oA (fun x hx=>hp.num x hx)
 have e1:p.pl.l.map nR=[nA p.c,nA p.s,nA p.x,nA p.y]:=by
  unfold Pl.l Pq.pl;simp only[map_cons,map_nil,df]
 rw[e0,gT,e1]at h;exact h
section
variable{l:Li}{xs:List Tn}{a:Aq}(F:AqFin l xs a)
include F
theorem xJ(hl:l.ok){body pt:Int}(h1:bn body l.bo.length=true)(h2:bn pt (cH l body).length=true) :
  Nm a.ts.length 12100000000 (sX (a8 l a.ts a.bs body pt).1)/\Nm a.ts.length 12100000000 (sX (a8 l a.ts a.bs body pt).2):=by
 obtain⟨n,k,bd,m,h⟩:=qS hl F.li h1 h2;obtain⟨r,hr,tw⟩:=F.tw;have hk:=wj hr F.two;obtain⟨p,hp⟩:=aw (l:=a.bs) (i:=n) (by rw[F.ln];exact(List.getElem?_eq_some_iff.1 h.gbd).1);have po:=F.bs p (mem_of_getElem? hp);have e:body.toNat=n:=by have:=h.hn;omega
 have hb:Pq.ok a.ts.length 3200000000 ⟨lq p.pl.c,lq p.pl.s,lq p.pl.x,lq p.pl.y⟩:=by
  unfold Pq.pl;dsimp only;rw[cV,cV,cV,cV];exact po
 have hq:=I7 tw hb h.sm;unfold Pq.pl at hq;dsimp only[jq]at hq;rw[cV,cV,cV,cV]at hq;unfold a8;rw[e,aD hp];exact⟨hq.1.mono oz,hq.2.mono oz⟩
theorem Dp{j:Jt}(hj:JH l a.ts a.bs j)(hk:j.kind=0):gG a.ts (a8 l a.ts a.bs j.a j.point).1 (a8 l a.ts a.bs j.b j.on).1=true/\gG a.ts (a8 l a.ts a.bs j.a j.point).2 (a8 l a.ts a.bs j.b j.on).2=true:=by
 have _:=F;unfold JH at hj;rw[if_pos hk]at hj;exact⟨decide_eq_true hj.1,decide_eq_true hj.2⟩
theorem Qi{j:Jt}(hj:JH l a.ts a.bs j)(hk:j.kind≠0):T.sgn (aj a.ts) a.ts.length (vF a.ts (a8 l a.ts a.bs j.b j.on).1 (a8 l a.ts a.bs j.b j.on).2 (a8 l a.ts a.bs j.b j.to).1 (a8 l a.ts a.bs j.b j.to).2 (a8 l a.ts a.bs j.a j.point).1 (a8 l a.ts a.bs j.a j.point).2)=0:=by
 have _:=F;unfold JH at hj;rw[if_neg hk]at hj;exact hj
theorem Ti{p:Pq}(hp:p∈a.bs)(hc:CH a.ts p):∃L:List Rat,FP 24 [aI a.ts,.agg [nA p.c,nA p.s],.agg [nA p.c,nA p.s]] (nA L) /\
  FP 23 [aI a.ts,nA L,nA (sh 0 (((1:Int):Rat):Rat))] (bl true):=by
 obtain⟨r,hr,tw⟩:=F.tw;have hk:=wj hr F.two;have hlm:=tW F.two;have po:=F.bs p hp;have nd:=AD tw po.c po.s po.c po.s;have n1:=Nm.ofQ tw.five (Cb.int (z:=1) (e:=1) (by decide));have e1:=lZ tw nd n1 oz;rw[a6,jK]at e1;have e:gG a.ts (mj a.ts (ad a.ts.length p.c) (ad a.ts.length p.s) (ad a.ts.length p.c) (ad a.ts.length p.s)) (T.ofQ a.ts.length (((1:Int):Rat):Rat))=true:=decide_eq_true hc;rw[e]at e1;exact⟨_,Lj tw po.c po.s po.c po.s oz,e1⟩
theorem Nr{i:Nat}{d:Dr}(hd:l.dv[i]?=some d){x:Tn}(hx:xs[i]?=some x)(hq:Qb 1000 x.t.q){p:Pq}(hp:a.bs[d.body.toNat]?=some p) :
  FP 23 [aI a.ts,nA p.c,nA (sh 0 (du x.half x.t.q:Rat))] (bl true)/\FP 23 [aI a.ts,nA p.s,nA (sh 0 (dw x.half x.t.q:Rat))] (bl true):=by
 obtain⟨r,hr,tw⟩:=F.tw;have hlm:=tW F.two;have po:=F.bs p (mem_of_getElem? hp);have h:=F.dr i d hd;rw[aD hp,aD hx]at h;have n1:=Nm.ofQ tw.five (Cb.one (DM x.half hq));have n2:=Nm.ofQ tw.five (Cb.one (HR x.half hq));have e1:=lZ tw po.c n1 oz;have e2:=lZ tw po.s n2 oz;rw[jK]at e1 e2;have g1:ad a.ts.length p.c=T.ofQ a.ts.length (du x.half x.t.q):=h.1;have g2:ad a.ts.length p.s=T.ofQ a.ts.length (dw x.half x.t.q):=h.2;rw[g1,mR]at e1;rw[g2,mR]at e2;exact⟨e1,e2⟩
end
theorem Ot{l:Li}{xs:List Tn}{A:List Aq}{e:Nat}(h:lF l xs=(A,e))(he:e≠0):A=[]:=by
 unfold lF at h;split at h
 ·exact(congrArg Prod.fst h).symm
 ·split at h
  ·exact(congrArg Prod.fst h).symm
  ·rename_i h1 h2;exact absurd (congrArg Prod.snd h) (fun h9=>h2 (by rw[h9];exact he))
theorem RW{l:Li}{xs:List Tn}{A:List Aq}{e:Nat}(h:lF l xs=(A,e))(he:e=0):cO l xs=0:=by
 unfold lF at h;split at h
 ·rename_i h1;exact absurd ((congrArg Prod.snd h).trans he) h1
 ·rename_i h1;exact Decidable.not_not.1 h1
theorem IW{x:Tn}(ho:x.t.ok)(he:x.err=0):x=⟨rt x.t.q,x.half⟩:=by
 have h:=Rt.eq_rt ho (Tn.ok_valid he);cases x;dsimp only at h ⊢;rw[<- h]
structure AsmS(l:Li)(xs:List Tn)(A:List Aq)(e:Nat):Prop where
  eq:lF l xs=(A,e)
  all:FP 33 [l.av,.lst 4 (xs.map Tn.av)] (.tup [.lst 3 (A.map Aq.av),bp e])
  ln:A.length<=1000
theorem Pf{l:Li}(hl:l.ok){xs:List Tn}(hL:jR l xs=true)(hxw:∀x∈xs,x.t.wok):∃A e,AsmS l xs A e:=by
 obtain⟨_,hx20,hxo⟩:=At hL hxw;have hop:=FN l hl xs hxo oz
 by_cases h0:cO l xs=0
 ·obtain ⟨s, g, W, St⟩:=Bu hL hl hxw h0;have hsl:=rQ W.li;have hlb:=(cW W.li).2.2.2;have hp:2 ^ (aN l).length <= 256:=le_trans (b8 (b:=8) oz) (by decide);have hw:=AA W ki false (fo:=189) (caps:=[]) (fun k m _=>C8 k m) (aN l).length (fK l) St [] (by simp only [length_nil]; omega);have hA:=Dx h0 hop oz oz (R:=oh ki false l xs) hw;have hlen:=ym W ki false (aN l).length (fK l) St;refine ⟨_,_,⟨?_,hA,?_⟩⟩
  ·unfold lF;rw[if_neg (fun h=>h h0)]
   by_cases hE:(oh ki false l xs).2≠0
   ·rw[if_pos hE,if_pos hE]
   ·rw[if_neg hE,if_neg hE]
  ·split
   ·exact zero_le _
   ·exact le_trans hlen oz
 ·have hA:=Qj h0 hop;refine⟨[],cO l xs,⟨?_,hA,zero_le _⟩⟩;unfold lF;rw[if_pos h0]
theorem KQ{p:Bool}{e:Nat}(h:cond (cond (!true) true (!p)) true (aa .neq (e:Int) 0)=false):p=true/\e=0:=by
 cases p
 ·simp at h
 ·exact⟨rfl,fI h⟩
theorem JB{l:Li}{xs:List Tn}{a:Aq}(F:AqFin l xs a):FP 35 [l.av,a.av] (bl true):=by
 have hln:=F.ln;obtain⟨r,hr,tw⟩:=F.tw;have hlm:=tW F.two;have hbl:=(cW F.li).2.2.2.1;refine af func35 ?_;refine gc (Vc tw) ?_;refine ci ?_;refine ci ?_;refine gC (fun t19=>?_) (fun t19=>?_) (st1:=(2,0));exact absurd (congrArg (Nat.cast (R:=Int)) hln) (by simpa[aa]using t19);refine gl ?_;refine aM [2,3,4,21,22] [2,3] (fun(i:Nat)=>[(23,some (i64 i))]) (fun _=>[]) (fun i=>i<=a.bs.length) (fun i=>a.bs.length-i) 0 (zero_le _) ?_;rintro i hi K1 J1;refine gC (fun t24=>?_) (fun t24=>?_)
 ·have hin:=aW t24;obtain⟨b,hb⟩:=aw hin;have hbm:=mem_of_getElem? hb;refine gi (ax hb) ?_;refine gc (Sd tw (F.bs b hbm) oz) ?_;refine gC (fun t39=>?_) (fun t39=>?_) (st1:=(7,0));cases t39;refine ga aH ?_;exact aG J1 (i+1) hin
 refine ae ?_
 first |rfl |(simp;done)
theorem x5{l:Li}(hl:l.ok){xs:List Tn}{a:Aq}(F:AqFin l xs a){body pt:Int}(h1:bn body l.bo.length=true)(h2:bn pt (cH l body).length=true) :
  FP 80 [l.av,a.av,i64 body,i64 pt] (aA (sX (a8 l a.ts a.bs body pt).1) (sX (a8 l a.ts a.bs body pt).2)):=by
 obtain⟨n,k,bd,m,h⟩:=qS hl F.li h1 h2;obtain⟨r,hr,tw⟩:=F.tw;have hkb:=wj hr F.two;have hlm:=tW F.two;have hlb:=(cW F.li).2.2.2.1;obtain⟨p,hp⟩:=aw (l:=a.bs) (i:=n) (by rw[F.ln];exact(List.getElem?_eq_some_iff.1 h.gbd).1);have po:=F.bs p (mem_of_getElem? hp);have hn:=h.hn;have hk:=h.hk
 have e:a8 l a.ts a.bs body pt=fA a.ts p (a5 l body pt):=by
  unfold a8;rw[hn,toNat_natCast,aD hp]
 have hat:FP 166 [aI a.ts,p.av,m.x.av,m.y.av] (aA (sX (a8 l a.ts a.bs body pt).1) (sX (a8 l a.ts a.bs body pt).2)):=by
  rw[h.ex,h.ey,e];exact Uo tw po.c po.s po.x po.y (h.sm.x.mono oz) (h.sm.y.mono oz) oz
 have gb:=h.gbd;have gm:=h.gm;clear h h1 h2 e;subst hn;subst hk;refine af func80 ?_;refine gi (ax gb) ?_;refine gi (ax gm) ?_;refine gi (ax hp) ?_;refine gc hat ?_;refine gD ?_;refine ae ?_
 first |rfl |(simp;done)
theorem Ji{l:Li}(hl:l.ok){xs:List Tn}{a:Aq}(F:AqFin l xs a){i:Nat}{j:Jt}(hj:l.jo[i]?=some j):FP 22 [l.av,a.av,j.av] (bl true):=by
 obtain⟨r,hr,tw⟩:=F.tw;have hkb:=wj hr F.two;have hlm:=tW F.two;obtain⟨i1,i2,i3,i4,i5⟩:=dZ F.li hj;have hJ:=F.js j (mem_of_getElem? hj);have np:=xJ F hl i1 i3;have nq:=xJ F hl i2 i4;refine af func22 ?_;refine gc (x5 hl F i1 i3) ?_;refine gc (x5 hl F i2 i4) ?_;refine gC (fun t25=>?_) (fun t25=>?_)
 ·have hk:j.kind=0:=cT t25;have hsame:=Ea tw np.1 np.2 nq.1 nq.2 oz;rw[show ad a.ts.length (sX (a8 l a.ts a.bs j.a j.point).1)=_ from a6 _ _,show ad a.ts.length (sX (a8 l a.ts a.bs j.a j.point).2)=_ from a6 _ _,show ad a.ts.length (sX (a8 l a.ts a.bs j.b j.on).1)=_ from a6 _ _,show ad a.ts.length (sX (a8 l a.ts a.bs j.b j.on).2)=_ from a6 _ _,(Dp F hJ hk).1,(Dp F hJ hk).2]at hsame;refine gc hsame ?_;refine ae ?_;rfl
 have hk:j.kind≠0:=d5 t25;have nr:=xJ F hl i2 (i5 hk);have hor:=LS tw nq.1 nq.2 nr.1 nr.2 np.1 np.2 oz;rw[show ad a.ts.length (sX (a8 l a.ts a.bs j.a j.point).1)=_ from a6 _ _,show ad a.ts.length (sX (a8 l a.ts a.bs j.a j.point).2)=_ from a6 _ _,show ad a.ts.length (sX (a8 l a.ts a.bs j.b j.on).1)=_ from a6 _ _,show ad a.ts.length (sX (a8 l a.ts a.bs j.b j.on).2)=_ from a6 _ _,show ad a.ts.length (sX (a8 l a.ts a.bs j.b j.to).1)=_ from a6 _ _,show ad a.ts.length (sX (a8 l a.ts a.bs j.b j.to).2)=_ from a6 _ _,Qi F hJ hk]at hor
 refine gc (x5 hl F i2 (i5 hk)) ?_;refine gc hor ?_;refine gD ?_;refine ae ?_;rfl
theorem Uj(l:Li)(hw:l.okw)(xs:List Tn)(hxw:∀x∈xs,x.t.wok)(hxl:xs.length<=281474976710656):FP 5 [l.av,.lst 4 (xs.map Tn.av)] (bl true):=by
 refine af func5 ?_;refine gc Dh ?_;refine bI (fun _=>(LF l hw xs hxl)) ?_;refine bI (fun h=>(Cn l (uH (At (TQ h) hxw).1 hw))) ?_;refine gC (fun t29=>?_) (fun t29=>?_)
 ·refine gc Dh ?_;refine ae ?_
  first |rfl |(simp;done)
 obtain⟨h1,hli⟩:=KQ t29;obtain⟨g1,hx20,hxo⟩:=At h1 hxw;have hl:=uH g1 hw;obtain⟨A,e,P⟩:=Pf hl h1 hxw;have FF:=J7 hl h1 hxw P.eq;have hAl:=P.ln;refine gc P.all ?_;refine gC (fun t38=>?_) (fun t38=>?_)
 ·have he:e≠0:=de t38;have hA:=Ot P.eq he;subst hA;refine gl ?_;refine ae ?_;rfl
 have he:e=0:=cQ t38;have hop:=RW P.eq he;have hB:=TL l hl hli xs hxo oz;rw[hop]at hB;refine gc hB ?_;refine gC (fun t45=>?_) (fun t45=>?_) (st1:=(7,0));cases t45;refine gl ?_;refine aM [1,2,46,47] [2] (fun(i:Nat)=>[(48,some (i64 i))]) (fun _=>[]) (fun i=>i<=A.length) (fun i=>A.length-i) 0 (zero_le _) ?_;rintro i hi K1 J1;refine gC (fun t49=>?_) (fun t49=>?_)
 ·have hin:=aW t49;obtain ⟨a,ha⟩:=aw hin;have F:=FF a (mem_of_getElem? ha);obtain ⟨r,hr,tw⟩:=F.tw;have hbp:=(cW F.li).2.2.2;have hln:=F.ln;have hjd:=hl.lj;have hdd:=hl.ld;obtain ⟨p0,hp0⟩:=aw (l:=a.bs) (i:=0) oz;have ep0:p0 = kA:=by have:=F.fr; rwa [aD hp0] at this
  subst ep0;have hpF:=F.bs kA (mem_of_getElem? hp0);refine gi (ax ha) ?_;refine gc (JB F) ?_;refine ka (fun _=>(ax hp0)) ?_;refine bI (fun _=>Sp) ?_;refine bI (fun _=>(TN tw F.two (hpF.up (le_refl _) tw.five oz))) ?_;refine gD ?_;refine gC (fun t66=>?_) (fun t66=>?_) (st1:=(12,0));cases t66;refine gl ?_;refine aM [1,2,46,47,48,8,68,69] [2,8] (fun(j:Nat)=>[(70,some (i64 j))]) (fun _=>[]) (fun j=>j<=l.jo.length) (fun j=>l.jo.length-j) 0 (zero_le _) ?_;rintro j hj K2 J2;refine gC (fun t71=>?_) (fun t71=>?_)
  ·have hjn:=aW t71;obtain⟨jt,hjt⟩:=aw hjn;refine gi (ax hjt) ?_;refine gc (Ji hl F hjt) ?_;refine gC (fun t78=>?_) (fun t78=>?_) (st1:=(17,0));cases t78;refine ga aH ?_;exact aG J2 (j+1) hjn
  refine gl ?_;refine aM [1,2,46,47,48,8,81,82] [2,8] (fun(j:Nat)=>[(83,some (i64 j))]) (fun _=>[]) (fun j=>j<=a.bs.length) (fun j=>a.bs.length-j) 0 (zero_le _) ?_;rintro j hj K3 J3;refine gC (fun t84=>?_) (fun t84=>?_)
  ·have hjn:=aW t84;obtain⟨p,hp⟩:=aw hjn;have hch:=F.cs j oz;rw[aD hp]at hch;obtain⟨L,hD,hE⟩:=Ti F (mem_of_getElem? hp) hch;refine gi (ax hp) ?_;refine gc hD ?_;refine gc (Jh 1 oz) ?_;refine gc hE ?_;refine gD ?_;refine gC (fun t101=>?_) (fun t101=>?_) (st1:=(24,0));cases t101;refine ga aH ?_;exact aG J3 (j+1) hjn
  refine gl ?_;refine aM [1,2,46,47,48,8,104,105] [2,8] (fun(j:Nat)=>[(106,some (i64 j))]) (fun _=>[]) (fun j=>j<=l.dv.length) (fun j=>l.dv.length-j) 0 (zero_le _) ?_;rintro j hj K4 J4;refine gC (fun t107=>?_) (fun t107=>?_)
  ·have hjn:=aW t107;obtain⟨d,hd⟩:=aw hjn;have hdb:=dj (lc hli hd);obtain⟨p,hp⟩:=aw (l:=a.bs) (i:=d.body.toNat) oz;obtain⟨x,hx⟩:=aw (l:=xs) (i:=j) (by rw[F.lx];omega);have hxm:=mem_of_getElem? hx;obtain⟨hxe,hxq,hxk⟩:=F.xo x hxm;have hxt:x=⟨rt x.t.q,x.half⟩:=IW hxk hxe;obtain⟨g1,g2⟩:=Nr F hd hx hxq hp;have hc:=M4 x.half hxq oz;have hs:=Ku x.half hxq oz;rw[<- hxt]at hc hs;refine gi (ax hd) ?_;refine gi (ax hp) ?_;refine gi (ax hx) ?_;refine gc hc ?_;refine gc (pc ((DM x.half hxq).qs oz)) ?_;refine gc g1 ?_;refine ka (fun _=>(ax hx)) ?_;refine bI (fun _=>hs) ?_;refine bI (fun _=>(pc ((HR x.half hxq).qs oz))) ?_;refine bI (fun _=>g2) ?_;refine gD ?_;refine gC (fun t142=>?_) (fun t142=>?_) (st1:=(31,0));cases t142;refine ga aH ?_;exact aG J4 (j+1) hjn
  refine ga aH ?_;exact aG J1 (i+1) hin
 refine ae ?_;rfl
open Go.Proofs Go.Proofs.YtlilpljpajeafaaGreat
open Go.ChangeShapes Go.WideShapes Go.ChangeAt Go.RowKit
set_option maxRecDepth 100000 in
theorem U7(os:Os)(started:os.Started)(H:Type)(enc:TypeId×Value->H) :
  ReturnsInHanded {} Tryz.checked os 5 .any (Rows.assembleHoldsSpec.pre6 enc prog Tryz.f5 Rows.assembleHoldsRow.domain false) (Rows.assembleHoldsSpec.post enc prog Tryz.f5 false true false false):=by
 refine returnsInHanded_of_change_sized (C := Tryz.checked) own started (by kernel_rfl) func5
  (ChangeSpec.witness6 (enc:=enc) (C:=Tryz.checked) false ⟨#[],#[.agg #[.string ⟨#[]⟩,.slice none 0 0,.slice none 0 0,.slice none 0 0],.slice none 0 0],[]⟩ 8 (by kernel_rfl) (by kernel_rfl) (by kernel_rfl) (by kernel_rfl)) ?_
 intro W base args ds gs before hval0 hW hcnd hwt0 _;have hval:∀(j:Nat) t v,Tryz.f5.params[j]?=some t->args[j]?=some v->Value.okWide prog W .any base t v:=hval0;have hwt:(DataW.weightsEach prog (Tryz.f5.params.toList++Rows.assembleHoldsSpec.plain.varTypes prog) (ds++gs)).all (· <= reachBytes)=true:=hwt0;have hW':=hW;obtain⟨p,q,hA0,hV,rfl,hfz,hnd⟩:=hW;have hA:DataW.TrodAll enc prog W 0 (fun _=>true) true Tryz.f5.params.toList args.toList ds p:=hA0;rw[Tryz.params5]at hA hval hwt;obtain⟨v0,v1,d0,d1,p0,p1,rfl,rfl,rfl,h0,h1⟩:=trodAll_two hA;obtain⟨rfl,rfl⟩:=trodVars_none hV;clear hA0 hval0 hwt0;have hlt:∀x∈p0++p1,x.block<W.heap.size:=fun x hx=>hW'.lt x (by simpa using hx)
 have hw0:∀n∈d0.weights prog 26,n<=reachBytes:=fun n hn=>by
  have:=List.all_eq_true.1 hwt n (DataW.weights_mem_each (j:=0) rfl rfl n hn);simpa using this
 have hw1:∀n∈d1.weights prog 84,n<=reachBytes:=fun n hn=>by
  have:=List.all_eq_true.1 hwt n (DataW.weights_mem_each (j:=1) rfl rfl n hn);simpa using this
 obtain⟨x0,q0,r0⟩:=Ov Tryz.underlying26 KU (hval 0 26 v0 rfl rfl) h0 hw0;obtain⟨x1,q1,r1⟩:=IR IK (fun _=>rfl) (P6 Tryz.underlying84 (hval 1 84 v1 rfl rfl)) h1 hw1
 have hc:=iW.calls (W:=W) (vs:=#[v0,v1]) (Uj x0 q0 x1 q1.1 q1.2) rfl (fun j v x hv hx=>by
  match j,hv,hx with
  |0,hv,hx=>cases hv;cases hx;exact r0
  |1,hv,hx=>cases hv;cases hx;exact r1)
 refine hc.mono fun e W' ⟨he,hb⟩=>?_
 subst he;refine⟨_,rfl,SX hW' rfl rfl (fun _ _ _=>trodAll_mk1 (shut_bool Tryz.underlying4 _)) (fun sp hsp=>?_) rfl hb (ok_one (by kernel_rfl) rfl (okWide_bool_mk Tryz.underlying4 _))⟩;rw[Tryz.params5];have hs:∀x∈p0++p1,sp x.block=true:=fun x hx=>hsp x (by simpa using hx)
 have g0:=GY (sp':=sp) (by kernel_rfl) (of_decide_eq_true (by kernel_rfl)) h0 hb (fun x hx=>hlt x (by simp[hx])) (fun x hx=>hs x (by simp[hx]));have g1:=GY (sp':=sp) (by kernel_rfl) (of_decide_eq_true (by kernel_rfl)) h1 hb (fun x hx=>hlt x (by simp[hx])) (fun x hx=>hs x (by simp[hx]));have g:=trodAll_mk2 g0 g1;rw[show p0++p1++[]=p0++p1 from by simp];exact g
set_option maxRecDepth 100000 in
theorem IX:prog.closure 5=[5,30,55,127,234,85,175,282,362,176,174,195,292,364,293,279,280,360,390,365,392,295,391,294,281,361,393,296,33,99,135,238,118,211,313,368,369,395,212,215,316,318,372,374,371,389,396,397,346,398,399,402,400,401,352,248,247,317,320,373,213,314,315,370,319,332,378,214,334,379,403,411,405,414,415,413,380,404,412,407,406,381,239,335,119,216,189,101,142,246,350,351,376,377,126,233,331,232,326,269,330,100,190,287,288,191,17,61,121,227,228,327,273,357,274,358,355,272,244,348,136,240,336,137,242,347,241,337,343,387,338,382,339,383,384,340,385,386,408,341,342,344,345,138,243,62,139,245,252,349,388,409,140,141,159,88,86,177,54,178,231,164,328,229,163,230,329,160,179,122,143,158,251,77,161,124,125,68,153,271,356,74,162,72,75,144,63,67,155,146,145,249,353,250,70,147,156,262,263,264,267,157,53,123,265,260,256,266,257,253,254,255,354,258,259,261,151,268,270,148,154,64,71,87,149,65,78,165,73,79,76,150,152,192,289,48,52,93,37,103,194,193,290,291,363,196,104,197,297,81,23,83,169,89,180,277,170,182,283,278,181,183,105,171,172,199,31,57,32,95,185,285,284,286,96,186,97,187,188,51,107,98,15,59,131,60,132,236,133,237,333,134,94,184,34,102,35,27,90,36,20,22,80,166,202,29,92,276,359,84,173,275,82,168,167,28,91,24,25,38,108,106,198,298,39]:=by kernel_rfl
theorem Kk:joinedFacts prog 5 Tryz.f5 Rows.assembleHoldsSpec Rows.assembleHoldsRow=true:=by
 unfold joinedFacts Program.recurses Program.inPlace Program.unfollowed Program.varsNamed;rw[IX,Bq,Us,S5,I5,NY,Ko]
 kernel_rfl
theorem assembleHolds_holds:Rows.AssembleHoldsSaid :=
 OpenClaim.holds_of_wide 5 Tryz.f5 rfl rfl rfl rfl rfl rfl rfl ⟨rfl, rfl, rfl, rfl, rfl⟩ rfl rfl rfl rfl rfl (by kernel_rfl) func5 Kk
  (of_decide_eq_true (by kernel_rfl)) (by unfold Func.isWrapper;first |(rw[if_pos (by decide +kernel)];kernel_rfl) |(rw[if_neg (by decide +kernel)];exact⟨rfl,rfl⟩))
  (fun os started H enc _=>U7 os started H enc)
end Go.Lw
namespace Go.Proofs.YtlilpljpajeafaaGreat
theorem assembleHolds_proved:Rows.AssembleHoldsSaid:=Go.Lw.assembleHolds_holds
end Go.Proofs.YtlilpljpajeafaaGreat
