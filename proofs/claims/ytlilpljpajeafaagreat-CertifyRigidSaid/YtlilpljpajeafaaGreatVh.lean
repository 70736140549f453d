/- CertifyRigid: for any linkage, any turns and any three places the law returns true and leaves its arguments as they were. No other condition. Part 8 of 8: the statement -/
import Derived.Test.YtlilpljpajeafaaGreatVg
set_option linter.unusedVariables false
open List (mem_of_getElem? mem_cons_of_mem mem_append mem_cons length_cons foldl_cons mem_cons_self length_nil getD_eq_getElem?_getD all_eq_true getElem?_map append_assoc getElem?_eq_getElem append_nil map_append length_take take_of_length_le drop_zero take_length not_mem_nil length_map length_replicate)
open Nat (le_refl lt_or_ge le_trans zero_le)
open Option (map_eq_some_iff)
open Bool (and_eq_true)
open Int (toNat_natCast)
open Go.Proofs.Tryz
namespace Go.Lw
open Lean.Grind (CommRing)
structure Nxt(l:Li)(kw:List Bool)(g:Gr):Prop where
  b:∀x∈g.bo,kn kw x=false
  j:∀z∈g.jo,∀j,l.jo[z.toNat]?=some j->(j.a∈g.bo\/kn kw j.a=true)/\(j.b∈g.bo\/kn kw j.b=true)
theorem tg{l:Li}{kind b:Int}{kw:List Bool}{bs:List Int}(hb:b∈bs)(h:0<=bS l kind b kw){j:Jt}(hj:l.jo[(bS l kind b kw).toNat]?=some j) :
  (j.a∈bs\/kn kw j.a=true)/\(j.b∈bs\/kn kw j.b=true):=by
 obtain⟨i,j',e,h1,_,h2⟩:=vV h;rw[e,toNat_natCast,h1]at hj;cases hj;rcases h2 with⟨e1,e2⟩ |⟨e1,e2⟩
 ·exact⟨.inl (e1▸hb),.inr e2⟩
 ·exact⟨.inr e2,.inl (e1▸hb)⟩
theorem LX{l:Li}(hl:aB l=0){kw:List Bool}{g:Gr}(h:bY l kw=some g):Nxt l kw g:=by
 unfold bY at h;cases h1:dm l kw with
 |some g' =>
  rw[h1]at h;cases h;unfold dm at h1;rw[map_eq_some_iff]at h1;obtain⟨i,hi,rfl⟩:=h1;obtain⟨h1,h2⟩:=fa hi;unfold fL at h2;simp only[Bool.not_eq_false',and_eq_true,decide_eq_true_eq,Bool.not_eq_true']at h2;refine⟨wQ h2.1,fun z hz j hj=>?_⟩;rw[List.mem_singleton.1 hz]at hj;exact tg (by simp) h2.2 hj
 |none =>
  rw[h1]at h;cases h2:cM l kw with
  |some g' =>
   rw[h2]at h;cases h;have hf:=Co h2;unfold cM at h2;rw[map_eq_some_iff]at h2;obtain⟨i,hi,h3⟩:=h2;obtain⟨_,h4⟩:=fa hi;split at h3
   ·rename_i k hk;subst h3;unfold f6 at hk;rw [map_eq_some_iff] at hk;obtain ⟨k',hk',rfl⟩:=hk;obtain ⟨h5,h6⟩:=fa hk';rw [show i + 1 + k' = k' + (i + 1) by omega] at h6;unfold dB at h6;simp only [Bool.not_eq_false',and_eq_true,decide_eq_true_eq] at h6;obtain ⟨_,⟨j1,j2⟩,j3⟩:=h6;refine ⟨fun x hx=>pP (hf x hx),fun z hz j hj=>?_⟩;simp only [gz,mem_cons,not_mem_nil,or_false] at hz;rcases hz with rfl | rfl | rfl
    ·exact tg (by simp[gz]) j1 hj
    ·exact tg (by simp[gz]) j2 hj
    ·obtain⟨n,a2,e,hj2,hkd,ht⟩:=vV j3;rw[e,toNat_natCast,hj2]at hj;cases hj;obtain⟨i1,i2,_⟩:=d7 hl hj2;have i1:=(dq i1).1;have i2:=(dq i2).1;rcases ht with⟨e1,e2⟩ |⟨e1,e2⟩
     ·rw[nZ i2 oz oz]at e2;have e2:=of_decide_eq_true e2;exact⟨.inl (by simp[gz,e1]),.inl (by simp[gz,e2])⟩
     ·rw[nZ i1 oz oz]at e2;have e2:=of_decide_eq_true e2;exact⟨.inl (by simp[gz,e2]),.inl (by simp[gz,e1])⟩
   ·rename_i hk;rw[hk]at h4;cases h4
  |none =>
   rw[h2]at h;have hf:=GI (show dY l kw=some g from h);have h3:dY l kw=some g:=h;unfold dY at h3;rw[map_eq_some_iff]at h3;obtain⟨i,hi,rfl⟩:=h3;obtain⟨_,h4⟩:=fa hi;unfold fw at h4;simp only[Bool.not_eq_false',and_eq_true,decide_eq_true_eq]at h4;obtain⟨_,j1,j2⟩:=h4;refine⟨fun x hx=>pP (hf x hx),fun z hz j hj=>?_⟩;simp only[hO,mem_cons,not_mem_nil,or_false]at hz;rcases hz with rfl |rfl
   ·exact tg (by simp[hO]) j1 hj
   ·exact tg (by simp[hO]) j2 hj
def Ar(l:Li):List Bool->List Gr->Prop
  |_,[]=>True
  |kw,g::gs=>Nxt l kw g/\Ar l (bi kw g.bo) gs
theorem Dd{l:Li}(hl:aB l=0):∀(n:Nat)(kw:List Bool)(out:List Gr),∃gs,(cm l n kw out).2=out++gs/\Ar l kw gs
 |0,kw,out=>⟨[],(append_nil _).symm,trivial⟩
 |n+1,kw,out=>by
  unfold cm;cases hg:bY l kw with
  |none=>exact⟨[],(append_nil _).symm,trivial⟩
  |some g =>
   obtain⟨gs,e,h⟩:=Dd hl n (bi kw g.bo) (out++[g]);refine⟨g::gs,?_,LX hl hg,h⟩;show(cm l n (bi kw g.bo) (out++[g])).2=_;rw[e,append_assoc];rfl
def gQ(l:Li)(gs:List Gr)(m:Nat):List Bool:=(gs.take m).foldl (fun k g=>bi k g.bo) (cz l.bo.length 0)
theorem Eb{l:Li}:∀(gs:List Gr)(kw:List Bool),Ar l kw gs->∀(m:Nat)(g:Gr),gs[m]?=some g->Nxt l ((gs.take m).foldl (fun k g=>bi k g.bo) kw) g
 |[],kw,h,m,g,hg=>by simp at hg
 |g0::gs,kw,h,0,g,hg=>by
  rw[List.getElem?_cons_zero]at hg;cases hg;exact h.1
 |g0::gs,kw,h,m+1,g,hg=>by
  rw[List.getElem?_cons_succ]at hg;exact Eb gs _ h.2 m g hg
theorem MG(l:Li)(gs:List Gr)(m:Nat):(gQ l gs m).length=l.bo.length:=by
 have:∀(gs:List Gr)(k:List Bool),(gs.foldl (fun k g=>bi k g.bo) k).length=k.length:=by
  intro gs
  induction gs with
  |nil=>intro k;rfl
  |cons g gs ih=>intro k;rw[foldl_cons,ih,jc]
 unfold gQ;rw[this,gM]
theorem V8{l:Li}{gs:List Gr}{m:Nat}{g:Gr}(hg:gs[m]?=some g):gQ l gs (m+1)=bi (gQ l gs m) g.bo:=by
 unfold gQ;rw[List.take_add_one,hg,List.foldl_append];rfl
theorem BK{l:Li}{gs:List Gr}{m:Nat}{g:Gr}(hg:gs[m]?=some g)(ok:GrOk l g){b:Int}(h0:0<=b):kn (gQ l gs (m+1)) b=(g.bo.any (fun x=>decide (x=b))||kn (gQ l gs m) b):=by
 rw[V8 hg,Bb h0 (fun x hx=>by rw[MG];exact ok.b x hx)]
theorem GC{l:Li}(hl:aB l=0)(hs:cH l=0){m:Nat}{g:Gr}(hg:(aN l)[m]?=some g):Nxt l (gQ l (aN l) m) g:=by
 obtain⟨gs,e,h⟩:=Dd hl l.bo.length (cz l.bo.length 0) []
 have e2:aN l=gs:=by
  unfold aN cr;rw[if_pos hs,e];rfl
 rw[e2]at hg ⊢;exact Eb gs _ h m g hg
theorem Fh:∀(zs:List (Int×Pq))(bs:List Pq)(b:Int),(∀z∈zs,0<=z.1/\z.1≠b)->0<=b->(zs.foldl (fun k x=>k.set x.1.toNat x.2) bs).getD b.toNat bp=bs.getD b.toNat bp
 |[],bs,b,h,h0=>rfl
 |z::zs,bs,b,h,h0=>by
  rw[foldl_cons,Fh zs _ b (fun y hy=>h y (mem_cons_of_mem _ hy)) h0];obtain⟨h1,h2⟩:=h z mem_cons_self;exact nJ h1 h0 (Ne.symm h2)
theorem SC{bs:List Pq}{is:List Int}{ps:List Pq}{b:Int}(h:∀x∈is,0<=x)(hb:b∉is)(h0:0<=b):(bH bs is ps).getD b.toNat bp=bs.getD b.toNat bp :=
 Fh _ _ b (fun z hz=>by
  have:=(List.of_mem_zip hz).1;exact⟨h _ this,fun e=>hb (e▸this)⟩) h0
structure WkH(l:Li)(xs:List Tn)(a:Aq):Prop where
  js:∀m g,m<a.ms.length->(aN l)[m]?=some g->∀z∈g.jo,JH l a.ts a.bs (l.jo.getD z.toNat default)
  cs:∀b:Int,0<=b->kn (gQ l (aN l) a.ms.length) b=true->CH a.ts (a.bs.getD b.toNat bp)
  dr:∀m g,m<a.ms.length->(aN l)[m]?=some g->g.kind=0->dE a.ts (a.bs.getD (ff g 0).toNat bp).c=qE (du (cg g xs).half (cg g xs).t.q)/\dE a.ts (a.bs.getD (ff g 0).toNat bp).s=qE (dp (cg g xs).half (cg g xs).t.q)
  fr:a.bs.getD 0 bp=gN
theorem LP(T:LL):dE T []=0:=by rw[E.zero_def];exact gp _
theorem Rc(T:LL):dE T [1]=1:=kE _ 1
theorem U7{T:LL}(hp:iF T):CH T gN:=by
 unfold CH gN;dsimp only;rw[Rc,LP,show(1:Et T)*1+0*0-1=0 by grind];exact(gG _ _ hp).zero
theorem OV{n:Nat}{b:Int}(h0:0<=b)(h:kn (cz n 0) b=true):b=0:=by
 unfold cz at h;rcases EQ h with h |h
 ·rw[wz]at h;cases h
 ·have:(0:Int).toNat=0:=rfl;omega
theorem Lv(l:Li)(xs:List Tn)(hb:0<l.bo.length):WkH l xs (gq l):=by
 have e0:(gq l).bs.getD 0 bp=gN:=pE (by rw[length_replicate];exact hb);refine⟨fun m g h=>absurd h (Nat.not_lt_zero _),fun b h0 h=>?_,fun m g h=>absurd h (Nat.not_lt_zero _),e0⟩;have:b=0:=OV h0 h;subst this;show CH (gq l).ts ((gq l).bs.getD 0 bp);rw[e0];exact U7 vg.pos
theorem ug{n e:Nat}{a:List Rat}(h:Nm n e a):a.length<=2^n:=h.nl.le
theorem Pq.ok.nq{n e:Nat}{p:Pq}(h:Pq.ok n e p):Nq n p:=⟨ug h.c,ug h.s,ug h.x,ug h.y⟩
theorem Qu{ts ts' T:LL}(e:ts=ts')(h:Lf ts T):Lf ts' T:=e▸h
section
variable{l:Li}{xs:List Tn}{s g:Nat}(W:WkC l xs s g){gr:Gr}{a:Aq}(hg:(aN l)[a.ms.length]?=some gr)
variable{j r E:Nat}(Q:QInv l j r E a)
include W hg Q
theorem WkH.step(H:WkH l xs a){sv:Sv}(hs:sv∈fp l a.as gr (cg gr xs)):WkH l xs (a.nxt gr sv):=by
 have tw:=QInv.twl W hg Q;have hq:(Lw.llq a.as.rs)=a.ts:=a.llq;obtain⟨dy,ok⟩:=W.grp hg;have N:=GC W.li W.sp hg
 have hN:∀p∈be a.as,Nq (Lw.llq a.as.rs).length p:=by
  intro p hp;rw[wU]at hp;rw[hq];exact(Q.bs p hp).nq
 have G:=Lk tw hN dy (fun b hb=>by
  rw[wU];have:=ok.b b hb;have:=Q.ln;omega) W.li hs
 rw[wU]at G;have L:Lf a.ts sv.ts:=Qu hq G.1.lf;have js:=G.1.js;have cs:=G.1.cs;rw[wU]at js cs;have hN':∀i,Nq a.ts.length (a.bs.getD i bp):=fun i=>HR (fun p hp=>(Q.bs p hp).nq) i
 have sam:∀b:Int,0<=b->b∉gr.bo->jT a.bs (bH a.bs gr.bo sv.ps) a.ts.length b:=fun b h0 hb=>⟨SC (fun x hx=>(ok.b x hx).1) hb h0,hN' _⟩
 have old:∀b:Int,kn (gQ l (aN l) a.ms.length) b=true->b∉gr.bo:=fun b hk hb=>by
  rw[N.b b hb]at hk;cases hk
 have hml:(a.nxt gr sv).ms.length=a.ms.length+1:=by show(a.ms++[sv.mode]).length=_;simp
 have mono:∀(k m:Nat),m+k<=a.ms.length->∀b:Int,0<=b->kn (gQ l (aN l) m) b=true->kn (gQ l (aN l) (m+k)) b=true:=by
  intro k
  induction k with
  |zero=>intro m _ b _ h;exact h
  |succ k ih =>
   intro m hm b h0 h;have h1:=ih m oz b h0 h;have hlt:m+k<(aN l).length:=by have:=(List.getElem?_eq_some_iff.1 hg).1;omega
   obtain⟨g2,hg2⟩:=au hlt;rw[show m+(k+1)=(m+k)+1 by omega,BK hg2 (W.grp hg2).2 h0,h1];simp
 have jn:∀{z:Int}{jt:Jt},l.jo[z.toNat]?=some jt->0<=jt.a/\0<=jt.b:=fun hj=>by
  obtain⟨i1,i2,_⟩:=d7 W.li hj;have i1:=dq i1;have i2:=dq i2;omega
 have cA:∀m g2,m<a.ms.length->(aN l)[m]?=some g2->∀b:Int,0<=b->(b∈g2.bo\/kn (gQ l (aN l) m) b=true)->b∉gr.bo:=by
  intro m g2 hm hg2 b h0 hb;refine old b ?_
  have h1:kn (gQ l (aN l) (m+1)) b=true:=by
   rw[BK hg2 (W.grp hg2).2 h0];rcases hb with hb |hb
   ·have : g2.bo.any (fun x => decide (x = b)) = true := by rw [List.any_eq_true]; exact ⟨b, hb, by simp⟩
    rw[this];rfl
   ·rw[hb];simp
  have:=mono (a.ms.length-(m+1)) (m+1) oz b h0 h1
  rwa [show m+1+(a.ms.length-(m+1))=a.ms.length by omega]at this
 refine⟨?_,?_,?_,?_⟩
 ·intro m g2 hm hg2 z hz;rw[hml]at hm;show JH l sv.ts (bH a.bs gr.bo sv.ps) _
  by_cases e:m=a.ms.length
  ·subst e;rw[hg]at hg2;cases hg2;exact js z hz
  ·obtain⟨jt,hj⟩ := au (l := l.jo) (i := z.toNat) (by have := (W.grp hg2).2.j z hz;omega);have hjz:l.jo[z.toNat]?=some jt:=hj;have H1:=H.js m g2 oz hg2 z hz;rw[aC hj]at H1 ⊢;have N2:=GC W.li W.sp hg2;obtain⟨na,nb⟩:=N2.j z hz jt hj;obtain⟨a0,b0⟩:=jn hjz;exact L.jh (sam _ a0 (cA m g2 oz hg2 _ a0 na)) (sam _ b0 (cA m g2 oz hg2 _ b0 nb)) H1
 ·intro b h0 hk;rw[hml,BK hg ok h0]at hk;show CH sv.ts ((bH a.bs gr.bo sv.ps).getD b.toNat bp)
  by_cases hb:b∈gr.bo
  ·exact cs b hb
  ·have:gr.bo.any (fun x=>decide (x=b))=false:=by
    cases h:gr.bo.any (fun x=>decide (x=b))with
    |false=>rfl
    |true =>
     rw[List.any_eq_true]at h;obtain⟨x,hx,e⟩:=h;exact absurd ((of_decide_eq_true e)▸hx) hb
   rw[this,Bool.false_or]at hk;have S:=sam b h0 hb;rw[S.1];exact L.ch S.2 (H.cs b h0 hk)
 ·intro m g2 hm hg2 hk;rw[hml]at hm;show dE sv.ts ((bH a.bs gr.bo sv.ps).getD (ff g2 0).toNat bp).c=_/\dE sv.ts ((bH a.bs gr.bo sv.ps).getD (ff g2 0).toNat bp).s=_
  by_cases e:m=a.ms.length
  ·subst e;rw[hg]at hg2;cases hg2;exact G.2 hk
  ·obtain⟨h1,h2⟩:=H.dr m g2 oz hg2 hk
   have hb:ff g2 0∈g2.bo:=by
    have:=(W.grp hg2).1;cases this with
    |drv=>exact mem_cons_self
    |rrr=>exact absurd hk (by simp)
    |pr=>exact absurd hk (by simp)
    |rp=>exact absurd hk (by simp)
   have h0:=((W.grp hg2).2.b _ hb).1;have S:=sam _ h0 (cA m g2 oz hg2 _ h0 (.inl hb));obtain⟨n1,n2,_⟩:=S.2;rw[S.1,<- L.low _ n1,<- L.low _ n2,h1,h2,L.q,L.q];exact⟨rfl,rfl⟩
 ·show(bH a.bs gr.bo sv.ps).getD (0:Int).toNat bp=gN
  have h0:(0:Int)∉gr.bo:=by
   refine old 0 ?_
   have hs:=mono a.ms.length 0 oz 0 oz (by
    show kn (cz l.bo.length 0) 0=true;rw[nZ oz oz (by have:=(cO W.li).2.2.2;omega)];rfl)
   rwa [Nat.zero_add]at hs
  rw[(sam 0 oz h0).1];exact H.fr
end
end Go.Lw
namespace Go.Lw
theorem PF{F:Int->Bool}{sg:Bool}{f:Sv->List Aq×Nat}{b:Aq}:∀{S:List Sv},b∈(fm F sg f S).1->∃s∈S,b∈(f s).1:=by
 intro S h;obtain⟨s,hs,_,h2⟩:=yr h;exact⟨s,hs,h2⟩
theorem Fy{l:Li}{xs:List Tn}{s g:Nat}(W:WkC l xs s g){F:Nat->Int->Bool}{sg:Bool}:∀(n:Nat)(a:Aq),WkSt l s g n a->WkH l xs a->∀b∈(jb F sg l xs (aN l) n a).1,WkSt l s g 0 b/\WkH l xs b
 |0,a,h,H,b,hb=>by rw[List.mem_singleton.1 hb];exact⟨h,H⟩
 |n+1,a,h,H,b,hb=>by
  obtain⟨gr,hg,_,hP,hn⟩:=h.next W;obtain⟨⟨j,r,E,y,Q,ok,hc⟩,hl⟩:=h;unfold jb at hb;rw[aC hg]at hb;split at hb
  ·cases hb
  ·obtain⟨sv,hsv,h2⟩:=PF hb;exact Fy W n _ (hn sv hsv) (WkH.step W hg Q H hsv) b h2
structure AqFin(l:Li)(xs:List Tn)(a:Aq):Prop where
  li:aB l=0
  lx:xs.length=l.dv.length
  xo:∀x∈xs,x.err=0/\Qb 1000 x.t.q/\x.t.ok
  tw:∃r,r<=400000000/\Tw a.ts r
  two:a.ts.length<=2
  bs:∀p∈a.bs,Pq.ok a.ts.length 3200000000 p
  ln:a.bs.length=l.bo.length
  lm:a.ms.length<=100
  js:∀j∈l.jo,JH l a.ts a.bs j
  cs:∀i,i<l.bo.length->CH a.ts (a.bs.getD i bp)
  dr:∀i d,l.dv[i]?=some d->dE a.ts (a.bs.getD d.body.toNat bp).c=qE (du (xs.getD i iA).half (xs.getD i iA).t.q)/\dE a.ts (a.bs.getD d.body.toNat bp).s=qE (dp (xs.getD i iA).half (xs.getD i iA).t.q)
  fr:a.bs.getD 0 bp=gN
theorem H2{f:Gr->List Int}:∀(gs:List Gr)(k:List Bool)(b:Int),kn (gs.foldl (fun k g=>bi k (f g)) k) b=true->kn k b=true\/∃g∈gs,∃x∈f g,x.toNat=b.toNat
 |[],k,b,h=>.inl h
 |g::gs,k,b,h=>by
  rw[foldl_cons]at h;rcases H2 gs _ b h with h |⟨g',hg,x,hx,e⟩
  ·rcases A8 _ h with h |⟨x,hx,e⟩
   ·exact .inl h
   ·exact .inr ⟨g,mem_cons_self,x,hx,e⟩
  ·exact .inr ⟨g',mem_cons_of_mem _ hg,x,hx,e⟩
theorem IV{k:List Bool}(h:(eF k).length=0){i:Nat}(hi:i<k.length):kn k (i:Int)=true:=by
 rw[vO]at h;unfold kn;rw[getD_eq_getElem?_getD,getElem?_eq_getElem (by omega:(i:Int).toNat<k.length)];show k[(i:Int).toNat]=true;cases hv:k[(i:Int).toNat]'oz with
 |true=>rfl
 |false =>
  exfalso;have hm:false∈k:=hv▸List.getElem_mem _;rw[<- List.contains_iff_mem]at hm;rw[hm]at h;cases h
theorem xC(f:Gr->List Int):∀(gs:List Gr)(k:List Bool),(gs.foldl (fun k g=>bi k (f g)) k).length=k.length
 |[],k=>rfl
 |g::gs,k=>by rw[foldl_cons,xC f gs,jc]
theorem ON{l:Li}(hs:cH l=0):(eF (bI l)).length=0/\(eF (d5 l)).length=0/\aN l=cr l:=by
 have h9:(eF (bI l)).length+(eF (d5 l)).length=0:=by
  unfold cH at hs;split at hs
  ·assumption
  ·cases hs
 exact⟨by omega,by omega,by unfold aN;rw[if_pos hs]⟩
theorem SX{l:Li}{xs:List Tn}{s g:Nat}(W:WkC l xs s g){a:Aq}(h:WkSt l s g 0 a)(H:WkH l xs a):AqFin l xs a:=by
 obtain⟨⟨j,r,E,y,Q,ok,_⟩,hl⟩:=h;obtain⟨hE,hr,hj⟩:=v6 ok;obtain⟨r1,r2,r3⟩:=ON W.sp;have h1:=Q.lv;have h4:=rZ W.li;refine⟨W.li,W.ln,fun x hx=>⟨(W.ok x hx).2.1,(W.ok x hx).2.2.1,(W.ok x hx).1⟩,⟨r,hr,Q.tw⟩,by omega,fun p hp=>(Q.bs p hp).up (le_refl _) Q.tw.five hE,Q.ln,by omega,?_,?_,?_,H.fr⟩
 ·intro jt hjt;obtain ⟨i,hi⟩:=List.getElem?_of_mem hjt;have hil:=(List.getElem?_eq_some_iff.1 hi).1;have hlen:(d5 l).length = l.jo.length:=by unfold d5; rw [xC Gr.jo,length_replicate]
  have hk:=IV r2 (i:=i) oz;unfold d5 at hk;rcases H2 (f:=Gr.jo) _ _ _ hk with h9 |⟨gr,hg,z,hz,e⟩
  ·rw[wz]at h9;cases h9
  ·rw[<- r3]at hg;obtain⟨m,hm⟩:=List.getElem?_of_mem hg;have hml:=(List.getElem?_eq_some_iff.1 hm).1;have hJ:=H.js m gr oz hm z hz;rw[e,toNat_natCast,aC hi]at hJ;exact hJ
 ·intro i hi;have hlen:(bI l).length = l.bo.length:=by unfold bI; rw [xC Gr.bo,gM]
  have hk:=IV r1 (i:=i) oz
  have e:bI l=gQ l (aN l) a.ms.length:=by
   unfold gQ bI;rw[r3]at hl ⊢;rw[take_of_length_le oz]
  rw[e]at hk;have:=H.cs i oz hk
  rwa [toNat_natCast]at this
 ·intro i d hd;obtain ⟨gr,hg,hk,hb⟩:=Fe W.li W.sp d (mem_of_getElem? hd);obtain ⟨m,hm⟩:=List.getElem?_of_mem hg;have hml:=(List.getElem?_eq_some_iff.1 hm).1;have hD:=H.dr m gr oz hm hk;have eb:ff gr 0 = d.body:=by unfold ff; rw [hb]; rfl
  have hdy:=(W.grp hm).1
  have ed:gr.driver=(i:Int):=by
   cases hdy with
   | @drv b z dd jt x t d0 hd2 hxb =>
    have e2:x.body=d.body:=hxb.trans (by simpa using hb);rcases Nat.lt_trichotomy dd.toNat i with h9 |h9 |h9
    ·exact absurd e2 ((ui W.li hd).2 _ x h9 hd2)
    ·show dd=(i:Int);omega
    ·exact absurd e2.symm ((ui W.li hd2).2 _ d h9 hd)
   |rrr=>exact absurd hk (by simp)
   |pr=>exact absurd hk (by simp)
   |rp=>exact absurd hk (by simp)
  have et:cg gr xs=xs.getD i iA:=by unfold cg;rw[if_pos hk,ed,toNat_natCast]
  rw[eb,et]at hD;exact hD
theorem Rx{l:Li}(hl:l.ok){xs:List Tn}(hL:jM l xs=true)(hxw:∀x∈xs,x.t.wok){A:List Aq}{e:Nat}(h:mM l xs=(A,e)):∀a∈A,AqFin l xs a:=by
 by_cases h0:dM l xs=0
 ·obtain⟨s,g,W,St⟩:=Dy hL hl hxw h0;have hb:=(cO W.li).2.2.2;have hw:=Fy W (F:=mj) (sg:=false) (aN l).length (gq l) St (Lv l xs oz);unfold mM at h;rw[if_neg (fun h=>h h0)]at h;intro a ha;split at h
  ·cases h;cases ha
  ·have e1:(qv mj false l xs).1=A:=congrArg Prod.fst h;rw[<- e1]at ha;obtain⟨h1,h2⟩:=hw a ha;exact SX W h1 h2
 ·unfold mM at h;rw[if_pos h0]at h;cases h;intro a ha;cases ha
open Go.Proofs
theorem oN{ts:LL}{r:Nat}(hr:r<=400000000)(h2:ts.length<=2):kB r ts.length<=1200000006:=by
 have h:=gV r h2;have h3:eB r 2=3*r+6:=by simp only[eB];omega
 show eB r ts.length<=_;omega
theorem n8{ts:LL}(h2:ts.length<=2):lm ts.length=200000000000:=by unfold lm;rw[if_pos h2]
section
variable{l:Li}{xs:List Tn}{a:Aq}(F:AqFin l xs a)
include F
end
theorem Vf{l:Li}{xs:List Tn}{A:List Aq}{e:Nat}(h:mM l xs=(A,e))(he:e≠0):A=[]:=by
 unfold mM at h;split at h
 ·exact(congrArg Prod.fst h).symm
 ·split at h
  ·exact(congrArg Prod.fst h).symm
  ·rename_i h1 h2;exact absurd (congrArg Prod.snd h) (fun h9=>h2 (by rw[h9];exact he))
structure AsmS(l:Li)(xs:List Tn)(A:List Aq)(e:Nat):Prop where
  eq:mM l xs=(A,e)
  all:FP 33 [l.av,.lst 4 (xs.map Tn.av)] (.tup [.lst 3 (A.map Aq.av),bj e])
  ln:A.length<=1000
theorem So{l:Li}(hl:l.ok){xs:List Tn}(hL:jM l xs=true)(hxw:∀x∈xs,x.t.wok):∃A e,AsmS l xs A e:=by
 obtain⟨_,hx20,hxo⟩:=Aj hL hxw;have hop:=Sr l hl xs hxo oz
 by_cases h0:dM l xs=0
 ·obtain ⟨s, g, W, St⟩:=Dy hL hl hxw h0;have hsl:=rZ W.li;have hlb:=(cO W.li).2.2.2;have hp:2 ^ (aN l).length <= 256:=le_trans (bK (b:=8) oz) (by decide);have hw:=E0 W mj false (fo:=189) (caps:=[]) (fun k m _=>Rs k m) (aN l).length (gq l) St [] (by simp only [length_nil]; omega);have hA:=JG h0 hop oz oz (R:=qv mj false l xs) hw;have hlen:=By W mj false (aN l).length (gq l) St;refine ⟨_,_,⟨?_,hA,?_⟩⟩
  ·unfold mM;rw[if_neg (fun h=>h h0)]
   by_cases hE:(qv mj false l xs).2≠0
   ·rw[if_pos hE,if_pos hE]
   ·rw[if_neg hE,if_neg hE]
  ·split
   ·exact zero_le _
   ·exact le_trans hlen oz
 ·have hA:=VE h0 hop;refine⟨[],dM l xs,⟨?_,hA,zero_le _⟩⟩;unfold mM;rw[if_pos h0]
theorem Uv{p:Bool}{e:Nat}(h:cond (cond (!true) true (!p)) true (aa .neq (e:Int) 0)=false):p=true/\e=0:=by
 cases p
 ·simp at h
 ·exact⟨rfl,kQ h⟩
theorem rA{ts:LL}{r e f:Nat}(tw:Tw ts r){x:List Rat}(hx:Nm ts.length e x){v:Rat}(hv:Qb f v)(he:e+2*f+1<=lm ts.length)(hf:f<=9000) :
  FP 322 [aL ts,nA x,qA v] (bl (fK ts (ad ts.length x) (ad ts.length (sh 0 (v:Rat))))):=by
 have hlm:=iu ts.length;refine ah func322 ?_;refine gc (lD (hv.qs oz)) ?_;refine gc (uD tw hx (qN tw.five hv) oz) ?_;refine gD ?_;refine ae ?_;exact congrArg bl (Bo _)
theorem V2{ts:LL}{r e:Nat}(tw:Tw ts r){x:List Rat}(hx:Nm ts.length e x)(he:e<=lm ts.length):FP 321 [aL ts,nA x] (bl true):=by
 have h:=UV (ts.map (List.map rt)) r tw.tr (x.map rt) e (hx.rt he)
 have e0:bn (ts.map (List.map rt)) [x.map rt]=0:=by
  unfold bn;rw[if_neg (by rw[tw.chk];simp),length_map];exact o9 (fun y hy=>by rw[List.mem_singleton.1 hy];exact om hx.nl)
 rw[e0,jC,eA]at h;exact h
theorem GN{ts:LL}{r:Nat}(tw:Tw ts r):FP 121 [aL ts] (bj 0):=by
 have h:=nP (ts.map (List.map rt)) r tw.tr;rw[tw.chk,jC]at h;exact h
structure AqS(l:Li)(a:Aq):Prop where
  li:aB l=0
  tw:∃r,r<=400000000/\Tw a.ts r
  two:a.ts.length<=2
  bs:∀p∈a.bs,Pq.ok a.ts.length 3200000000 p
  ln:a.bs.length=l.bo.length
theorem AqFin.s{l:Li}{xs:List Tn}{a:Aq}(F:AqFin l xs a):AqS l a:=⟨F.li,F.tw,F.two,F.bs,F.ln⟩
theorem yL{l:Li}{a:Aq}(F:AqS l a)(hl:l.ok){body pt:Int}(h1:bq body l.bo.length=true)(h2:bq pt (cI l body).length=true) :
  Nm a.ts.length 12100000000 (sX (bg l a.ts a.bs body pt).1)/\Nm a.ts.length 12100000000 (sX (bg l a.ts a.bs body pt).2):=by
 obtain⟨n,k,bd,m,h⟩:=qY hl F.li h1 h2;obtain⟨r,hr,tw⟩:=F.tw;have hk:=oN hr F.two;obtain⟨p,hp⟩:=au (l:=a.bs) (i:=n) (by rw[F.ln];exact(List.getElem?_eq_some_iff.1 h.gbd).1);have po:=F.bs p (mem_of_getElem? hp);have e:body.toNat=n:=by have:=h.hn;omega
 have hb:Pq.ok a.ts.length 3200000000 ⟨lq p.pl.c,lq p.pl.s,lq p.pl.x,lq p.pl.y⟩:=by
  unfold Pq.pl;dsimp only;rw[cF,cF,cF,cF];exact po
 have hq:=Ef tw hb h.sm;unfold Pq.pl at hq;dsimp only[iY]at hq;rw[cF,cF,cF,cF]at hq;unfold bg;rw[e,aC hp];exact⟨hq.1.mono oz,hq.2.mono oz⟩
def rW(ts:LL)(p:Pq):Bool:=fK ts (oE ts (ad ts.length p.c) (ad ts.length p.s) (ad ts.length p.c) (ad ts.length p.s)) (T.ofQ ts.length 1)
def p9(ts:LL)(p:Pq):Bool:=fK ts (ad ts.length p.c) (T.ofQ ts.length 1)&&fK ts (ad ts.length p.s) (T.ofQ ts.length 0)&&fK ts (ad ts.length p.x) (T.ofQ ts.length 0)&&fK ts (ad ts.length p.y) (T.ofQ ts.length 0)
def mv(l:Li)(a:Aq)(j:Jt):Bool :=
  if j.kind=0 then decide (T.sgn (aj a.ts) a.ts.length (subT a.ts (bg l a.ts a.bs j.a j.point).1 (bg l a.ts a.bs j.b j.on).1)=0/\T.sgn (aj a.ts) a.ts.length (subT a.ts (bg l a.ts a.bs j.a j.point).2 (bg l a.ts a.bs j.b j.on).2)=0)
  else decide (T.sgn (aj a.ts) a.ts.length (tJ a.ts (bg l a.ts a.bs j.b j.on).1 (bg l a.ts a.bs j.b j.on).2 (bg l a.ts a.bs j.b j.to).1 (bg l a.ts a.bs j.b j.to).2 (bg l a.ts a.bs j.a j.point).1 (bg l a.ts a.bs j.a j.point).2)=0)
theorem Og{ts:LL}{p:Pq}(h:CH ts p):rW ts p=true:=decide_eq_true h
theorem MF(ts:LL):p9 ts gN=true:=by
 unfold p9 gN;dsimp only;rw[kE,gp,T.ofQ_zero,vL,vL];rfl
theorem Nt{l:Li}{a:Aq}{j:Jt}(h:JH l a.ts a.bs j):mv l a j=true:=by
 unfold JH at h;unfold mv;split
 ·rename_i hk;rw[if_pos hk]at h;exact decide_eq_true h
 ·rename_i hk;rw[if_neg hk]at h;exact decide_eq_true h
def Pq.l(p:Pq):LL:=[p.c,p.s,p.x,p.y]
theorem Pq.ok.mem{n e:Nat}{p:Pq}(h:Pq.ok n e p):∀x∈p.l,Nm n e x:=by
 intro x hx;simp only[Pq.l,mem_cons,not_mem_nil,or_false]at hx;rcases hx with rfl |rfl |rfl |rfl
 ·exact h.c
 ·exact h.s
 ·exact h.x
 ·exact h.y
theorem L1{ts:LL}{r e:Nat}(tw:Tw ts r){p:Pq}(hp:Pq.ok ts.length e p)(he:e+1000<=lm ts.length):FP 220 [aL ts,p.av] (bl (p9 ts p)):=by
 have hlm:=iu ts.length
 have h1:FP 322 [aL ts,nA p.c,qA ((1:Int):Rat)] (bl (fK ts (ad ts.length p.c) (T.ofQ ts.length 1))):=by
  have h:=rA tw hp.c Qb.one oz oz;rw[ia]at h;exact h
 have h0:∀x:List Rat,Nm ts.length e x->FP 322 [aL ts,nA x,.agg [.v (.bool false),nS,nS]] (bl (fK ts (ad ts.length x) (T.ofQ ts.length 0))):=fun x hx=>by
  have h:=rA tw hx Qb.zero oz oz;rw[ia]at h;exact Con.sA (.cons (.refl _) (.cons (.refl _) (.cons jy .nil))) h
 refine ah func220 ?_;refine gc (lh 1 oz) ?_;refine gc h1 ?_;refine bJ (fun _=>(h0 _ hp.s)) ?_;refine bJ (fun _=>(h0 _ hp.x)) ?_;refine bJ (fun _=>(h0 _ hp.y)) ?_;refine gD ?_;refine ae ?_;exact congrArg bl (V9 _ _ _ _)
theorem LU{l:Li}{a:Aq}(F:AqS l a){p:Pq}(hpm:p∈a.bs):FP 219 [aL a.ts,p.av] (bl (rW a.ts p)):=by
 obtain⟨r,hr,tw⟩:=F.tw;have hkb:=oN hr F.two;have hlm:=n8 F.two;have hp:=F.bs p hpm;refine ah func219 ?_;refine ge rfl ?_;refine aI [2,3,18,19] [2,3] (fun(k:Nat)=>[(20,some (i64 k))]) (fun _=>[]) (fun k=>k<=4) (fun k=>4-k) 0 (zero_le _) ?_;rintro k hk K1 J1;refine gC (fun t21=>?_) (fun t21=>?_)
 ·have hkn:k<4:=aQ (b:=4) t21;obtain⟨x,hx⟩:∃x,p.l[k]?=some x:=au (l:=p.l) hkn;refine gi (ax hx) ?_;refine gc (V2 tw (hp.mem x (mem_of_getElem? hx)) oz) ?_;refine gC (fun t27=>?_) (fun t27=>?_) (st1:=(5,0));cases t27;refine ga aF ?_;exact aE J1 (k+1) hkn
 have hdn:=vW tw hp.c hp.s hp.c hp.s;have hdot:=xh tw hp.c hp.s hp.c hp.s oz;have heq:=rA tw hdn Qb.one oz oz;rw[aZ,ia]at heq;refine gc hdot ?_;refine bJ (fun _=>(lh 1 oz)) ?_;refine bJ (fun _=>heq) ?_;refine gD ?_;refine ae ?_;rfl
def w9(ts:LL)(p:Pq)(x:Tn):Bool:=fK ts (ad ts.length p.c) (ad ts.length (sh 0 (du x.half x.t.q:Rat)))&&fK ts (ad ts.length p.s) (ad ts.length (sh 0 (dp x.half x.t.q:Rat)))
theorem Rw{ts:LL}{r e:Nat}(tw:Tw ts r){p:Pq}(hp:Pq.ok ts.length e p)(hle:e+20000<=lm ts.length){x:Tn}(hx:x.t.ok)(he:x.err=0)(hq:Qb 1000 x.t.q) :
  FP 226 [aL ts,p.av,x.av] (bl (w9 ts p x)):=by
 have hc:=um x hx hq oz;rw[if_pos he,he]at hc;have hs:=Br x hx hq oz;rw[if_pos he,he]at hs;refine ah func226 ?_;refine gc hc ?_;refine gC (fun t16=>?_) (fun t16=>?_) (st1:=(3,0));cases t16;refine gc hs ?_;refine bJ (fun _=>(rA tw hp.c (Ra x.half hq) oz oz)) ?_;refine bJ (fun _=>(rA tw hp.s (MC x.half hq) oz oz)) ?_;refine ae ?_;exact congrArg bl (iO _ _)
theorem Ap{l:Li}(hl:l.ok){a:Aq}(F:AqS l a){body pt:Int}(h1:bq body l.bo.length=true)(h2:bq pt (cI l body).length=true) :
  FP 323 [l.av,a.av,i64 body,i64 pt] (.tup [aG (sX (bg l a.ts a.bs body pt).1) (sX (bg l a.ts a.bs body pt).2),.v .nilIface]):=by
 obtain⟨n,k,bd,m,h⟩:=qY hl F.li h1 h2;obtain⟨r,hr,tw⟩:=F.tw;have hkb:=oN hr F.two;have hlm:=n8 F.two;have hlb:=(cO F.li).2.2.2.1;obtain⟨p,hp⟩:=au (l:=a.bs) (i:=n) (by rw[F.ln];exact(List.getElem?_eq_some_iff.1 h.gbd).1);have po:=F.bs p (mem_of_getElem? hp);have hn:=h.hn;have hk:=h.hk
 have e:bg l a.ts a.bs body pt=bM a.ts p (aY l body pt):=by
  unfold bg;rw[hn,toNat_natCast,aC hp]
 have hat:FP 86 [aL a.ts,p.av,m.x.av,m.y.av] (.tup [aG (sX (bg l a.ts a.bs body pt).1) (sX (bg l a.ts a.bs body pt).2),.v .nilIface]):=by
  rw[h.ex,h.ey,e];exact Ae tw po.c po.s po.x po.y (h.sm.x.mono oz) (h.sm.y.mono oz) oz
 have gb:=h.gbd;have gm:=h.gm;clear h h1 h2 e;subst hn;subst hk;refine ah func323 ?_;refine gi (ax gb) ?_;refine gi (ax gm) ?_;refine gi (ax hp) ?_;refine gc hat ?_;refine gD ?_;refine ba ?_
 first |rfl |(simp;done)
theorem RK{l:Li}(hl:l.ok){a:Aq}(F:AqS l a){i:Nat}{j:Jt}(hj:l.jo[i]?=some j):FP 223 [l.av,a.av,j.av] (bl (mv l a j)):=by
 obtain⟨r,hr,tw⟩:=F.tw;have hkb:=oN hr F.two;have hlm:=n8 F.two;obtain⟨i1,i2,i3,i4,i5⟩:=d7 F.li hj;have np:=yL F hl i1 i3;have nq:=yL F hl i2 i4;have ed:∀y:Et a.ts,ad a.ts.length (sX y)=y:=fun y=>aZ _ _
 refine ah func223 ?_;refine gc (Ap hl F i1 i3) ?_;refine gC (fun t25=>?_) (fun t25=>?_) (st1:=(3,0));cases t25;refine gc (Ap hl F i2 i4) ?_;refine gC (fun t37=>?_) (fun t37=>?_) (st1:=(6,0));cases t37;refine gC (fun t40=>?_) (fun t40=>?_)
 ·have hk:j.kind=0:=da t40;have hsame:=Qw tw np.1 np.2 nq.1 nq.2 oz;rw[ed,ed,ed,ed]at hsame;refine gc hsame ?_;refine ae ?_;unfold mv;rw[if_pos hk];rfl
 have hk:j.kind≠0:=dZ t40;have nr:=yL F hl i2 (i5 hk);have hor:=VV tw nq.1 nq.2 nr.1 nr.2 np.1 np.2 oz;rw[ed,ed,ed,ed,ed,ed]at hor;refine gc (Ap hl F i2 (i5 hk)) ?_;refine gC (fun t65=>?_) (fun t65=>?_) (st1:=(12,0));cases t65;refine gc hor ?_;refine ae ?_;unfold mv;rw[if_neg hk];exact congrArg bl (Bo _)
theorem R5(bs:List Pq)(hl:bs.length<=281474976710656)(f:FuncId)(c:List AV)(ok:Nat->Bool)
  (hf:∀(i:Nat)(b:Pq),bs[i]?=some b->(∀j,j<i->ok j=true)->FP f ([i64 i,b.av]++[.iptr c]) (bl (!ok i))) :
  FP 217 [.lst 4 (bs.map Pq.av),.fn f [.iptr c]] (i64 (jB (cq bs.length ok))):=by
 refine ah func217 ?_;refine gl ?_;refine aI [1,7,8] [] (fun(i:Nat)=>[(9,some (i64 i))]) (fun _=>[]) (fun i=>i<=bs.length/\∀j,j<i->ok j=true) (fun i=>bs.length-i) 0 ⟨zero_le _,fun j h=>by omega⟩ ?_;rintro i ⟨hi,hj⟩ K1 J1;refine gC (fun t10=>?_) (fun t10=>?_)
 ·have hin:=aQ t10;obtain⟨b,hb⟩:=au hin;refine gi (ax hb) ?_;refine gs (vp (.tmp rfl) (hf i b hb hj) (bm rfl rfl) az rfl rfl) ?_;refine gC (fun t17=>?_) (fun t17=>?_)
  ·have h2:=cS t17;refine ae ?_;rw[f9 hin hj h2];rfl
  have h2:=cT t17;refine ga aF ?_;exact aE J1 (i+1) ⟨hin,fun j h9=>by rcases lt_or_ge j i with g |g;exact hj j g;(have:j=i:=by omega);subst this;exact h2⟩
 have hin:=a6 hi t10;subst hin;refine ae ?_;rw[fC hj];rfl
theorem QV(bs:List Jt)(hl:bs.length<=281474976710656)(f:FuncId)(c d:List AV)(ok:Nat->Bool)
  (hf:∀(i:Nat)(b:Jt),bs[i]?=some b->(∀j,j<i->ok j=true)->FP f ([i64 i,b.av]++[.iptr c,.iptr d]) (bl (!ok i))) :
  FP 221 [.lst 7 (bs.map Jt.av),.fn f [.iptr c,.iptr d]] (i64 (jB (cq bs.length ok))):=by
 refine ah func221 ?_;refine gl ?_;refine aI [1,7,8] [] (fun(i:Nat)=>[(9,some (i64 i))]) (fun _=>[]) (fun i=>i<=bs.length/\∀j,j<i->ok j=true) (fun i=>bs.length-i) 0 ⟨zero_le _,fun j h=>by omega⟩ ?_;rintro i ⟨hi,hj⟩ K1 J1;refine gC (fun t10=>?_) (fun t10=>?_)
 ·have hin:=aQ t10;obtain⟨b,hb⟩:=au hin;refine gi (ax hb) ?_;refine gs (vp (.tmp rfl) (hf i b hb hj) (bm rfl rfl) az rfl rfl) ?_;refine gC (fun t17=>?_) (fun t17=>?_)
  ·have h2:=cS t17;refine ae ?_;rw[f9 hin hj h2];rfl
  have h2:=cT t17;refine ga aF ?_;exact aE J1 (i+1) ⟨hin,fun j h9=>by rcases lt_or_ge j i with g |g;exact hj j g;(have:j=i:=by omega);subst this;exact h2⟩
 have hin:=a6 hi t10;subst hin;refine ae ?_;rw[fC hj];rfl
theorem Vv(bs:List Dr)(hl:bs.length<=281474976710656)(f:FuncId)(c d:List AV)(ok:Nat->Bool)
  (hf:∀(i:Nat)(b:Dr),bs[i]?=some b->(∀j,j<i->ok j=true)->FP f ([i64 i,b.av]++[.iptr c,.iptr d]) (bl (!ok i))) :
  FP 224 [.lst 2 (bs.map Dr.av),.fn f [.iptr c,.iptr d]] (i64 (jB (cq bs.length ok))):=by
 refine ah func224 ?_;refine gl ?_;refine aI [1,7,8] [] (fun(i:Nat)=>[(9,some (i64 i))]) (fun _=>[]) (fun i=>i<=bs.length/\∀j,j<i->ok j=true) (fun i=>bs.length-i) 0 ⟨zero_le _,fun j h=>by omega⟩ ?_;rintro i ⟨hi,hj⟩ K1 J1;refine gC (fun t10=>?_) (fun t10=>?_)
 ·have hin:=aQ t10;obtain⟨b,hb⟩:=au hin;refine gi (ax hb) ?_;refine gs (vp (.tmp rfl) (hf i b hb hj) (bm rfl rfl) az rfl rfl) ?_;refine gC (fun t17=>?_) (fun t17=>?_)
  ·have h2:=cS t17;refine ae ?_;rw[f9 hin hj h2];rfl
  have h2:=cT t17;refine ga aF ?_;exact aE J1 (i+1) ⟨hin,fun j h9=>by rcases lt_or_ge j i with g |g;exact hj j g;(have:j=i:=by omega);subst this;exact h2⟩
 have hin:=a6 hi t10;subst hin;refine ae ?_;rw[fC hj];rfl
def oM(ts:LL)(i:Nat)(p:Pq):Bool:=rW ts p&&(decide (0<i)||p9 ts p)
theorem My(ts:LL)(i:Nat)(p:Pq):cond (!rW ts p) true (cond (aa .eql (i:Int) 0) (!p9 ts p) false)=!oM ts i p:=by
 unfold oM
 have e:aa .eql (i:Int) 0=!decide (0<i):=by
  rw[pY,<- decide_not];exact decide_eq_decide.2 oz
 rw[e];cases rW ts p <;> cases decide (0<i) <;> cases p9 ts p <;> rfl
theorem N9{l:Li}{a:Aq}(F:AqS l a){i:Nat}{p:Pq}(hp:a.bs[i]?=some p):FP 218 [i64 i,p.av,.iptr a.cs] (bl (!oM a.ts i p)):=by
 obtain⟨r,hr,tw⟩:=F.tw;have hlm:=n8 F.two;have hpm:=mem_of_getElem? hp;refine ah func218 ?_;refine gc (LU F hpm) ?_;refine bJ (fun _=>(L1 tw (F.bs p hpm) oz)) ?_;refine ae ?_;exact congrArg bl (My _ _ _)
theorem PK{l:Li}(hl:l.ok){a:Aq}(F:AqS l a){i:Nat}{j:Jt}(hj:l.jo[i]?=some j):FP 222 [i64 i,j.av,.iptr l.av.cells,.iptr a.cs] (bl (!mv l a j)):=by
 refine ah func222 ?_;refine gc (RK hl F hj) ?_;refine ae ?_;rfl
def oX(l:Li)(ys:List Tn)(a:Aq)(i:Nat):Bool:=w9 a.ts (a.bs.getD (l.dv.getD i default).body.toNat bp) (ys.getD i iA)
def iS(l:Li)(ys:List Tn)(a:Aq):Nat×Nat:=match cq a.bs.length (fun i=>oM a.ts i (a.bs.getD i bp))with
  |some i=>(2,i)
  |none=>match cq l.jo.length (fun i=>mv l a (l.jo.getD i default))with
    |some i=>(3,i)
    |none=>match cq l.dv.length (oX l ys a)with
      |none=>(0,0)
      |some i=>(4,i)
theorem M1{l:Li}{ys:List Tn}{a:Aq}:(((iS l ys a).1:Int)==0&&((iS l ys a).2:Int)==0)=(decide ((0:Nat)=0)&&decide ((iS l ys a).1=0)):=by
 unfold iS;split
 ·rfl
 ·split
  ·rfl
  ·split <;> rfl
theorem Ty{l:Li}{a:Aq}(F:AqS l a){ys:List Tn}(hy:∀x∈ys,x.t.ok/\x.err=0/\Qb 1000 x.t.q)(hyl:ys.length=l.dv.length){i:Nat}{d:Dr}(hd:l.dv[i]?=some d) :
  FP 225 [i64 i,d.av,.iptr a.cs,.iptr [.lst 4 (ys.map Tn.av)]] (bl (!oX l ys a i)):=by
 have hin:=(List.getElem?_eq_some_iff.1 hd).1;have hd2:=uM F.li;have hbl:=(cO F.li).2.2.2.1;have hln:=F.ln;obtain⟨r,hr,tw⟩:=F.tw;have hlm:=n8 F.two;have hdb:=dq (lr F.li hd);obtain⟨p,hp⟩:=au (l:=a.bs) (i:=d.body.toNat) oz;obtain⟨x,hx⟩:=au (l:=ys) (i:=i) oz;have hxo:=hy x (mem_of_getElem? hx);have ht:=Rw tw (F.bs p (mem_of_getElem? hp)) oz hxo.1 hxo.2.1 hxo.2.2
 have e:oX l ys a i=w9 a.ts p x:=by
  unfold oX;rw[aC hd,aC hp,aC hx]
 refine ah func225 ?_;refine gi (ax hp) ?_;refine gi (ax hx) ?_;refine gc ht ?_;refine gD ?_;refine ae ?_;rw[e];rfl
theorem OD{l:Li}(hl:l.ok){a:Aq}(F:AqS l a){ys:List Tn}(hy:∀x∈ys,x.t.ok/\x.err=0/\Qb 1000 x.t.q)(hyl:ys.length=l.dv.length) :
  FP 120 [l.av,.lst 4 (ys.map Tn.av),a.av] (I3 (iS l ys a)):=by
 obtain⟨r,hr,tw⟩:=F.tw;have hbl:=(cO F.li).2.2.2.1;have hln:=F.ln;refine ah func120 ?_ (1,0);refine gW ((Wk.freezeB (k:=3) rfl rfl).trans<|(Wk.freezeB (k:=4) rfl rfl).trans<|(Wk.freezeB (k:=5) rfl rfl).trans<|Wk.o (sl:=[(3,some (.iptr l.av.cells)),(4,some (.iptr [.lst 4 (ys.map Tn.av)])),(5,some (.iptr a.cs)),(6,some (.ptr 6 0))]) (hp:=[(6,some (.box [i64 0,i64 0]))])) ?_;refine gc (GN tw) ?_;refine ci ?_;refine ci ?_;refine gC (fun t22=>?_) (fun t22=>?_) (st1:=(2,0));exact((O1 t22).elim (fun h=>h rfl) (fun h=>h hln)).elim;refine gc (R5 a.bs oz 218 a.cs (fun i=>oM a.ts i (a.bs.getD i bp)) (fun i b hb _=>by have h:=N9 F hb;rw[<- aC (d:=bp) hb]at h ⊢;exact h)) ?_;refine gC (fun t29=>?_) (fun t29=>?_)
 ·obtain⟨i,hi⟩:=Aw t29;refine ae ?_;unfold iS;rw[hi];rfl
 have f1:=xV t29;refine gc (QV l.jo hl.lj 222 l.av.cells a.cs (fun i=>mv l a (l.jo.getD i default)) (fun i j hj _=>by have h:=PK hl F hj;rw[<- aC (d:=default) hj]at h ⊢;exact h)) ?_;refine gC (fun t37=>?_) (fun t37=>?_)
 ·obtain⟨i,hi⟩:=Aw t37;refine ae ?_;unfold iS;rw[f1,hi];rfl
 have f2:=xV t37;refine gc (Vv l.dv hl.ld 225 a.cs [.lst 4 (ys.map Tn.av)] (oX l ys a) (fun i d hd _=>Ty F hy hyl hd)) ?_;refine gC (fun t45=>?_) (fun t45=>?_)
 ·obtain⟨i,hi⟩:=Aw t45;refine ae ?_;unfold iS;rw[f1,f2,hi];rfl
 have f3:=xV t45;refine ae ?_;unfold iS;rw[f1,f2,f3];rfl
theorem D0{l:Li}(hl:l.ok){a:Aq}(F:AqS l a)(ys:List Tn)(hy:∀x∈ys,x.t.ok/\Qb 1000 x.t.q)(hyl:ys.length<=281474976710656) :
  FP 50 [l.av,.lst 4 (ys.map Tn.av),a.av] (.tup [bl (decide (jK l ys=0)&&decide ((iS l ys a).1=0)),I3 (if jK l ys=0 then iS l ys a else(0,0)),bj (jK l ys)]):=by
 have hld:=hl.ld;refine ah func50 ?_;refine gc (Aa l hl) ?_;refine gC (fun t17=>?_) (fun t17=>?_) (st1:=(3,0));exact absurd F.li (cU t17);have h1:=F.li;refine gl ?_;refine gl ?_;refine gC (fun t25=>?_) (fun t25=>?_)
 ·have h2 : ys.length ≠ l.dv.length := by have := mo t25; omega
  have hb:jK l ys≠0:=by rw[Gp h1 h2];decide
  refine vY ?_;rw[if_neg hb,decide_eq_false hb,Gp h1 h2];rfl
 have h2:ys.length=l.dv.length:=by have:=qf t25;omega
 refine gl ?_;refine aI [1,3,5,7,28,29] [3,5,7] (fun(i:Nat)=>[(30,some (i64 i))]) (fun _=>[]) (fun i=>i<=ys.length/\∀x∈ys.take i,x.err=0) (fun i=>ys.length-i) 0 ⟨zero_le _,fun x hx=>by simp at hx⟩ ?_;rintro i ⟨hi,hj⟩ K1 J1;refine gC (fun t31=>?_) (fun t31=>?_)
 ·have hin:=aQ t31;obtain⟨x,hxx⟩:=au hin;refine gi (ax hxx) ?_;refine gc (tF x (hy x (mem_of_getElem? hxx)).1) ?_;refine gC (fun t37=>?_) (fun t37=>?_)
  ·have h3:=cU t37;have hb:jK l ys ≠ 0:=by rw [Ck h1 h2 hxx hj h3]; exact h3
   refine vY ?_;rw[if_neg hb,decide_eq_false hb,Ck h1 h2 hxx hj h3];rfl
  have h3:=cP t37;refine ga aF ?_;exact aE J1 (i+1) ⟨hin,fun y hy=>by rw[dj hxx]at hy;rcases List.mem_append.1 hy with h9 |h9;exact hj y h9;(rw[List.mem_singleton.1 h9];exact h3)⟩
 have hin:=a6 hi t31;subst hin;rw[take_length]at hj;have hb:=BS h1 h2 hj;refine gc (OD hl F (fun x h9=>⟨(hy x h9).1,hj x h9,(hy x h9).2⟩) h2) ?_;refine gs (Fg (.tmp rfl) (.tmp rfl) (by kernel_rfl) rfl) ?_;refine gD ?_;refine vY ?_;rw[hb,if_pos rfl,M1];rfl
theorem Pb(ps:List Pse)(hps:∀p∈ps,p.rok)(hpl:ps.length<=281474976710656):FP 208 [.lst 10 (ps.map Pse.av)] (bj (io ps)):=by
 refine ah func208 ?_;refine gl ?_;refine aI [5,6] [] (fun(i:Nat)=>[(7,some (i64 i))]) (fun _=>[]) (fun i=>i<=ps.length/\(ps.take i).all Pse.ok=true) (fun i=>ps.length-i) 0 ⟨zero_le _,rfl⟩ ?_;rintro i ⟨hi,hj⟩ K1 J1;refine gC (fun t8=>?_) (fun t8=>?_)
 ·have hin:=aQ t8;obtain⟨p,hp⟩:=au hin;have hpo:=hps p (mem_of_getElem? hp);refine gi (ax hp) ?_;refine gc (tF p.turn hpo.t) ?_;refine bJ (fun _=>(oQ p.at_.x hpo.x)) ?_;refine bJ (fun _=>(oQ p.at_.y hpo.y)) ?_;refine gC (fun t28=>?_) (fun t28=>?_)
  ·have h1:p.ok=false:=Rn t28;refine ae ?_;rw[Jq (jI hp h1)];rfl
  have h1:p.ok=true:=Vy t28;refine ga aF ?_;exact aE J1 (i+1) ⟨hin,jP hj hp h1⟩
 have hin:=a6 hi t8;refine ae ?_;rw[FA (kq hin hj)];rfl
theorem Rf(p:Pse)(hp:p.lok)(ho:p.ok=true):FP 209 [p.av] (.tup [(fU p).av,.v .nilIface]):=by
 have he:=(UJ ho).1;have hc:=um p.turn hp.ok.t hp.t oz;rw[if_pos he,he]at hc;have hs:=Br p.turn hp.ok.t hp.t oz;rw[if_pos he,he]at hs;refine ah func209 ?_;refine gc hc ?_;refine gC (fun t14=>?_) (fun t14=>?_) (st1:=(3,0));cases t14;refine gc hs ?_;refine gC (fun t24=>?_) (fun t24=>?_) (st1:=(6,0));cases t24;refine gc (lD ((oY hp.t).qs oz)) ?_;refine gc (lD ((pb hp.t).qs oz)) ?_;refine gc (AU p.at_.x hp.ok.x (hp.x.qs oz)) ?_;refine gc (AU p.at_.y hp.ok.y (hp.y.qs oz)) ?_;refine gD ?_;refine ba ?_;rfl
theorem Hk(ps:List Pse)(hps:∀p∈ps,p.lok)(hpl:ps.length<=20):FP 116 [.lst 10 (ps.map Pse.av)] (.tup [uh (ofL ps),bj (io ps)]):=by
 refine ah func116 ?_;refine gc (Pb ps (fun p hp=>(hps p hp).ok) oz) ?_;refine gC (fun t13=>?_) (fun t13=>?_)
 ·have h1:=cU t13;have h2:ps.all Pse.ok=false:=Bool.eq_false_iff.2 (fun h=>h1 (FA h));refine gR ?_;exact eH (by rw[QA h2];exact Sub.tup (.cons Uj (.cons (.refl _) .nil)))
 have h1:=cP t13;have h2:=Ew h1;rw[all_eq_true]at h2;refine gl ?_;refine gW (Wk.virt 900 4 rfl) ?_;refine aI [2,5,16,17] [2] (fun(i:Nat)=>[(18,some (i64 i))]) (fun i=>[(5,some (.box [nS,.ms 900 4 0 i,nS])),(900,some (.row 4 (((ps.take i).map fU).map Pq.av)))]) (fun i=>i<=ps.length) (fun i=>ps.length-i) 0 (zero_le _) ?_ (h2:=(.cons rfl (BlkSub.bL (.cons (.refl _) (.cons (.nM _ _ _) (.cons (.refl _) .nil))) rfl) (.k .nil)));rintro i hi K1 J1;refine gC (fun t19=>?_) (fun t19=>?_) (st2:=(13,0))
 ·have hin:=aQ t19;obtain⟨p,hp⟩:=au hin;have hpm:=mem_of_getElem? hp;refine gi (ax hp) ?_;refine gc (Rf p (hps p hpm) (h2 p hpm)) ?_;refine gC (fun t28=>?_) (fun t28=>?_) (st1:=(10,0));cases t28;refine gs (cf (.tmp rfl) rfl (by rw[length_map,length_map,length_take];omega) (.tmp rfl) T38 rfl T69 rfl rfl (by dsimp only;simp only[length_cons,length_nil];omega) rfl rfl) ?_ (12,0);refine gW (Wk.of (sl:=[(2,some (.ptr 2 0)),(5,some (.ptr 5 0)),(16,some (.lst 10 (ps.map Pse.av))),(17,some (i64 ps.length)),(18,some (i64 i))]) (hp:=[(2,some (.box [nS,nS,nS])),(5,some (.box [nS,.ms 35 4 0 (i+1),nS])),(35,some (.row 4 (((ps.take (i+1)).map fU).map Pq.av)))]) aV (.k (.k (.cons rfl (BlkSub.of (by rw[dj hp,map_append,map_append];rfl)) .nil)))) ?_ (12,0);refine gW (Wk.rk (k:=35) (d:=900) rfl rfl) ?_;refine ga aF ?_;exact aE J1 (i+1) hin
 have hin:=a6 hi t19;subst hin;refine gW ((Wk.freeze (k:=900) rfl).trans<|Wk.of (sl:=[(2,some (.ptr 2 0)),(5,some (.ptr 5 0))]) (hp:=[(2,some (.box [nS,nS,nS])),(5,some (.box [nS,.lst 4 ((ps.map fU).map Pq.av),nS]))]) aV (.k (.cons rfl (BlkSub.bL (.cons (.refl _) (.cons (Sub.of (by rw[bN (by rw[length_map,length_map,length_take];omega),take_length])) (.cons (.refl _) .nil))) rfl) .nil))) ?_;refine gR ?_;exact eH (by rw[Iy (List.all_eq_true.2 h2),h1];exact Sub.tup (.cons SS (.cons (.refl _) .nil)))
theorem L8{z:Int}(h:cond (!(dl .nilIface)) true (aa .neq z 0)=true):decide (z=0)=false:=decide_eq_false (mo h)
theorem Mf{z:Int}(h:cond (!(dl .nilIface)) true (aa .neq z 0)=false):decide (z=0)=true:=decide_eq_true (qf h)
theorem TT(a:As)(ha:AL a)(ps:List Pse)(hps:∀p∈ps,p.lok)(hpl:ps.length<=20):FP 117 [a.av,.lst 10 (ps.map Pse.av)] (.tup [bl (mB a ps),bj (mE a ps)]):=by
 have hbl:=ha.bl;have hlm:=iu a.rs.length;have hlm2:=iu (llq a.rs).length;refine ah func117 ?_;refine gc (nP a.rs 40000 ha.tr) ?_;refine gC (fun t26=>?_) (fun t26=>?_)
 ·have h1:=cU t26;refine ba ?_;rw[wW (by rw[BZ h1];exact h1),BZ h1];rfl
 have h1:=cP t26;obtain⟨tw,hta⟩:=dh ha.tr h1;have h5:a.rs.length<=5:=by have:=tw.five;rwa [length_map]at this
 refine gc (Hk ps hps hpl) ?_;refine gC (fun t34=>?_) (fun t34=>?_)
 ·have h2:=cU t34;refine ba ?_;rw[wW (by rw[H5 h1 h2];exact h2),H5 h1 h2];rfl
 have h2:=cP t34;have hol:=Iy (Ew h2);refine gl ?_;refine gl ?_;refine gC (fun t41=>?_) (fun t41=>?_)
 ·have h3 : a.bs.length ≠ ps.length := by have := mo t41; omega
  refine ba ?_;rw[wW (by rw[CB h1 h2 h3];decide),CB h1 h2 h3];rfl
 have h3:a.bs.length=ps.length:=by have:=qf t41;omega
 refine gl ?_;refine aI [2,7,44,45] [2,7] (fun(i:Nat)=>[(46,some (i64 i))]) (fun _=>[]) (fun i=>i<=a.bs.length/\∀b∈a.bs.take i,bn a.rs b.l=0) (fun i=>a.bs.length-i) 0 ⟨zero_le _,fun b hb=>by simp at hb⟩ ?_;rintro i ⟨hi,hj⟩ K1 J1;refine gC (fun t47=>?_) (fun t47=>?_)
 ·have hin:=aQ t47;obtain ⟨b,hb⟩:=au hin;have hbn:=ha.nr b (mem_of_getElem? hb);refine gi (ax hb) ?_;refine ge rfl ?_;refine aI [2,7,44,45,46,58,59] [2,7] (fun (k:Nat)=>[(60,some (i64 k))]) (fun _=>[]) (fun k=>k <= 4 /\ ∀ x ∈ b.l.take k,bQ a.rs.length x = 0) (fun k=>4 - k) 0 ⟨zero_le _,fun x hx=>by simp at hx⟩ ?_;rintro k ⟨hk,hkj⟩ K2 J2;refine gC (fun t61=>?_) (fun t61=>?_)
  ·have hkn:k<4:=aQ (b:=4) t61;obtain⟨x,hx⟩:∃x,b.l[k]?=some x:=au (l:=b.l) hkn;have hxn:=hbn x (mem_of_getElem? hx);have hone:bn a.rs [x]=bQ a.rs.length x:=Fo h1;refine gi (ax hx) ?_;refine gc (Ai a.rs 40000 ha.tr x 4000 hxn oz) ?_;refine gC (fun t72=>?_) (fun t72=>?_)
   ·have h4:=cU t72;rw [hone] at h4;have h6:mE a ps = bQ a.rs.length x:=by rw [D7 h1 h2 h3,Bp hb hj (by rw [rO h1 hx hkj h4]; exact h4),rO h1 hx hkj h4]
    refine ba ?_;rw[wW (by rw[h6];exact h4),h6,hone];rfl
   have h4:=cP t72;rw[hone]at h4;refine ga aF ?_;exact aE J2 (k+1) ⟨hkn,fun y hy=>by rw[dj hx]at hy;rcases List.mem_append.1 hy with h9 |h9;exact hkj y h9;(rw[List.mem_singleton.1 h9];exact h4)⟩
  have hkn:k=4:=a6 (b:=4) hk t61;subst hkn;have h4:bn a.rs b.l=0:=pS h1 hkj;refine ga aF ?_;exact aE J1 (i+1) ⟨hin,fun y hy=>by rw[dj hb]at hy;rcases List.mem_append.1 hy with h9 |h9;exact hj y h9;(rw[List.mem_singleton.1 h9];exact h4)⟩
 have hin:=a6 hi t47;subst hin;rw[take_length]at hj;have h6:mE a ps=0:=by rw[D7 h1 h2 h3];exact mf (fun e he=>by obtain⟨b,hb,rfl⟩:=List.mem_map.1 he;exact hj b hb)
 have h7:=M3 h6;have hts:(llq a.rs).length=a.rs.length:=length_map _;refine gl ?_;refine aI [2,7,77,78] [2,7] (fun(i:Nat)=>[(79,some (i64 i))]) (fun _=>[]) (fun i=>i<=a.bs.length/\((a.bs.zip ps).take i).all (fun z=>o0 (llq a.rs) z.1 (fU z.2))=true) (fun i=>a.bs.length-i) 0 ⟨zero_le _,rfl⟩ ?_;rintro i ⟨hi,hja⟩ K3 J3;refine gC (fun t80=>?_) (fun t80=>?_)
 ·have hin:=aQ t80;obtain ⟨b,hb⟩:=au hin;obtain ⟨p,hp⟩:∃ p,ps[i]? = some p:=au oz;have hz:=QP hb hp;obtain ⟨hba,hbo⟩:=Jd (hj b (mem_of_getElem? hb)) (ha.nr b (mem_of_getElem? hb)) h5;have hpo:=P3 h5 (hps p (mem_of_getElem? hp));have hgb:(a.bs.map Pl.av)[i]? = some (Pq.av ⟨lq b.c,lq b.s,lq b.x,lq b.y⟩):=by rw [ax hb,hba]
  have hgp:((ofL ps).map Pq.av)[i]?=some (fU p).av:=by rw[hol];exact ax (show(ps.map fU)[i]?=some (fU p) by rw[getElem?_map,hp];rfl)
  have hzn:=UI hbo hpo;refine gi hgb ?_;refine gi hgp ?_;refine gs (V3 (.cons (.tmp rfl) (.cons (.tmp rfl) (.cons (.tmp rfl) (.cons (.tmp rfl) .nil)))) T303 rfl T302 rfl rfl rfl) ?_;refine aI [2,7,77,78,79,109] [2,7] (fun(k:Nat)=>[(110,some (i64 k))]) (fun _=>[]) (fun k=>k<=4/\((pz b (fU p)).take k).all (rC (llq a.rs))=true) (fun k=>4-k) 0 ⟨zero_le _,rfl⟩ ?_;rintro k ⟨hk,hka⟩ K4 J4;refine gC (fun t111=>?_) (fun t111=>?_)
  ·have hkn:k<4:=aQ (b:=4) t111;obtain⟨z,hz1,hz2⟩:=Jx (b:=b) (w:=fU p) hkn;obtain⟨hn1,hn2⟩:=hzn z (mem_of_getElem? hz1);rw[<- hts]at hn1 hn2;have hcmp:=uD tw hn1 hn2 oz;rw[<- hta]at hcmp;refine gs (O2 (.tmp rfl) (.tmp rfl) T303 rfl T302 rfl rfl hkn hz2 rfl) ?_;refine gc hcmp ?_;refine gC (fun t128=>?_) (fun t128=>?_)
   ·have h8:rC (llq a.rs) z=false:=L8 t128;refine ba ?_;rw[h6,h7,jI hz (by rw[<- E9];exact jI hz1 h8)];rfl
   have h8:rC (llq a.rs) z=true:=Mf t128;refine ga aF ?_;exact aE J4 (k+1) ⟨hkn,jP hka hz1 h8⟩
  have hkn:k=4:=a6 (b:=4) hk t111;subst hkn;have h8:o0 (llq a.rs) b (fU p)=true:=by rw[<- E9];exact hka
  refine ga aF ?_;exact aE J3 (i+1) ⟨hin,jP hja hz h8⟩
 have hin:=a6 hi t80;refine ba ?_;rw[h6,h7,kq (by rw[hin,List.length_zip,h3,Nat.min_self]) hja];rfl
def zD:Pl:=⟨[rt 1],[],[],[]⟩
def j7:Pse:=⟨t0,⟨⟨false,[],[]⟩,⟨false,[],[]⟩⟩⟩
def pC:As:=⟨[],[zD],[]⟩
theorem wC:(⟨false,[],[]⟩:Rt).ok:=⟨ou,ou,zero_le _,zero_le _⟩
theorem AF:(⟨false,[],[]⟩:Rt).q=0:=Rt.zero (fun h=>h.2 rfl)
theorem G6:j7.lok:=by
 have h:Qb 96 (⟨false,[],[]⟩:Rt).q:=by rw[AF];exact Qb.zero.mono oz
 exact⟨⟨wC,wC,wC⟩,h,h,h⟩
theorem Uh:(rt 1).ok:=(qT (n:=1) oz).ok
theorem VK:gY zD.l:=by
 intro x hx;simp only[Pl.l,zD,mem_cons,not_mem_nil,or_false]at hx;rcases hx with rfl |rfl |rfl |rfl
 ·exact⟨fun r hr=>by rw[List.mem_singleton.1 hr];exact Uh.wok,by show 1<=_;omega⟩
 ·exact⟨fun r hr=>(by cases hr),(by show 0<=_;omega)⟩
 ·exact⟨fun r hr=>(by cases hr),(by show 0<=_;omega)⟩
 ·exact⟨fun r hr=>(by cases hr),(by show 0<=_;omega)⟩
theorem Ln:AL pC:=SE (by decide +kernel) ⟨G5,by decide,fun b hb=>by simp only[pC,mem_cons,not_mem_nil,or_false]at hb;rcases hb with rfl;exact VK,by decide⟩
theorem RU:mE pC [j7]=0:=by decide +kernel
theorem TB:mB pC [j7]=true:=by decide +kernel
theorem MW:io [j7]=0:=by decide +kernel
theorem MV:uh (ofL [j7])=pC.av:=by
 have h:ofL [j7]=[fU j7]:=rfl;have c1:du false 0=1:=by decide +kernel
 have s1:dp false 0=0:=by decide +kernel
 have h2:fU j7=⟨[1],[],[],[]⟩:=by
  show(⟨sh 0 (du false (⟨false,[],[]⟩:Rt).q:Rat),sh 0 (dp false (⟨false,[],[]⟩:Rt).q:Rat),sh 0 ((⟨false,[],[]⟩:Rt).q:Rat),sh 0 ((⟨false,[],[]⟩:Rt).q:Rat)⟩:Pq)=_;rw[AF,c1,s1];rfl
 rw[h,h2];rfl
theorem Sub.lst1{sz:Nat}{e e':AV}(h:il e e'):Sub (.lst sz [e]) (.lst sz [e']):=by
 refine Sub.lst rfl (fun i x y hx hy=>?_)
 match i,hx,hy with
 |0,hx,hy=>cases hx;cases hy;exact h
theorem qw:Sub (.v (.bool false)) (bl false):=.refl _
theorem mT:Sub (nS) (ws []):=.nil _ _ _
theorem SH:il (.agg [.v (.bool false),nS,nS,.v (.bool false),.v (.bool false),nS,nS,.v (.bool false),nS,nS]) j7.av :=
 .ofL (.cons qw (.cons mT (.cons mT (.cons qw (.cons qw (.cons mT (.cons mT (.cons qw (.cons mT (.cons mT .nil)))))))))) rfl
theorem RR:il (.agg [.v (.bool false),nS,nS,.v (.bool false)]) t0.av :=
 .ofL (.cons qw (.cons mT (.cons mT (.cons qw .nil)))) rfl
def xE:Aq:=⟨[],[gN,gN,gN,gN],[]⟩
theorem Uq:AqS fb xE:=by
 refine⟨Ez,⟨0,by omega,vg⟩,by decide,fun p hp=>?_,rfl⟩
 have e:p=gN:=by
  simp only[xE,mem_cons,not_mem_nil,or_false]at hp;rcases hp with h |h |h |h <;> exact h
 rw[e];exact GU.up (le_refl _) (by show 0<=5;omega) oz
theorem Vn:jK fb [t0]=0:=BS Ez rfl (fun y hy=>by rw[List.mem_singleton.1 hy];decide +kernel)
theorem TP:iS fb [t0] xE=(3,1):=by decide +kernel
theorem E2:FP 49 [] (bl true):=by
 have hv:=D0 Re Uq [t0] (fun x hx=>by rw[List.mem_singleton.1 hx];exact⟨wC,by show Qb 1000 (⟨false,[],[]⟩:Rt).q;rw[AF];exact Qb.zero.mono oz⟩) (by decide);rw[Vn,if_pos rfl,TP]at hv;have ho:=Hk [j7] (fun p hp=>by rw[List.mem_singleton.1 hp];exact G6) (by decide);rw[MW,MV]at ho;have hm:=TT pC Ln [j7] (fun p hp=>by rw[List.mem_singleton.1 hp];exact G6) (by decide);rw[RU,TB]at hm;have sp:Sub (.lst 10 [.agg [.v (.bool false),nS,nS,.v (.bool false),.v (.bool false),nS,nS,.v (.bool false),nS,nS]]) (.lst 10 ([j7].map Pse.av)):=Sub.lst1 SH;have st:Sub (.lst 4 [.agg [.v (.bool false),nS,nS,.v (.bool false)]]) (.lst 4 ([t0].map Tn.av)):=Sub.lst1 RR;refine ah func49 ?_;refine gc VN ?_;refine gc Mo ?_;refine gc (Con.sA (.cons (.refl _) (.cons st (.cons (.agg (.cons (.nil _ _ _) (.cons (.refl _) (.cons (.nil _ _ _) .nil))) rfl) .nil))) hv) ?_;refine gD ?_;refine gc (Con.sA (.cons sp .nil) ho) ?_;refine gc (Con.sA (.cons (.refl _) (.cons sp .nil)) hm) ?_;refine gs (ee rfl rfl rfl (fun h=>Fg (.opt rfl (o1 h)) (.opt rfl (o1 h)) (by kernel_rfl) rfl)) ?_;refine ae ?_;rfl
theorem KW{R:Type}[Lean.Grind.CommRing R]{C S X Y m1 m2 n1 n2:R}(h:C*C+S*S-1=0) :
  ((C*n1-S*n2+X)-(C*m1-S*m2+X))*((C*n1-S*n2+X)-(C*m1-S*m2+X))+((S*n1+C*n2+Y)-(S*m1+C*m2+Y))*((S*n1+C*n2+Y)-(S*m1+C*m2+Y))=(n1-m1)*(n1-m1)+(n2-m2)*(n2-m2):=by
 have h1:C*C+S*S=1:=by grind
 have h2:((C*n1-S*n2+X)-(C*m1-S*m2+X))*((C*n1-S*n2+X)-(C*m1-S*m2+X))+((S*n1+C*n2+Y)-(S*m1+C*m2+Y))*((S*n1+C*n2+Y)-(S*m1+C*m2+Y))=(C*C+S*S)*((n1-m1)*(n1-m1)+(n2-m2)*(n2-m2)):=by
  clear h h1;grind
 rw[h2,h1];clear h h1 h2;grind
def kW{ts:LL}(P Q:P2 ts):Et ts:=(Q.1-P.1)*(Q.1-P.1)+(Q.2-P.2)*(Q.2-P.2)
def nB(m n:Rat×Rat):Rat:=(n.1+-m.1)*(n.1+-m.1)+(n.2+-m.2)*(n.2+-m.2)
theorem Ky{ts:LL}{r:Nat}(tw:Tw ts r){p:Pq}(hc:CH ts p)(m n:Rat×Rat):fK ts (kW (bM ts p m) (bM ts p n)) (T.ofQ ts.length (nB m n))=true:=by
 have hp:iF ts:=tw.pos;refine decide_eq_true ?_;show sg (aj ts) ts.length (kW (bM ts p m) (bM ts p n)-qE (nB m n))=0;refine(kr hp (x:=kW (bM ts p m) (bM ts p n)) (y:=qE (nB m n))).1 ?_;have h9:=(e8 hp).2 hc;rw[cJ,jS,co,co,BV]at h9
 have e:(qE (nB m n):Et ts)=(qE n.1-qE m.1)*(qE n.1-qE m.1)+(qE n.2-qE m.2)*(qE n.2-qE m.2):=by
  unfold nB;rw[lS,kD,kD,lS,lS,yS,yS];grind
 rw[e];unfold kW bM;dsimp only;simp only[jS,cJ,co];exact KW h9
theorem B9{l:Li}{a:Aq}(F:AqS l a){i:Nat}{p:Pq}(hp:a.bs[i]?=some p){m:Mk}{q:Rat×Rat}(hq:Sm 1000 q)(ex:m.x=rt q.1)(ey:m.y=rt q.2) :
  FP 52 [a.av,i64 i,m.x.av,m.y.av] (.tup [aG (sX (bM a.ts p q).1) (sX (bM a.ts p q).2),.v .nilIface]):=by
 obtain⟨r,hr,tw⟩:=F.tw;have hkb:=oN hr F.two;have hlm:=n8 F.two;have hlb:=(cO F.li).2.2.2.1;have hln:=F.ln;have hil:=(List.getElem?_eq_some_iff.1 hp).1;have po:=F.bs p (mem_of_getElem? hp)
 have hat:FP 86 [aL a.ts,p.av,m.x.av,m.y.av] (.tup [aG (sX (bM a.ts p q).1) (sX (bM a.ts p q).2),.v .nilIface]):=by
  rw[ex,ey];exact Ae tw po.c po.s po.x po.y (hq.x.mono oz) (hq.y.mono oz) oz
 refine ah func52 ?_;refine gc (GN tw) ?_;refine gC (fun t15=>?_) (fun t15=>?_) (st1:=(3,0));cases t15;refine ci ?_;refine gC (fun t26=>?_) (fun t26=>?_) (st1:=(5,0));exact absurd (II t26) oz;refine gi (ax hp) ?_;refine gc hat ?_;refine gD ?_;refine ba ?_
 first |rfl |(simp;done)
theorem De{ts:LL}{r e:Nat}(tw:Tw ts r){a b c d:List Rat}(ha:Nm ts.length e a)(hb:Nm ts.length e b)(hc:Nm ts.length e c)(hd:Nm ts.length e d)(he:2*(2*(2*e+1)+kB r ts.length)<=lm ts.length) :
  FP 53 [aL ts,aG a b,aG c d] (.tup [nA (sX (kW (dE ts a,dE ts b) (dE ts c,dE ts d))),.v .nilIface]):=by
 have hca:=mL tw [(a,b),(c,d)] (e:=e) (fun p hp=>by
  simp only[mem_cons,not_mem_nil,or_false]at hp;rcases hp with rfl |rfl
  ·exact⟨ha,hb⟩
  ·exact⟨hc,hd⟩) oz (by show 2<=500;omega)
 have hle:=rJ tw hc hd ha hb oz;have m1:=hc.sub ha;have m2:=hd.sub hb;have hdo:=yx tw m1 m2 m1 m2 oz;rw[aZ,aZ]at hdo;refine ah func53 ?_;refine gc hca ?_;refine gC (fun t17=>?_) (fun t17=>?_) (st1:=(3,0)) (st2:=(5,0));cases t17;refine gW (Wk.o (sl:=[(4,some (.ptr 4 0)),(5,some (.ptr 5 0)),(9,some (.ptr 21 0))]) (hp:=[(4,some (.box [nA a,nA b])),(5,some (.box [nA c,nA d])),(21,some (.box [.lst 1 (ts.map nA),.v .nilIface]))])) ?_;refine gt (ay (Con.rB 21 rfl rfl rfl rfl hle) (aA rfl rfl rfl) az rfl rfl) ?_;refine gt (ay (Con.rB 21 rfl rfl rfl rfl hdo) (aA rfl rfl rfl) az rfl rfl) ?_;refine gt (ay (Con.rB 21 rfl rfl rfl rfl (ve _ _)) (bm rfl rfl) az rfl rfl) ?_;refine ba ?_;rfl
theorem HE{l:Li}{a:Aq}(F:AqS l a){p:Pq}(hp:p∈a.bs){q:Rat×Rat}(hq:Sm 1000 q):Nm a.ts.length 12100000000 (sX (bM a.ts p q).1)/\Nm a.ts.length 12100000000 (sX (bM a.ts p q).2):=by
 obtain⟨r,hr,tw⟩:=F.tw;have hk:=oN hr F.two;have po:=F.bs p hp
 have hb:Pq.ok a.ts.length 3200000000 ⟨lq p.pl.c,lq p.pl.s,lq p.pl.x,lq p.pl.y⟩:=by
  unfold Pq.pl;dsimp only;rw[cF,cF,cF,cF];exact po
 have h:=Ef tw hb hq;unfold Pq.pl at h;dsimp only[iY]at h;rw[cF,cF,cF,cF]at h;exact⟨h.1.mono oz,h.2.mono oz⟩
theorem DU{T:LL}(P:P2 T):(dE T (sX P.1),dE T (sX P.2))=P:=Prod.ext (aZ _ _) (aZ _ _)
theorem S4{m n:Rat×Rat}(hm:Sm 1000 m)(hn:Sm 1000 n):Qb 20000 (nB m n):=by
 have h1:=hn.x.add hm.x.neg;have h2:=hn.y.add hm.y.neg;exact((h1.mul h1).add (h2.mul h2)).mono oz
theorem PC{l:Li}{a:Aq}(F:AqS l a){p:Pq}(hp:p∈a.bs)(hc:CH a.ts p){m n:Rat×Rat}(hm:Sm 1000 m)(hn:Sm 1000 n) :
  FP 53 [aL a.ts,aG (sX (bM a.ts p m).1) (sX (bM a.ts p m).2),aG (sX (bM a.ts p n).1) (sX (bM a.ts p n).2)] (.tup [nA (sX (kW (bM a.ts p m) (bM a.ts p n))),.v .nilIface]) /\
  FP 23 [aL a.ts,nA (sX (kW (bM a.ts p m) (bM a.ts p n))),nA (sh 0 (nB m n:Rat))] (bl true):=by
 obtain⟨r,hr,tw⟩:=F.tw;have hkb:=oN hr F.two;have hlm:=n8 F.two;have n1:=HE F hp hm;have n2:=HE F hp hn;have hd:=De tw n1.1 n1.2 n2.1 n2.2 oz;rw[DU,DU]at hd;refine⟨hd,?_⟩;have d1:=n2.1.sub n1.1;have d2:=n2.2.sub n1.2;have dn:=vW tw d1 d2 d1 d2;have ed:∀y:Et a.ts,ad a.ts.length (sX y)=y:=fun y=>aZ _ _
 rw[aZ,aZ,ed,ed,ed,ed]at dn;have nw:=Nm.ofQ tw.five (Cb.one (S4 hm hn));have h:=MI (a:=sX (kW (bM a.ts p m) (bM a.ts p n))) tw (show Nm a.ts.length _ (sX (kW (bM a.ts p m) (bM a.ts p n)))from dn) nw oz;rw[ia,show ad a.ts.length (sX (kW (bM a.ts p m) (bM a.ts p n)))=_ from aZ _ _,Ky tw hc m n]at h;exact h
theorem Tr{m n:Rat×Rat}(hm:Sm 1000 m)(hn:Sm 1000 n) :
  FP 53 [.agg [nS],aG (sh 0 (m.1:Rat)) (sh 0 (m.2:Rat)),aG (sh 0 (n.1:Rat)) (sh 0 (n.2:Rat))] (.tup [nA (sh 0 (nB m n:Rat)),.v .nilIface]):=by
 have nm:∀{q:Rat},Qb 1000 q->Nm ([]:LL).length 2000 (sh 0 (q:Rat)):=fun h=>qN (by show 0<=5;omega) h
 have hk:kB 0 ([]:LL).length=0:=rfl;have hlm:=iu ([]:LL).length;have h:=De vg (nm hm.x) (nm hm.y) (nm hn.x) (nm hn.y) oz;have e:∀q:Rat,(dE [] (sh 0 (q:Rat)):Et [])=(q:Rat):=fun q=>aZ 0 q
 rw[e,e,e,e]at h;exact Con.sA (.cons (.agg (.cons (.nil _ _ _) .nil) rfl) (.cons (.refl _) (.cons (.refl _) .nil))) h
theorem GZ{m:Mk}{q:Rat×Rat}(hq:Sm 1000 q)(ex:m.x=rt q.1)(ey:m.y=rt q.2):FP 54 [m.x.av,m.y.av] (aG (sh 0 (q.1:Rat)) (sh 0 (q.2:Rat))):=by
 rw[ex,ey];exact ud (hq.x.qs oz) (hq.y.qs oz)
theorem Dl{l:Li}(hl:l.ok)(hli:aB l=0){n k:Nat}{bd:Bd}{m:Mk}(hb:l.bo[n]?=some bd)(hm:bd.pts[k]?=some m):m.x=rt m.x.q/\m.y=rt m.y.q/\Sm 1000 (m.x.q,m.y.q):=by
 have hv:=Gs hli hb hm;have ho:=(hl.bo bd (mem_of_getElem? hb)).pts m (mem_of_getElem? hm);exact⟨Rt.eq_rt ho.x hv.1,Rt.eq_rt ho.y hv.2,⟨ho.qx.mono oz,ho.qy.mono oz⟩⟩
theorem SM{l:Li}{xs:List Tn}{a:Aq}(F:AqFin l xs a):jK l xs=0:=BS F.li F.lx (fun x hx=>(F.xo x hx).1)
theorem Jo{l:Li}{xs:List Tn}{a:Aq}(F:AqFin l xs a):iS l xs a=(0,0):=by
 have f1:cq a.bs.length (fun i=>oM a.ts i (a.bs.getD i bp))=none:=fC (fun i hi=>by
  have hc:=F.cs i (by rw[<- F.ln];exact hi);unfold oM;rw[Og hc,Bool.true_and]
  by_cases h0:i=0
  ·subst h0;rw[F.fr,MF];simp
  ·rw[decide_eq_true (by omega:0<i)];rfl)
 have f2:cq l.jo.length (fun i=>mv l a (l.jo.getD i default))=none:=fC (fun i hi=>by
  obtain⟨j,hj⟩:=au hi;rw[aC hj];exact Nt (F.js j (mem_of_getElem? hj)))
 have f3:cq l.dv.length (oX l xs a)=none:=fC (fun i hi=>by
  obtain⟨d,hd⟩:=au hi;have h:=F.dr i d hd;unfold oX w9;rw[aC hd,ia,ia];rw[show ad a.ts.length (a.bs.getD d.body.toNat bp).c=T.ofQ a.ts.length (du (xs.getD i iA).half (xs.getD i iA).t.q)from h.1,show ad a.ts.length (a.bs.getD d.body.toNat bp).s=T.ofQ a.ts.length (dp (xs.getD i iA).half (xs.getD i iA).t.q)from h.2,vL,vL];rfl)
 unfold iS;rw[f1,f2,f3]
theorem Ri{e n:Nat}(h:cond (!(dl (fH e))) true (aa .eql (n:Int) 0)=true):e≠0\/n=0:=by
 cases h1:dl (fH e)
 ·exact .inl (x7 h1)
 ·rw[h1]at h;exact .inr (xw h)
theorem BN{a b:Nat}:(a:Int).tmod (b:Int)=((a%b:Nat):Int):=by rw[Int.natCast_emod,Int.tmod_eq_emod_of_nonneg oz]
theorem Sp(l:Li)(hw:l.okw)(xs:List Tn)(hxw:∀x∈xs,x.t.wok)(hxl:xs.length<=281474976710656)(n0 n1 n2:Nat)(h0:n0<256)(h1:n1<256)(h2:n2<256) :
  FP 11 [l.av,.lst 4 (xs.map Tn.av),.agg [u8 n0,u8 n1,u8 n2]] (bl true):=by
 refine ah func11 ?_;refine gc E2 ?_;refine bJ (fun _=>(Lj l hw xs hxl)) ?_;refine bJ (fun h=>(GG l (uZ (Aj (Mh h) hxw).1 hw))) ?_;refine gC (fun t38=>?_) (fun t38=>?_)
 ·refine gc E2 ?_;refine ae ?_
  first |rfl |(simp;done)
 obtain⟨g1,hli⟩:=Uv t38;obtain⟨g2,hx20,hxo⟩:=Aj g1 hxw;have hl:=uZ g2 hw;obtain⟨A,e,P⟩:=So hl g1 hxw;have FF:=Rx hl g1 hxw P.eq;have hAl:=P.ln;refine gc P.all ?_;refine ci ?_;refine gC (fun t52=>?_) (fun t52=>?_)
 ·have hA:A=[]:=by
   rcases Ri t52 with h9 |h9
   ·exact Vf P.eq h9
   ·exact List.eq_nil_of_length_eq_zero h9
  subst hA;refine gl ?_;refine ae ?_;rfl
 have hbp:=(cO hli).2.2.2;obtain⟨k,hk⟩:∃k,n0%l.bo.length=k:=⟨_,rfl⟩
 have hkl:k<l.bo.length:=by rw[<- hk];exact Nat.mod_lt _ oz
 obtain⟨bd,hbd⟩:=au hkl;refine gs (zy (.tmp rfl) (.const _) T117 rfl T5 rfl oz oz rfl) ?_;refine gv (i64_in oz) ?_;refine gl ?_;refine gs (nH (.tmp rfl) (.tmp rfl) oz (show _=((k:Nat):Int) by rw[<- hk];exact BN) rfl) ?_;refine gi (ax hbd) ?_;refine gl ?_;refine gC (fun t71=>?_) (fun t71=>?_)
 ·refine ae ?_;rfl
 have hpl:bd.pts.length≠0:=xT t71;obtain⟨i1,hi1⟩:∃i,n1%bd.pts.length=i:=⟨_,rfl⟩
 obtain⟨i2,hi2⟩:∃i,n2%bd.pts.length=i:=⟨_,rfl⟩
 have hil1:i1<bd.pts.length:=by rw[<- hi1];exact Nat.mod_lt _ oz
 have hil2:i2<bd.pts.length:=by rw[<- hi2];exact Nat.mod_lt _ oz
 obtain⟨m1,hm1⟩:=au hil1;obtain⟨m2,hm2⟩:=au hil2;obtain⟨ex1,ey1,s1⟩:=Dl hl hli hbd hm1;obtain⟨ex2,ey2,s2⟩:=Dl hl hli hbd hm2;have w1:∀{a:Aq}{p:Pq}(F:AqS l a)(hp:a.bs[k]?=some p),_:=fun F hp=>B9 F hp s1 ex1 ey1
 have w2:∀{a:Aq}{p:Pq}(F:AqS l a)(hp:a.bs[k]?=some p),_:=fun F hp=>B9 F hp s2 ex2 ey2
 have of1:=GZ s1 ex1 ey1;have of2:=GZ s2 ex2 ey2;have hwt:=Tr s1 s2;clear ex1 ey1 ex2 ey2;refine gs (zy (.tmp rfl) (.const _) T117 rfl T5 rfl oz oz rfl) ?_;refine gv (i64_in oz) ?_;refine gl ?_;refine gs (nH (.tmp rfl) (.tmp rfl) oz (show _=((i1:Nat):Int) by rw[<- hi1];exact BN) rfl) ?_;refine gi (ax hm1) ?_;refine gs (zy (.tmp rfl) (.const _) T117 rfl T5 rfl oz oz rfl) ?_;refine gv (i64_in oz) ?_;refine gl ?_;refine gs (nH (.tmp rfl) (.tmp rfl) oz (show _=((i2:Nat):Int) by rw[<- hi2];exact BN) rfl) ?_;refine gi (ax hm2) ?_;refine gD ?_;refine gl ?_;refine aI [1,3,9,11,12,90,91] [3,11,12] (fun(i:Nat)=>[(92,some (i64 i))]) (fun _=>[]) (fun i=>i<=A.length) (fun i=>A.length-i) 0 (zero_le _) ?_;rintro i hi K1 J1;refine gC (fun t93=>?_) (fun t93=>?_)
 ·have hin:=aQ t93;obtain⟨a,ha⟩:=au hin;have F:=FF a (mem_of_getElem? ha);obtain⟨p,hp⟩:=au (l:=a.bs) (i:=k) (by rw[F.ln];exact hkl);have hc:=F.cs k hkl;rw[aC hp]at hc;have hpm:=mem_of_getElem? hp;have hv:=D0 hl F.s xs (fun x hx=>⟨(F.xo x hx).2.2,(F.xo x hx).2.1⟩) hxl;rw[SM F,if_pos rfl,Jo F]at hv;obtain⟨hd1,hd2⟩:=PC F.s hpm hc s1 s2;have z0:dl (fH 0)=true:=rfl;have z1:dl Value.nilIface=true:=rfl;refine gi (ax ha) ?_;refine gc hv ?_;refine gc (w1 F.s hp) ?_;refine gc (w2 F.s hp) ?_;refine gc hd1 ?_;refine gc of1 ?_;refine gc of2 ?_;refine gc hwt ?_;refine gD ?_;refine bJ (fun _=>hd2) ?_;refine gC (fun t176=>?_) (fun t176=>?_) (st1:=(20,0));cases t176;refine ga aF ?_;exact aE J1 (i+1) hin
 refine ae ?_;rfl
variable{P:Program}{W:World}{H:Type}{enc:TypeId×Value->H}
theorem Rb{t e:TypeId}{n:Nat}{α:Type}{f:α->AV}{p:α->Prop}(ht:P.underlying t=some (.array 3 e))(hc:P.cellsOf e=n)(hct:P.cellsOf t=n+(n+n))(hel:cD P W enc e f p)(hln:∀a,(f a).cells.length=n) :
  cD P W enc t (fun z:α×α×α=>.agg ((f z.1).cells++((f z.2.1).cells++(f z.2.2).cells))) (fun z=>p z.1/\p z.2.1/\p z.2.2):=by
 intro sp fuel cs x h hwt;obtain⟨xs,k,rfl,hxe,hl,hxl,hE⟩:=DataW.trod_array ht h
 match xs,hxl with
 |[x0,x1,x2],_ =>
  have e0:=hE 0 oz;have e1:=hE 1 oz;have e2:=hE 2 oz
  have hw:∀y∈[x0,x1,x2],∀n∈y.1.weights P e,n<=reachBytes:=fun y hy k hk=>hwt k (by
   rw[hxe];simp only[DataW.weights,ht];exact zi (List.mem_map.2 ⟨y,hy,rfl⟩) k hk)
  rw[hc,Nat.zero_mul,drop_zero]at e0;rw[hc,Nat.one_mul]at e1;rw[hc,show 2*n=n+n by omega]at e2;obtain⟨a,ha,hca⟩:=hel _ _ _ _ e0 (hw x0 (by simp));obtain⟨b,hb,hcb⟩:=hel _ _ _ _ e1 (hw x1 (by simp));obtain⟨c,hc2,hcc⟩:=hel _ _ _ _ e2 (hw x2 (by simp));refine⟨(a,b,c),⟨ha,hb,hc2⟩,?_⟩;have h8:=Bq (W:=W) (cs:=cs) (off:=n) (n:=n) (m:=n) hcb (hln b) hcc;have h9:=Bq (W:=W) (cs:=cs) (off:=0) (n:=n) (m:=n+n) (by rw[drop_zero];exact hca) (hln a) (by rw[Nat.zero_add];exact h8);rw[drop_zero,<- hct,<- hl,take_length]at h9;exact h9
end Go.Lw
namespace Go.Lw
open Go.Proofs Go.Proofs.YtlilpljpajeafaaGreat
open Go.ChangeShapes Go.WideShapes Go.ChangeAt Go.RowKit
theorem MK{W:World}{H:Type}{enc:TypeId×Value->H}:cD prog W enc 117 (fun z:Nat×Nat×Nat=>.agg [u8 z.1,u8 z.2.1,u8 z.2.2]) (fun z=>z.1<256/\z.2.1<256/\z.2.2<256) :=
 Rb Tryz.underlying117 (n:=1) (by kernel_rfl) (by kernel_rfl) NJ (fun _=>rfl)
set_option maxRecDepth 100000 in
theorem Np(os:Os)(started:os.Started)(H:Type)(enc:TypeId×Value->H) :
  ReturnsInHanded {} Tryz.checked os 11 .any (Rows.certifyRigidSpec.pre6 enc prog Tryz.f11 Rows.certifyRigidRow.domain false) (Rows.certifyRigidSpec.post enc prog Tryz.f11 false true false false):=by
 refine returnsInHanded_of_change_sized (C := Tryz.checked) own started (by kernel_rfl) func11
  (ChangeSpec.witness6 (enc:=enc) (C:=Tryz.checked) false ⟨#[],#[.agg #[.string ⟨#[]⟩,.slice none 0 0,.slice none 0 0,.slice none 0 0],.slice none 0 0,.agg #[.int .u8 0,.int .u8 0,.int .u8 0]],[]⟩ 8 (by kernel_rfl) (by kernel_rfl) (by kernel_rfl) (by kernel_rfl)) ?_
 intro W base args ds gs before hval0 hW hcnd hwt0 _;have hval:∀(j:Nat) t v,Tryz.f11.params[j]?=some t->args[j]?=some v->Value.okWide prog W .any base t v:=hval0;have hwt:(DataW.weightsEach prog (Tryz.f11.params.toList++Rows.certifyRigidSpec.plain.varTypes prog) (ds++gs)).all (· <= reachBytes)=true:=hwt0;have hW':=hW;obtain⟨p,q,hA0,hV,rfl,hfz,hnd⟩:=hW;have hA:DataW.TrodAll enc prog W 0 (fun _=>true) true Tryz.f11.params.toList args.toList ds p:=hA0;rw[Tryz.params11]at hA hval hwt;obtain⟨v0,v1,v2,d0,d1,d2,p0,p1,p2,rfl,rfl,rfl,h0,h1,h2⟩:=trodAll_three hA;obtain⟨rfl,rfl⟩:=trodVars_none hV;clear hA0 hval0 hwt0;have hlt:∀x∈p0++p1++p2,x.block<W.heap.size:=fun x hx=>hW'.lt x (by simpa using hx)
 have hw0:∀n∈d0.weights prog 26,n<=reachBytes:=fun n hn=>by
  have:=List.all_eq_true.1 hwt n (DataW.weights_mem_each (j:=0) rfl rfl n hn);simpa using this
 have hw1:∀n∈d1.weights prog 84,n<=reachBytes:=fun n hn=>by
  have:=List.all_eq_true.1 hwt n (DataW.weights_mem_each (j:=1) rfl rfl n hn);simpa using this
 have hw2:∀n∈d2.weights prog 117,n<=reachBytes:=fun n hn=>by
  have:=List.all_eq_true.1 hwt n (DataW.weights_mem_each (j:=2) rfl rfl n hn);simpa using this
 obtain⟨x0,q0,r0⟩:=Q8 Tryz.underlying26 PL (hval 0 26 v0 rfl rfl) h0 hw0;obtain⟨x1,q1,r1⟩:=TU VQ (fun _=>rfl) (PY Tryz.underlying84 (hval 1 84 v1 rfl rfl)) h1 hw1;obtain⟨x2,q2,r2⟩:=O7 Tryz.underlying117 MK (hval 2 117 v2 rfl rfl) h2 hw2
 have hc:=iH.calls (W:=W) (vs:=#[v0,v1,v2]) (Sp x0 q0 x1 q1.1 q1.2 x2.1 x2.2.1 x2.2.2 q2.1 q2.2.1 q2.2.2) rfl (fun j v x hv hx=>by
  match j,hv,hx with
  |0,hv,hx=>cases hv;cases hx;exact r0
  |1,hv,hx=>cases hv;cases hx;exact r1
  |2,hv,hx=>cases hv;cases hx;exact r2)
 refine hc.mono fun e W' ⟨he,hb⟩=>?_
 subst he;refine⟨_,rfl,Kr hW' rfl rfl (fun _ _ _=>trodAll_mk1 (shut_bool Tryz.underlying4 _)) (fun sp hsp=>?_) rfl hb (ok_one (by kernel_rfl) rfl (okWide_bool_mk Tryz.underlying4 _))⟩;rw[Tryz.params11];have hs:∀x∈p0++p1++p2,sp x.block=true:=fun x hx=>hsp x (by simpa using hx)
 have g0:=z5 (sp':=sp) (by kernel_rfl) (of_decide_eq_true (by kernel_rfl)) h0 hb (fun x hx=>hlt x (by simp[hx])) (fun x hx=>hs x (by simp[hx]));have g1:=z5 (sp':=sp) (by kernel_rfl) (of_decide_eq_true (by kernel_rfl)) h1 hb (fun x hx=>hlt x (by simp[hx])) (fun x hx=>hs x (by simp[hx]));have g2:=z5 (sp':=sp) (by kernel_rfl) (of_decide_eq_true (by kernel_rfl)) h2 hb (fun x hx=>hlt x (by simp[hx])) (fun x hx=>hs x (by simp[hx]));have g:=trodAll_mk3 g0 g1 g2;rw[show p0++p1++p2++[]=p0++(p1++p2)from by simp];exact g
set_option maxRecDepth 100000 in
theorem RC:prog.closure 11=[11,49,36,85,175,282,362,176,174,195,292,364,293,279,280,360,390,365,392,295,391,294,281,361,393,296,37,103,194,193,290,291,363,196,104,197,297,55,127,234,50,118,211,313,368,369,395,212,215,316,318,372,374,371,389,396,397,346,398,399,402,400,401,352,248,247,317,320,373,213,314,315,370,319,332,378,214,119,216,120,121,227,326,228,232,269,330,327,273,357,274,246,350,351,376,377,358,355,272,233,331,244,348,218,219,321,243,77,161,122,177,138,124,125,231,164,328,230,329,142,322,126,210,220,217,222,223,323,86,54,178,229,163,160,179,324,325,375,123,162,267,221,225,226,139,245,252,349,388,409,140,224,116,208,209,117,31,57,32,95,185,285,284,286,96,186,97,187,188,51,107,199,98,15,59,131,60,132,236,133,237,333,134,94,184,33,99,135,238,334,379,403,411,405,414,415,413,380,404,412,407,406,381,239,335,189,101,100,190,287,288,191,17,61,136,240,336,137,242,347,241,337,343,387,338,382,339,383,384,340,385,386,408,341,342,344,345,62,141,159,88,143,158,251,68,153,271,356,74,72,75,144,63,67,155,146,145,249,353,250,70,147,156,262,263,264,157,53,265,260,256,266,257,253,254,255,354,258,259,261,151,268,270,148,154,64,71,87,149,65,78,165,73,79,76,150,152,192,289,52,23,83,169,89,180,277,170,182,283,278,181,183,105,171,172]:=by kernel_rfl
theorem Om:joinedFacts prog 11 Tryz.f11 Rows.certifyRigidSpec Rows.certifyRigidRow=true:=by
 unfold joinedFacts Program.recurses Program.inPlace Program.unfollowed Program.varsNamed;rw[RC,Fj,Kt,U2,Qv,Ot,L5]
 kernel_rfl
theorem certifyRigid_holds:Rows.CertifyRigidSaid :=
 OpenClaim.holds_of_wide 11 Tryz.f11 rfl rfl rfl rfl rfl rfl rfl ⟨rfl, rfl, rfl, rfl, rfl⟩ rfl rfl rfl rfl rfl (by kernel_rfl) func11 Om
  (of_decide_eq_true (by kernel_rfl)) (by unfold Func.isWrapper;first |(rw[if_pos (by decide +kernel)];kernel_rfl) |(rw[if_neg (by decide +kernel)];exact⟨rfl,rfl⟩))
  (fun os started H enc _=>Np os started H enc)
end Go.Lw
namespace Go.Proofs.YtlilpljpajeafaaGreat
theorem certifyRigid_proved:Rows.CertifyRigidSaid:=Go.Lw.certifyRigid_holds
end Go.Proofs.YtlilpljpajeafaaGreat
