/- ModesFrame: for any linkage and any turns the law returns true and leaves its arguments as they were. No other condition. Part 8 of 8: the statement -/
import Derived.Test.YtpdiojikejnehaaGreatWg
set_option linter.unusedVariables false
open List (mem_of_getElem? mem_cons_of_mem mem_append map_cons mem_cons all_cons length_cons foldl_cons mem_cons_self length_nil getD_eq_getElem?_getD all_eq_true getElem?_map append_assoc getElem?_eq_getElem append_nil map_append length_take take_of_length_le take_length map_nil not_mem_nil length_map getElem?_of_mem map_id length_replicate range_succ)
open Nat (le_refl lt_or_ge le_trans zero_le lt_of_le_of_lt)
open Option (map_eq_some_iff)
open Bool (and_eq_true or_eq_true)
open Int (toNat_natCast)
open Go.Proofs.Tryz
namespace Go.Lw
theorem Rt.qbV{r:Rt}{e:Nat}(h:r.ok)(he:1<=e)(hn:val r.num<2^e)(hd:val r.den<2^e):Qb e r.q:=by
 by_cases h0:r.valid=true/\r.num≠[]
 ·obtain⟨h1,h2,h3,h4,h5,h6⟩:=Rt.parts h h0.1 h0.2;refine⟨?_,?_⟩
  ·have : r.q.num.natAbs = val r.num := by rw [h1]; unfold sgn; split <;> omega
   rw[this];exact hn
  ·rw[h2];exact hd
 ·rw[Rt.zero h0];exact Qb.zero.mono he
theorem DS{l:List Nat}{b e:Nat}(h:¬1<l.length)(hb:l.length=1->ai l 0<=b)(he:b<2^e):val l<2^e:=by
 match l with
 |[]=>exact lt_of_le_of_lt (zero_le b) he
 |[x] =>
  have h1:x<=b:=hb rfl;have h2:val [x]=x:=by simp[val]
  rw[h2];omega
 |_::_::_=>simp at h
theorem zo{r:Rt}(h:r.ok)(hl:kT r=true):Qb 9 r.q:=by
 unfold kT at hl;rw[iQ,iQ,iQ,Bool.not_eq_true',Bool.or_eq_false_iff,Bool.or_eq_false_iff,Bool.or_eq_false_iff]at hl;obtain⟨⟨⟨h1,h2⟩,h3⟩,h4⟩:=hl;have g1:r.num.length<=1:=gN (b:=1) h1;have g2:r.den.length<=1:=gN (b:=1) h2;refine Rt.qbV h oz (DS (b:=400) oz (fun hh=>?_) (by decide)) (DS (b:=20) oz (fun hh=>?_) (by decide))
 ·rw[hh]at h3;exact gN (b:=400) h3
 ·rw[hh]at h4;exact gN (b:=20) h4
theorem NM{l:Li}{xs:List Tn}(h:cM l xs=0):ax l=0/\splitE l=0/\xs.length=l.dv.length/\∀x∈xs,x.err=0:=by
 unfold cM at h;split at h
 ·rename_i h1;exact absurd h h1
 ·rename_i h1;have h1:=Decidable.not_not.1 h1;unfold sT at h;split at h
  ·rename_i h2;exact absurd h h2
  ·rename_i h2;have h2:=Decidable.not_not.1 h2;split at h
   ·cases h
   ·rename_i h3;exact⟨h1,h2,Decidable.not_not.1 h3,fun x hx=>n7 h _ (List.mem_map.2 ⟨x,hx,rfl⟩)⟩
theorem VV(gs:List Gr):gs.countP kM+gs.countP (fun g=>decide (g.kind=0))=gs.length:=by
 induction gs with
 |nil=>rfl
 |cons g gs ih =>
  rw[List.countP_cons,List.countP_cons,length_cons]
  by_cases hk:g.kind=0
  ·have h1 : kM g = false := by unfold kM; simp [hk]
   rw[h1];simp only[hk,decide_true,Bool.false_eq_true,if_false,if_true];omega
  ·have h1:kM g=true:=decide_eq_true hk;rw[h1];simp only[hk,decide_false,Bool.false_eq_true,if_false,if_true];omega
theorem wR{s g:Nat}:∀{n m y y' j r E:Nat},eG s g n y j r E=true->m<=n->y'<=y->eG s g m y' j r E=true
 |n,0,y,y',j,r,E,h,hm,hy=>by
  have h1:=vj h;exact decide_eq_true h1
 |n+1,m+1,y,y',j,r,E,h,hm,hy=>by
  have h1:=tj h;unfold eG;simp only[and_eq_true,or_eq_true,decide_eq_true_eq];refine⟨vj h,wR h1.2 oz hy,?_⟩
  by_cases hz:y'=0
  ·exact .inl hz
  ·right;obtain ⟨y2,rfl⟩:∃ y2,y = y2 + 1:=⟨y - 1,by omega⟩
   have h2:=rq h;exact⟨h2.1,wR h2.2 oz oz⟩
theorem zp{l:Li}{xs:List Tn}(hL:je l xs=true)(hl:l.ok)(hxw:∀x∈xs,x.t.wok)(h0:cM l xs=0):∃s g,WkC l xs s g/\WkSt l s g (splitG l).length (eD l):=by
 obtain⟨hli,hsp,hln,hxe⟩:=NM h0;unfold je at hL;simp only[and_eq_true,decide_eq_true_eq]at hL;obtain⟨⟨_,_⟩,hT,hM,hR⟩:=hL;rw[all_eq_true]at hT hM;rw[if_pos hli]at hR;unfold yK at hR;rw[iQ,iQ,iz]at hR;have hdl:=Uy hli hsp;have hd2:=xt hli;have hcn:=VV (splitG l)
 have hxo:∀x∈xs,x.t.ok/\Qb 32 x.t.q:=fun x hx=>by
  have h9:=hT x hx;unfold lS at h9;rw[decide_eq_true_eq]at h9;have ho:=(hxw x hx).ok h9.1 h9.2 oz;exact⟨ho,(Rt.qb ho (k:=1) oz h9.1 h9.2).mono oz⟩
 have hstart:∀(s g n y:Nat),eG s g n y 0 0 2=true->(splitG l).length<=n->(splitG l).countP kM<=y->WkSt l s g (splitG l).length (eD l):=fun s g n y ok h1 h2 =>
  ⟨⟨0,0,2,y,GV l,wR ok h1 (le_refl _),h2⟩,Nat.zero_add _⟩
 by_cases hn:(splitG l).length<=l.dv.length+1
 ·refine⟨32,134,⟨hl,hli,hsp,?_,hln,fun x hx=>?_⟩,hstart 32 134 3 1 D9 oz oz⟩
  ·intro b hb m hm;have h9:=hM b hb;rw[all_eq_true]at h9;have h8:=h9 m hm;unfold kP at h8;rw[decide_eq_true_eq]at h8;have ho:=(hl.bo b hb).pts m hm;exact⟨(Rt.qb ho.x (k:=1) oz h8.1 h8.2.1).mono oz,(Rt.qb ho.y (k:=1) oz h8.2.2.1 h8.2.2.2).mono oz⟩
  ·obtain⟨h1,h2⟩:=hxo x hx;exact⟨h1,hxe x hx,h2.mono oz,Cb.one (sY h2),Cb.one (rK h2)⟩
 ·have hlow:(splitG l).length=l.dv.length+2/\pf xs=true/\qi l=true:=by
   simp only[or_eq_true,and_eq_true]at hR;rcases hR with(h9 |h9) |⟨h9,h8⟩
   ·rw[hsp]at h9;exact absurd h9 (by simp[aa])
   ·have : ((splitG l).length : Int) - l.dv.length <= 1 := by simpa [aa] using h9
    omega
   ·have : ((splitG l).length : Int) - l.dv.length = 2 := by simpa [aa] using h9
    exact⟨by omega,h8.1,h8.2⟩
  obtain⟨hlen,hlT,hlL⟩:=hlow;refine⟨9,42,⟨hl,hli,hsp,?_,hln,fun x hx=>?_⟩,hstart 9 42 4 2 LO oz oz⟩
  ·intro b hb m hm;unfold qi at hlL;rw[all_eq_true]at hlL;have h9:=hlL b hb;unfold tq at h9;rw[all_eq_true]at h9;have h8:=h9 m hm;simp only[all_cons,List.all_nil,Bool.and_true,and_eq_true]at h8;have ho:=(hl.bo b hb).pts m hm;exact⟨zo ho.x h8.1,zo ho.y h8.2⟩
  ·obtain⟨h1,h2⟩:=hxo x hx;unfold pf at hlT;rw[all_eq_true]at hlT;have h8:=hlT x hx;simp only[all_cons,List.all_nil,Bool.and_true]at h8;have h9:=zo h1 h8;exact⟨h1,hxe x hx,h2.mono oz,Cb.one (sY h9),Cb.one (rK h9)⟩
def oV(m:Mk):Mk:=⟨m.name,rt m.x.q,rt (-m.y.q)⟩
def lr(b:Bd):Bd:=⟨b.name,b.pts.map oV⟩
def yP(l:Li):Li:=⟨l.name,l.bo.map lr,l.jo,l.dv⟩
structure SameJ(l' l:Li):Prop where
  j:l'.jo=l.jo
  d:l'.dv=l.dv
  b:l'.bo.length=l.bo.length
section
variable{l' l:Li}(h:SameJ l' l)
include h
theorem SameJ.jointI(kind body:Int)(oth:List Bool):jointI l' kind body oth=jointI l kind body oth:=by unfold Lw.jointI;rw[h.j]
theorem SameJ.freeB(k:List Bool)(i:Int):freeB l' k i=freeB l k i:=by unfold Lw.freeB lW;rw[h.d]
theorem SameJ.drHit(k:List Bool)(i:Nat):drHit l' k i=drHit l k i:=by unfold Lw.drHit;simp only[h.d,h.jointI]
theorem SameJ.driverG(k:List Bool):driverG l' k=driverG l k:=by unfold Lw.driverG;simp only[h.d,h.jointI,h.drHit]
theorem SameJ.prHit(k:List Bool)(i j:Nat):prHit l' k i j=prHit l k i j:=by unfold Lw.prHit;simp only[h.freeB,h.jointI,h.b]
theorem SameJ.prAt(k:List Bool)(i:Nat):prAt l' k i=prAt l k i:=by unfold Lw.prAt;simp only[h.prHit,h.b]
theorem SameJ.prG(k:List Bool)(i j:Nat):prG l' k i j=prG l k i j:=by unfold Lw.prG;simp only[h.jointI,h.b]
theorem SameJ.pairG(k:List Bool):pairG l' k=pairG l k:=by unfold Lw.pairG;simp only[h.prAt,h.prG,h.b]
theorem SameJ.sgHit(k:List Bool)(i:Nat):sgHit l' k i=sgHit l k i:=by unfold Lw.sgHit;simp only[h.freeB,h.jointI]
theorem SameJ.sgG(k:List Bool)(i:Nat):sgG l' k i=sgG l k i:=by unfold Lw.sgG;simp only[h.jointI,h.j]
theorem SameJ.singleG(k:List Bool):singleG l' k=singleG l k:=by
 unfold Lw.singleG;have e:Lw.sgG l' k=Lw.sgG l k:=funext (h.sgG k);simp only[h.sgHit,h.b,e]
theorem SameJ.nextG(k:List Bool):nextG l' k=nextG l k:=by unfold Lw.nextG;rw[h.driverG,h.pairG,h.singleG]
theorem SameJ.findFrom:∀(n:Nat)(k:List Bool)(out:List Gr),findFrom l' n k out=findFrom l n k out
 |0,k,out=>rfl
 |n+1,k,out=>by
  unfold Lw.findFrom;rw[h.nextG];cases Lw.nextG l k with
  |none=>rfl
  |some g=>exact SameJ.findFrom n _ _
theorem SameJ.findG:findG l'=findG l:=by unfold Lw.findG;rw[h.b,h.findFrom]
theorem SameJ.splitE:splitE l'=splitE l:=by unfold Lw.splitE bQ dQ;rw[h.findG,h.b,h.j]
theorem SameJ.splitG:splitG l'=splitG l:=by unfold Lw.splitG;rw[h.splitE,h.findG]
end
def Ea:Li:=⟨⟨#[]⟩,[],[],[]⟩
def wI(l:Li):Li:=if ax l=0 then yP l else Ea
theorem I1{l:Li}(h:ax l=0):wI l=yP l:=if_pos h
theorem Ol{l:Li}(h:ax l≠0):wI l=Ea:=if_neg h
theorem Tz{l:Li}(h:ax l=0):∀b∈l.bo,b.pts.length<=8:=by
 intro b hb
 have h5:gG l=0:=by
  unfold ax at h;split at h
  ·cases h
  ·split at h
   ·cases h
   ·split at h
    ·cases h
    ·split at h
     ·rename_i h4;exact absurd h h4
     ·omega
 obtain⟨i,hi⟩:=getElem?_of_mem hb;have h6:=p5 h5 i (List.getElem?_eq_some_iff.1 hi).1;unfold dY at h6;rw[aB hi]at h6;split at h6
 ·cases h6
 ·split at h6
  ·cases h6
  ·split at h6
   ·cases h6
   ·rename_i h7;omega
theorem EI{l:Li}(h:ax l=0):l.jo.length<=16/\l.dv.length<=2:=by
 obtain⟨_,h1,h2,_⟩:=cA h;constructor
 ·unfold ep at h1;split at h1
  ·cases h1
  ·omega
 ·unfold fM at h2;split at h2
  ·cases h2
  ·omega
def Jt.vs(j:Jt):List Value:=[.string j.name,.int .i64 j.kind,.int .i64 j.a,.int .i64 j.point,.int .i64 j.b,.int .i64 j.on,.int .i64 j.to]
def Dr.vs(d:Dr):List Value:=[.string d.name,.int .i64 d.body]
structure Gr.sm(g:Gr):Prop where
  b:g.bo.length<=100
  j:g.jo.length<=100
theorem PS{l:Li}(hl:ax l=0):(∀g∈splitG l,g.sm)/\(splitG l).length<=100:=by
 refine⟨fun g hg=>?_,?_⟩
 ·obtain⟨_,ho⟩:=pM hl hg;have:=ho.lb;have:=ho.lj
  exact⟨by omega,by omega⟩
 ·unfold splitG;split
  ·have:=(qe hl).2;omega
  ·exact zero_le _
open Go.Proofs
abbrev vS:List AV:=[.v (.string ⟨#[]⟩),nS,nS,nS]
theorem sa{α β:Type}{f:α->β}{g:β->AV}{l:List α}{i:Nat}{x:α}(h:l[i]?=some x):((l.take (i+1)).map f).map g=((l.take i).map f).map g++[g (f x)]:=by
 rw[cS h,map_append,map_append];rfl
theorem mx{α β:Type}{f:α->β}{g:β->AV}{l:List α}{i:Nat}(h:i<=l.length):(((l.take i).map f).map g).length=i:=by rw[length_map,length_map,length_take];omega
theorem vC{β:Type}{g:β->AV}{l:List β}{i:Nat}(h:i<=l.length):((l.take i).map g).length=i:=by rw[length_map,length_take];omega
theorem Ch(x:Rt)(hx:x.ok):FP 120 [x.av] (qA x.q):=by
 have hadd:=mN x (rt 0) hx Qs.zero.ok;rw[pK]at hadd;refine ah func120 ?_;refine gc (Con.sA (.cons (.refl _) (.cons iH .nil)) hadd) ?_;refine af ?_;rfl
theorem Rw(e:AV)(es:List AV)(hc:∀x∈e::es,x.cells.length=7)(hl:(e::es).length<=1000):FP 118 [.lst 7 (e::es)] (.lst 7 (e::es)):=by
 refine ah func118 ?_;refine gs (vh (.tmp rfl) (by kernel_rfl) rfl) ?_;refine gC (fun t4=>?_) (fun t4=>?_) (st1:=(2,0));cases t4;refine gs (f0 T23 rfl T75 rfl rfl rfl) ?_;refine gs (k9 (.tmp rfl) rfl rfl (.tmp rfl) T23 rfl T75 rfl rfl (by simp only[];omega) rfl rfl) ?_;refine af ?_;rfl
theorem VB(e:AV)(es:List AV)(hc:∀x∈e::es,x.cells.length=2)(hl:(e::es).length<=1000):FP 119 [.lst 2 (e::es)] (.lst 2 (e::es)):=by
 refine ah func119 ?_;refine gs (vh (.tmp rfl) (by kernel_rfl) rfl) ?_;refine gC (fun t4=>?_) (fun t4=>?_) (st1:=(2,0));cases t4;refine gs (f0 T24 rfl T185 rfl rfl rfl) ?_;refine gs (k9 (.tmp rfl) rfl rfl (.tmp rfl) T24 rfl T185 rfl rfl (by simp only[];omega) rfl rfl) ?_;refine af ?_;rfl
theorem KP(a:Option Addr)(cap:Nat):FP 118 [.v (.slice a 0 cap)] (.lst 7 []):=by
 refine ah func118 ?_;refine gs (uP (.tmp rfl) (by kernel_rfl) rfl) ?_;refine gC (fun t4=>?_) (fun t4=>?_) (st2:=(77777,0))
 ·refine gR ?_;exact dp (Sub.nil _ _ _)
 refine gW (Wk.of (sl:=[(0,some (.lst 7 []))]) (hp:=[]) (.cons rfl (Sub.nil _ _ _) .nil) .nil) ?_;refine gs (f0 T23 rfl T75 rfl rfl rfl) ?_;refine gs (k9 (.tmp rfl) rfl rfl (.tmp rfl) T23 rfl T75 rfl rfl (by simp) rfl rfl) ?_;refine af ?_;rfl
theorem Oa(a:Option Addr)(cap:Nat):FP 119 [.v (.slice a 0 cap)] (.lst 2 []):=by
 refine ah func119 ?_;refine gs (uP (.tmp rfl) (by kernel_rfl) rfl) ?_;refine gC (fun t4=>?_) (fun t4=>?_) (st2:=(77777,0))
 ·refine gR ?_;exact dp (Sub.nil _ _ _)
 refine gW (Wk.of (sl:=[(0,some (.lst 2 []))]) (hp:=[]) (.cons rfl (Sub.nil _ _ _) .nil) .nil) ?_;refine gs (f0 T24 rfl T185 rfl rfl rfl) ?_;refine gs (k9 (.tmp rfl) rfl rfl (.tmp rfl) T24 rfl T185 rfl rfl (by simp) rfl rfl) ?_;refine af ?_;rfl
theorem Q9(es:List AV)(hc:∀x∈es,x.cells.length=7)(hl:es.length<=1000):FP 118 [.lst 7 es] (.lst 7 es):=by
 cases es with
 |nil=>exact Co KP
 |cons e es=>exact Rw e es hc hl
theorem TY(es:List AV)(hc:∀x∈es,x.cells.length=2)(hl:es.length<=1000):FP 119 [.lst 2 es] (.lst 2 es):=by
 cases es with
 |nil=>exact Co Oa
 |cons e es=>exact VB e es hc hl
theorem Qu(l:Li)(h1:ax l=0):FP 118 [.lst 7 (l.jo.map Jt.av)] (.lst 7 (l.jo.map Jt.av)) :=
 Q9 _ (fun x hx=>by obtain⟨j,_,rfl⟩:=List.mem_map.1 hx;rfl) (by rw[length_map];have:=(EI h1).1;omega)
theorem RG(l:Li)(h1:ax l=0):FP 119 [.lst 2 (l.dv.map Dr.av)] (.lst 2 (l.dv.map Dr.av)) :=
 TY _ (fun x hx=>by obtain⟨j,_,rfl⟩:=List.mem_map.1 hx;rfl) (by rw[length_map];have:=(EI h1).2;omega)
theorem KZ(l:Li)(hl:l.ok):FP 46 [l.av] (.tup [(wI l).av,bh (ax l)]):=by
 refine ah func46 ?_;refine gc (xg l hl) ?_;refine gC (fun t14=>?_) (fun t14=>?_)
 ·have h1:=cT t14;refine gR ?_;exact B4 (by rw[Ol h1];exact Sub.agg (.cons (.refl _) (.cons (.nil _ _ _) (.cons (.nil _ _ _) (.cons (.nil _ _ _) .nil)))) rfl) (.refl _)
 have h1:=da t14;have hll:=(cA h1).2.2.2.1;have hpp:=Tz h1;refine gc (Qu l h1) ?_;refine gc (RG l h1) ?_;refine gD ?_;refine gl ?_;refine gW (Wk.virt 900 2 rfl) ?_;refine aJ [2,5,27,28] [2] (fun(i:Nat)=>[(29,some (i64 i))]) (fun i=>[(5,some (.box [.v (.string l.name),.ms 900 2 0 i,.lst 7 (l.jo.map Jt.av),.lst 2 (l.dv.map Dr.av)])),(900,some (.row 2 (((l.bo.take i).map lr).map Bd.av)))]) (fun i=>i<=l.bo.length) (fun i=>l.bo.length-i) 0 (zero_le _) ?_ (h2:=(.cons rfl (BlkSub.bL (.cons (.refl _) (.cons (.nM _ _ _) (.cons (.refl _) (.cons (.refl _) .nil)))) rfl) (.k .nil)))
 rintro i hi K1 J1;refine gC (fun t30=>?_) (fun t30=>?_) (st2:=(16,0))
 ·have hin:=aT t30;obtain⟨b,hb⟩:=aq hin;have hbo:=hl.bo b (mem_of_getElem? hb);have hpl:=hpp b (mem_of_getElem? hb);refine gi (au hb) ?_;refine gl ?_;refine gW (Wk.virt 901 7 rfl) ?_;refine aJ [2,5,8,27,28,29,37,38] [2,5,900] (fun(k:Nat)=>[(39,some (i64 k))]) (fun k=>[(8,some (.box [.v (.string b.name),.ms 901 7 0 k])),(901,some (.row 7 (((b.pts.take k).map oV).map Mk.av)))]) (fun k=>k<=b.pts.length) (fun k=>b.pts.length-k) 0 (zero_le _) ?_ (h2:=(.cons rfl (BlkSub.bL (.cons (.refl _) (.cons (.nM _ _ _) .nil)) rfl) (.k .nil)));rintro k hk K2 J2;refine gC (fun t40=>?_) (fun t40=>?_) (st2:=(14,0))
  ·have hkn:=aT t40;obtain ⟨m,hm⟩:=aq hkn;have hmo:=hbo.pts m (mem_of_getElem? hm);refine gi (au hm) ?_;refine gc (Ch m.x hmo.x) ?_;refine gc (ul m.y hmo.y) ?_;refine gs (bR (.tmp rfl) rfl (mx oz).symm (.tmp rfl) T171 rfl T175 rfl rfl (by simp only [length_cons,length_nil]; omega) rfl rfl) ?_;refine gD ?_ (13,0);refine gW (Wk.of (sl:=[(2,some (.ptr 2 0)),(5,some (.ptr 5 0)),(8,some (.ptr 8 0)),(27,some (.lst 2 (l.bo.map Bd.av))),(28,some (i64 l.bo.length)),(29,some (i64 i)),(37,some (.lst 7 (b.pts.map Mk.av))),(38,some (i64 b.pts.length)),(39,some (i64 k))]) (hp:=[(2,some (.box vS)),(5,some (.box [.v (.string l.name),.ms 900 2 0 i,.lst 7 (l.jo.map Jt.av),.lst 2 (l.dv.map Dr.av)])),(8,some (.box [.v (.string b.name),.ms 55 7 0 (k + 1)])),(900,some (.row 2 (((l.bo.take i).map lr).map Bd.av))),(55,some (.row 7 (((b.pts.take (k + 1)).map oV).map Mk.av)))]) aQ (.k (.k (.k (.k (.cons rfl (BlkSub.of (by rw [sa hm]; rfl)) .nil)))))) ?_ (13,0)
   refine gW (Wk.rk (k:=55) (d:=901) rfl rfl) ?_;refine ga aE ?_;exact aD J2 (k+1) hkn
  have hkn:=a5 hk t40;subst hkn;refine gW ((Wk.freeze (k:=901) rfl).trans<|Wk.of (sl:=[(2,some (.ptr 2 0)),(5,some (.ptr 5 0)),(8,some (.ptr 8 0)),(27,some (.lst 2 (l.bo.map Bd.av))),(28,some (i64 l.bo.length)),(29,some (i64 i))]) (hp:=[(2,some (.box vS)),(5,some (.box [.v (.string l.name),.ms 900 2 0 i,.lst 7 (l.jo.map Jt.av),.lst 2 (l.dv.map Dr.av)])),(8,some (.box [.v (.string b.name),.lst 7 ((b.pts.map oV).map Mk.av)])),(900,some (.row 2 (((l.bo.take i).map lr).map Bd.av)))]) aQ (.k (.k (.cons rfl (BlkSub.bL (.cons (.refl _) (.cons (.of (by rw[bI (mx (le_refl _)).symm,take_length])) .nil)) rfl) (.k .nil))))) ?_
  refine gs (bR (.tmp rfl) rfl (mx oz).symm (.tmp rfl) T22 rfl T173 rfl rfl (by simp only[length_cons,length_nil];omega) rfl rfl) ?_ (15,0);refine gW (Wk.of (sl:=[(2,some (.ptr 2 0)),(5,some (.ptr 5 0)),(27,some (.lst 2 (l.bo.map Bd.av))),(28,some (i64 l.bo.length)),(29,some (i64 i))]) (hp:=[(2,some (.box vS)),(5,some (.box [.v (.string l.name),.ms 62 2 0 (i+1),.lst 7 (l.jo.map Jt.av),.lst 2 (l.dv.map Dr.av)])),(62,some (.row 2 (((l.bo.take (i+1)).map lr).map Bd.av)))]) aQ (.k (.k (.cons rfl (BlkSub.of (by rw[sa hb];rfl)) .nil)))) ?_ (15,0)
  refine gW (Wk.rk (k:=62) (d:=900) rfl rfl) ?_;refine ga aE ?_;exact aD J1 (i+1) hin
 have hin:=a5 hi t30;subst hin;refine gW ((Wk.freeze (k:=900) rfl).trans<|Wk.of (sl:=[(2,some (.ptr 2 0)),(5,some (.ptr 5 0))]) (hp:=[(2,some (.box vS)),(5,some (.box (yP l).av.cells))]) aQ (.k (.cons rfl (BlkSub.bL (.cons (.refl _) (.cons (.of (by rw[bI (mx (le_refl _)).symm,take_length];rfl)) (.cons (.refl _) (.cons (.refl _) .nil)))) rfl) .nil))) ?_;refine br ?_;rw[I1 h1,h1];rfl
theorem C6(a:List Nat)(ha:a.length<=281474976710656):FP 369 [ws a,ws a] (bl true):=by
 refine ah func369 ?_;refine gl ?_;refine gl ?_;refine gC (fun t10=>?_) (fun t10=>?_) (st1:=(2,0));exact absurd t10 (by simp[aa]);refine aJ [0,1] [] (fun(i:Nat)=>[(5,some (i64 i))]) (fun _=>[]) (fun i=>i<=a.length) (fun i=>a.length-i) 0 (zero_le _) ?_;rintro i hi K1 J1;refine gl ?_;refine gC (fun t14=>?_) (fun t14=>?_)
 ·have hin:=aT t14;obtain⟨x,hx⟩:=aq hin;refine gi (au hx) ?_;refine gi (au hx) ?_;refine gD ?_;refine gC (fun t25=>?_) (fun t25=>?_) (st1:=(7,0));exact absurd t25 (by simp[aa]);refine ga aE ?_;exact aD J1 (i+1) hin
 refine af ?_;rfl
theorem SV(a:List Int)(ha:a.length<=281474976710656):FP 42 [.lst 1 (a.map i64),.lst 1 (a.map i64)] (bl true):=by
 refine ah func42 ?_;refine gl ?_;refine gl ?_;refine gC (fun t10=>?_) (fun t10=>?_) (st1:=(2,0));exact absurd t10 (by simp[aa]);refine aJ [0,1] [] (fun(i:Nat)=>[(5,some (i64 i))]) (fun _=>[]) (fun i=>i<=a.length) (fun i=>a.length-i) 0 (zero_le _) ?_;rintro i hi K1 J1;refine gl ?_;refine gC (fun t14=>?_) (fun t14=>?_)
 ·have hin:=aT t14;obtain⟨x,hx⟩:=aq hin;refine gi (au hx) ?_;refine gi (au hx) ?_;refine gD ?_;refine gC (fun t25=>?_) (fun t25=>?_) (st1:=(7,0));exact absurd t25 (by simp[aa]);refine ga aE ?_;exact aD J1 (i+1) hin
 refine af ?_;rfl
theorem Ic(x:Rt)(hx:x.ok):FP 314 [x.av,x.av] (bl true):=by
 have h1:x.num.length<=281474976710656:=by have:=hx.2.2.1;unfold eV at this;omega
 have h2:x.den.length<=281474976710656:=by have:=hx.2.2.2;unfold eV at this;omega
 refine ah func314 ?_;refine bF (fun _=>(C6 x.num h1)) ?_;refine bF (fun h=>(C6 x.den h2)) ?_;refine af ?_;simp;rfl
theorem KD(b:Bd)(hb:b.ok):FP 224 [b.av,b.av] (bl true):=by
 have hbl:=hb.ll;refine ah func224 ?_;refine bP ?_;refine bP ?_;refine gC (fun t21=>?_) (fun t21=>?_) (st1:=(2,0));exact absurd t21 (by simp[aa]);refine aJ [2,3] [2,3] (fun(i:Nat)=>[(5,some (i64 i))]) (fun _=>[]) (fun i=>i<=b.pts.length) (fun i=>b.pts.length-i) 0 (zero_le _) ?_;rintro i hi K1 J1;refine gl ?_;refine gC (fun t26=>?_) (fun t26=>?_)
 ·have hin:=aT t26;obtain⟨m,hm⟩:=aq hin;have hmo:=hb.pts m (mem_of_getElem? hm);refine gi (au hm) ?_;refine gi (au hm) ?_;refine gD ?_;refine bF (fun _=>(Ic m.x hmo.x)) ?_;refine bF (fun _=>(Ic m.y hmo.y)) ?_;refine gC (fun t59=>?_) (fun t59=>?_) (st1:=(8,0));exact absurd t59 (by simp);refine ga aE ?_;exact aD J1 (i+1) hin
 refine af ?_;rfl
theorem Sq(l l2:Li)(hl:l.ok)(e:l=l2):FP 110 [l.av,l2.av] (bl true):=by
 have hlb:=hl.lb;have hlj:=hl.lj;have hld:=hl.ld;refine ah func110 ?_;refine bP ?_;refine bP ?_;refine bP ?_;refine bP ?_;refine bP ?_;refine bP ?_;refine gC (fun t39=>?_) (fun t39=>?_) (st1:=(2,0));exact absurd t39 (by subst e;simp[aa]);subst e;refine aJ [2,3] [2,3] (fun(i:Nat)=>[(5,some (i64 i))]) (fun _=>[]) (fun i=>i<=l.bo.length) (fun i=>l.bo.length-i) 0 (zero_le _) ?_;rintro i hi K1 J1;refine gl ?_;refine gC (fun t44=>?_) (fun t44=>?_)
 ·have hin:=aT t44;obtain⟨b,hb⟩:=aq hin;refine gi (au hb) ?_;refine gi (au hb) ?_;refine gc (KD b (hl.bo b (mem_of_getElem? hb))) ?_;refine gD ?_;refine gC (fun t58=>?_) (fun t58=>?_) (st1:=(7,0));cases t58;refine ga aE ?_;exact aD J1 (i+1) hin
 refine aJ [2,3] [2,3] (fun(i:Nat)=>[(6,some (i64 i))]) (fun _=>[]) (fun i=>i<=l.jo.length) (fun i=>l.jo.length-i) 0 (zero_le _) ?_;rintro i hk K2 J2;refine gl ?_;refine gC (fun t63=>?_) (fun t63=>?_)
 ·have hkn:=aT t63;obtain⟨j,hj⟩:=aq hkn;refine gi (au hj) ?_;refine gi (au hj) ?_;refine gs (CS (cs:=j.vs) (ks:=[2,1,1,1,1,1,1]) (.tmp rfl) (.tmp rfl) rfl (by kernel_rfl) rfl) ?_;refine gD ?_;refine gC (fun t76=>?_) (fun t76=>?_) (st1:=(12,0));cases t76;refine ga aE ?_;exact aD J2 (i+1) hkn
 refine aJ [2,3] [2,3] (fun(i:Nat)=>[(7,some (i64 i))]) (fun _=>[]) (fun i=>i<=l.dv.length) (fun i=>l.dv.length-i) 0 (zero_le _) ?_;rintro i hq K3 J3;refine gl ?_;refine gC (fun t81=>?_) (fun t81=>?_)
 ·have hqn:=aT t81;obtain⟨d,hd⟩:=aq hqn;refine gi (au hd) ?_;refine gi (au hd) ?_;refine gs (CS (cs:=d.vs) (ks:=[2,1]) (.tmp rfl) (.tmp rfl) rfl (by kernel_rfl) rfl) ?_;refine gD ?_;refine gC (fun t94=>?_) (fun t94=>?_) (st1:=(17,0));cases t94;refine ga aE ?_;exact aD J3 (i+1) hqn
 refine af ?_;rfl
theorem Ox(l:Li)(hl:l.ok):FP 110 [l.av,l.av] (bl true):=Sq l l hl rfl
theorem xE{l:Li}{xs:List Tn}(h:je l xs=true)(hxw:∀x∈xs,x.t.wok):ir l=true/\xs.length<=20/\∀x∈xs,x.t.ok:=by
 unfold je at h;simp only[and_eq_true,decide_eq_true_eq]at h;refine⟨h.1.1,h.1.2,fun x hx=>?_⟩;have h9:=List.all_eq_true.1 h.2.1 x hx;unfold lS at h9;rw[decide_eq_true_eq]at h9;exact(hxw x hx).ok h9.1 h9.2 oz
theorem Oz{p:Bool}(h:cond (!true) true (!p)=false):p=true:=by cases p <;> simp_all
theorem wl{F:Int->Bool}{sg:Bool}{f:Sv->List Aq×Nat}{b:Aq}:∀{S:List Sv},b∈(ff F sg f S).1->∃s∈S,F s.mode=true/\b∈(f s).1
 |[],h=>by cases h
 |s::S,h=>by
  rw[pV]at h;split at h
  ·obtain⟨x,hx,h2⟩:=wl h;exact⟨x,mem_cons_of_mem _ hx,h2⟩
  ·rename_i hF;have hF:F s.mode = true:=by simpa using hF
   split at h
   ·exact⟨s,mem_cons_self,hF,h⟩
   ·split at h
    ·exact⟨s,mem_cons_self,hF,h⟩
    ·rcases List.mem_append.1 h with h |h
     ·exact⟨s,mem_cons_self,hF,h⟩
     ·obtain⟨x,hx,h2⟩:=wl h;exact⟨x,mem_cons_of_mem _ hx,h2⟩
theorem FX{l:Li}{xs:List Tn}{s g:Nat}(W:WkC l xs s g){F:Nat->Int->Bool}{sg:Bool}:∀(n:Nat)(a:Aq),WkSt l s g n a->∀b∈(f6 F sg l xs (splitG l) n a).1,WkSt l s g 0 b
 |0,a,h,b,hb=>by rw[List.mem_singleton.1 hb];exact h
 |n+1,a,h,b,hb=>by
  obtain⟨gr,hg,_,hP,hn⟩:=h.next W;unfold f6 at hb;rw[aB hg]at hb;split at hb
  ·cases hb
  ·obtain⟨sv,hsv,_,h2⟩:=wl hb;exact FX W n _ (hn sv hsv) b h2
open Lean.Grind (CommRing)
structure Nxt(l:Li)(kw:List Bool)(g:Gr):Prop where
  b:∀x∈g.bo,kn kw x=false
  j:∀z∈g.jo,∀j,l.jo[z.toNat]?=some j->(j.a∈g.bo\/kn kw j.a=true)/\(j.b∈g.bo\/kn kw j.b=true)
theorem ss{l:Li}{kind b:Int}{kw:List Bool}{bs:List Int}(hb:b∈bs)(h:0<=jointI l kind b kw){j:Jt}(hj:l.jo[(jointI l kind b kw).toNat]?=some j) :
  (j.a∈bs\/kn kw j.a=true)/\(j.b∈bs\/kn kw j.b=true):=by
 obtain⟨i,j',e,h1,_,h2⟩:=vP h;rw[e,toNat_natCast,h1]at hj;cases hj;rcases h2 with⟨e1,e2⟩ |⟨e1,e2⟩
 ·exact⟨.inl (e1▸hb),.inr e2⟩
 ·exact⟨.inr e2,.inl (e1▸hb)⟩
theorem PB{l:Li}(hl:ax l=0){kw:List Bool}{g:Gr}(h:nextG l kw=some g):Nxt l kw g:=by
 unfold nextG at h;cases h1:driverG l kw with
 |some g' =>
  rw[h1]at h;cases h;unfold driverG at h1;rw[map_eq_some_iff]at h1;obtain⟨i,hi,rfl⟩:=h1;obtain⟨h1,h2⟩:=fa hi;unfold drHit at h2;simp only[Bool.not_eq_false',and_eq_true,decide_eq_true_eq,Bool.not_eq_true']at h2;refine⟨uu h2.1,fun z hz j hj=>?_⟩;rw[List.mem_singleton.1 hz]at hj;exact ss (by simp) h2.2 hj
 |none =>
  rw[h1]at h;cases h2:pairG l kw with
  |some g' =>
   rw[h2]at h;cases h;have hf:=BX h2;unfold pairG at h2;rw[map_eq_some_iff]at h2;obtain⟨i,hi,h3⟩:=h2;obtain⟨_,h4⟩:=fa hi;split at h3
   ·rename_i k hk;subst h3;unfold prAt at hk;rw [map_eq_some_iff] at hk;obtain ⟨k',hk',rfl⟩:=hk;obtain ⟨h5,h6⟩:=fa hk';rw [show i + 1 + k' = k' + (i + 1) by omega] at h6;unfold prHit at h6;simp only [Bool.not_eq_false',and_eq_true,decide_eq_true_eq] at h6;obtain ⟨_,⟨j1,j2⟩,j3⟩:=h6;refine ⟨fun x hx=>pY (hf x hx),fun z hz j hj=>?_⟩;simp only [prG,mem_cons,not_mem_nil,or_false] at hz;rcases hz with rfl | rfl | rfl
    ·exact ss (by simp[prG]) j1 hj
    ·exact ss (by simp[prG]) j2 hj
    ·obtain⟨n,a2,e,hj2,hkd,ht⟩:=vP j3;rw[e,toNat_natCast,hj2]at hj;cases hj;obtain⟨i1,i2,_⟩:=cZ hl hj2;have i1:=(di i1).1;have i2:=(di i2).1;rcases ht with⟨e1,e2⟩ |⟨e1,e2⟩
     ·rw[ov i2 oz oz]at e2;have e2:=of_decide_eq_true e2;exact⟨.inl (by simp[prG,e1]),.inl (by simp[prG,e2])⟩
     ·rw[ov i1 oz oz]at e2;have e2:=of_decide_eq_true e2;exact⟨.inl (by simp[prG,e2]),.inl (by simp[prG,e1])⟩
   ·rename_i hk;rw[hk]at h4;cases h4
  |none =>
   rw[h2]at h;have hf:=Jg (show singleG l kw=some g from h);have h3:singleG l kw=some g:=h;unfold singleG at h3;rw[map_eq_some_iff]at h3;obtain⟨i,hi,rfl⟩:=h3;obtain⟨_,h4⟩:=fa hi;unfold sgHit at h4;simp only[Bool.not_eq_false',and_eq_true,decide_eq_true_eq]at h4;obtain⟨_,j1,j2⟩:=h4;refine⟨fun x hx=>pY (hf x hx),fun z hz j hj=>?_⟩;simp only[sgG,mem_cons,not_mem_nil,or_false]at hz;rcases hz with rfl |rfl
   ·exact ss (by simp[sgG]) j1 hj
   ·exact ss (by simp[sgG]) j2 hj
def BD(l:Li):List Bool->List Gr->Prop
  |_,[]=>True
  |kw,g::gs=>Nxt l kw g/\BD l (bt kw g.bo) gs
theorem Dk{l:Li}(hl:ax l=0):∀(n:Nat)(kw:List Bool)(out:List Gr),∃gs,(findFrom l n kw out).2=out++gs/\BD l kw gs
 |0,kw,out=>⟨[],(append_nil _).symm,trivial⟩
 |n+1,kw,out=>by
  unfold findFrom;cases hg:nextG l kw with
  |none=>exact⟨[],(append_nil _).symm,trivial⟩
  |some g =>
   obtain⟨gs,e,h⟩:=Dk hl n (bt kw g.bo) (out++[g]);refine⟨g::gs,?_,PB hl hg,h⟩;show(findFrom l n (bt kw g.bo) (out++[g])).2=_;rw[e,append_assoc];rfl
def gI(l:Li)(gs:List Gr)(m:Nat):List Bool:=(gs.take m).foldl (fun k g=>bt k g.bo) (cB l.bo.length 0)
theorem Fe{l:Li}:∀(gs:List Gr)(kw:List Bool),BD l kw gs->∀(m:Nat)(g:Gr),gs[m]?=some g->Nxt l ((gs.take m).foldl (fun k g=>bt k g.bo) kw) g
 |[],kw,h,m,g,hg=>by simp at hg
 |g0::gs,kw,h,0,g,hg=>by
  rw[List.getElem?_cons_zero]at hg;cases hg;exact h.1
 |g0::gs,kw,h,m+1,g,hg=>by
  rw[List.getElem?_cons_succ]at hg;exact Fe gs _ h.2 m g hg
theorem U8(l:Li)(gs:List Gr)(m:Nat):(gI l gs m).length=l.bo.length:=by
 have:∀(gs:List Gr)(k:List Bool),(gs.foldl (fun k g=>bt k g.bo) k).length=k.length:=by
  intro gs
  induction gs with
  |nil=>intro k;rfl
  |cons g gs ih=>intro k;rw[foldl_cons,ih,jz]
 unfold gI;rw[this,gX]
theorem M6{l:Li}{gs:List Gr}{m:Nat}{g:Gr}(hg:gs[m]?=some g):gI l gs (m+1)=bt (gI l gs m) g.bo:=by
 unfold gI;rw[List.take_add_one,hg,List.foldl_append];rfl
theorem Bu{l:Li}{gs:List Gr}{m:Nat}{g:Gr}(hg:gs[m]?=some g)(ok:GrOk l g){b:Int}(h0:0<=b):kn (gI l gs (m+1)) b=(g.bo.any (fun x=>decide (x=b))||kn (gI l gs m) b):=by
 rw[M6 hg,zj h0 (fun x hx=>by rw[U8];exact ok.b x hx)]
theorem IK{l:Li}(hl:ax l=0)(hs:splitE l=0){m:Nat}{g:Gr}(hg:(splitG l)[m]?=some g):Nxt l (gI l (splitG l) m) g:=by
 obtain⟨gs,e,h⟩:=Dk hl l.bo.length (cB l.bo.length 0) []
 have e2:splitG l=gs:=by
  unfold splitG findG;rw[if_pos hs,e];rfl
 rw[e2]at hg ⊢;exact Fe gs _ h m g hg
theorem CB:∀(zs:List (Int×Pq))(bs:List Pq)(b:Int),(∀z∈zs,0<=z.1/\z.1≠b)->0<=b->(zs.foldl (fun k x=>k.set x.1.toNat x.2) bs).getD b.toNat bm=bs.getD b.toNat bm
 |[],bs,b,h,h0=>rfl
 |z::zs,bs,b,h,h0=>by
  rw[foldl_cons,CB zs _ b (fun y hy=>h y (mem_cons_of_mem _ hy)) h0];obtain⟨h1,h2⟩:=h z mem_cons_self;exact n8 h1 h0 (Ne.symm h2)
theorem Ru{bs:List Pq}{is:List Int}{ps:List Pq}{b:Int}(h:∀x∈is,0<=x)(hb:b∉is)(h0:0<=b):(bO bs is ps).getD b.toNat bm=bs.getD b.toNat bm :=
 CB _ _ b (fun z hz=>by
  have:=(List.of_mem_zip hz).1;exact⟨h _ this,fun e=>hb (e▸this)⟩) h0
structure WkH(l:Li)(xs:List Tn)(a:Aq):Prop where
  js:∀m g,m<a.ms.length->(splitG l)[m]?=some g->∀z∈g.jo,JH l a.ts a.bs (l.jo.getD z.toNat default)
  cs:∀b:Int,0<=b->kn (gI l (splitG l) a.ms.length) b=true->CH a.ts (a.bs.getD b.toNat bm)
  dr:∀m g,m<a.ms.length->(splitG l)[m]?=some g->g.kind=0->dE a.ts (a.bs.getD (ci g 0).toNat bm).c=qE (dC (co g xs).half (co g xs).t.q)/\dE a.ts (a.bs.getD (ci g 0).toNat bm).s=qE (dF (co g xs).half (co g xs).t.q)
  fr:a.bs.getD 0 bm=iu
theorem Sx(T:LL):dE T []=0:=by rw[E.zero_def];exact fV _
theorem KO(T:LL):dE T [1]=1:=kC _ 1
theorem Uo{T:LL}(hp:gQ T):CH T iu:=by
 unfold CH iu;dsimp only;rw[KO,Sx,show(1:Et T)*1+0*0-1=0 by grind];exact(gE _ _ hp).zero
theorem TF{n:Nat}{b:Int}(h0:0<=b)(h:kn (cB n 0) b=true):b=0:=by
 unfold cB at h;rcases Ho h with h |h
 ·rw[wP]at h;cases h
 ·have:(0:Int).toNat=0:=rfl;omega
theorem DN(l:Li)(xs:List Tn)(hb:0<l.bo.length):WkH l xs (eD l):=by
 have e0:(eD l).bs.getD 0 bm=iu:=pa (by rw[length_replicate];exact hb);refine⟨fun m g h=>absurd h (Nat.not_lt_zero _),fun b h0 h=>?_,fun m g h=>absurd h (Nat.not_lt_zero _),e0⟩;have:b=0:=TF h0 h;subst this;show CH (eD l).ts ((eD l).bs.getD 0 bm);rw[e0];exact Uo Ce.pos
theorem wD{n e:Nat}{a:List Rat}(h:Nm n e a):a.length<=2^n:=h.nl.le
theorem Pq.ok.nq{n e:Nat}{p:Pq}(h:Pq.ok n e p):Nq n p:=⟨wD h.c,wD h.s,wD h.x,wD h.y⟩
theorem RK{ts ts' T:LL}(e:ts=ts')(h:Lf ts T):Lf ts' T:=e▸h
section
variable{l:Li}{xs:List Tn}{s g:Nat}(W:WkC l xs s g){gr:Gr}{a:Aq}(hg:(splitG l)[a.ms.length]?=some gr)
variable{j r E:Nat}(Q:QInv l j r E a)
include W hg Q
theorem WkH.step(H:WkH l xs a){sv:Sv}(hs:sv∈fj l a.as gr (co gr xs)):WkH l xs (a.nxt gr sv):=by
 have tw:=QInv.twl W hg Q;have hq:(Lw.llq a.as.rs)=a.ts:=a.llq;obtain⟨dy,ok⟩:=W.grp hg;have N:=IK W.li W.sp hg
 have hN:∀p∈a9 a.as,Nq (Lw.llq a.as.rs).length p:=by
  intro p hp;rw[rP]at hp;rw[hq];exact(Q.bs p hp).nq
 have G:=RR tw hN dy (fun b hb=>by
  rw[rP];have:=ok.b b hb;have:=Q.ln;omega) W.li hs
 rw[rP]at G;have L:Lf a.ts sv.ts:=RK hq G.1.lf;have js:=G.1.js;have cs:=G.1.cs;rw[rP]at js cs;have hN':∀i,Nq a.ts.length (a.bs.getD i bm):=fun i=>Ig (fun p hp=>(Q.bs p hp).nq) i
 have sam:∀b:Int,0<=b->b∉gr.bo->gK a.bs (bO a.bs gr.bo sv.ps) a.ts.length b:=fun b h0 hb=>⟨Ru (fun x hx=>(ok.b x hx).1) hb h0,hN' _⟩
 have old:∀b:Int,kn (gI l (splitG l) a.ms.length) b=true->b∉gr.bo:=fun b hk hb=>by
  rw[N.b b hb]at hk;cases hk
 have hml:(a.nxt gr sv).ms.length=a.ms.length+1:=by show(a.ms++[sv.mode]).length=_;simp
 have mono:∀(k m:Nat),m+k<=a.ms.length->∀b:Int,0<=b->kn (gI l (splitG l) m) b=true->kn (gI l (splitG l) (m+k)) b=true:=by
  intro k
  induction k with
  |zero=>intro m _ b _ h;exact h
  |succ k ih =>
   intro m hm b h0 h;have h1:=ih m oz b h0 h;have hlt:m+k<(splitG l).length:=by have:=(List.getElem?_eq_some_iff.1 hg).1;omega
   obtain⟨g2,hg2⟩:=aq hlt;rw[show m+(k+1)=(m+k)+1 by omega,Bu hg2 (W.grp hg2).2 h0,h1];simp
 have jn:∀{z:Int}{jt:Jt},l.jo[z.toNat]?=some jt->0<=jt.a/\0<=jt.b:=fun hj=>by
  obtain⟨i1,i2,_⟩:=cZ W.li hj;have i1:=di i1;have i2:=di i2;omega
 have cz:∀m g2,m<a.ms.length->(splitG l)[m]?=some g2->∀b:Int,0<=b->(b∈g2.bo\/kn (gI l (splitG l) m) b=true)->b∉gr.bo:=by
  intro m g2 hm hg2 b h0 hb;refine old b ?_
  have h1:kn (gI l (splitG l) (m+1)) b=true:=by
   rw[Bu hg2 (W.grp hg2).2 h0];rcases hb with hb |hb
   ·have : g2.bo.any (fun x => decide (x = b)) = true := by rw [List.any_eq_true]; exact ⟨b, hb, by simp⟩
    rw[this];rfl
   ·rw[hb];simp
  have:=mono (a.ms.length-(m+1)) (m+1) oz b h0 h1
  rwa [show m+1+(a.ms.length-(m+1))=a.ms.length by omega]at this
 refine⟨?_,?_,?_,?_⟩
 ·intro m g2 hm hg2 z hz;rw[hml]at hm;show JH l sv.ts (bO a.bs gr.bo sv.ps) _
  by_cases e:m=a.ms.length
  ·subst e;rw[hg]at hg2;cases hg2;exact js z hz
  ·obtain⟨jt,hj⟩ := aq (l := l.jo) (i := z.toNat) (by have := (W.grp hg2).2.j z hz;omega);have hjz:l.jo[z.toNat]?=some jt:=hj;have H1:=H.js m g2 oz hg2 z hz;rw[aB hj]at H1 ⊢;have N2:=IK W.li W.sp hg2;obtain⟨na,nb⟩:=N2.j z hz jt hj;obtain⟨a0,b0⟩:=jn hjz;exact L.jh (sam _ a0 (cz m g2 oz hg2 _ a0 na)) (sam _ b0 (cz m g2 oz hg2 _ b0 nb)) H1
 ·intro b h0 hk;rw[hml,Bu hg ok h0]at hk;show CH sv.ts ((bO a.bs gr.bo sv.ps).getD b.toNat bm)
  by_cases hb:b∈gr.bo
  ·exact cs b hb
  ·have:gr.bo.any (fun x=>decide (x=b))=false:=by
    cases h:gr.bo.any (fun x=>decide (x=b))with
    |false=>rfl
    |true =>
     rw[List.any_eq_true]at h;obtain⟨x,hx,e⟩:=h;exact absurd ((of_decide_eq_true e)▸hx) hb
   rw[this,Bool.false_or]at hk;have S:=sam b h0 hb;rw[S.1];exact L.ch S.2 (H.cs b h0 hk)
 ·intro m g2 hm hg2 hk;rw[hml]at hm;show dE sv.ts ((bO a.bs gr.bo sv.ps).getD (ci g2 0).toNat bm).c=_/\dE sv.ts ((bO a.bs gr.bo sv.ps).getD (ci g2 0).toNat bm).s=_
  by_cases e:m=a.ms.length
  ·subst e;rw[hg]at hg2;cases hg2;exact G.2 hk
  ·obtain⟨h1,h2⟩:=H.dr m g2 oz hg2 hk
   have hb:ci g2 0∈g2.bo:=by
    have:=(W.grp hg2).1;cases this with
    |drv=>exact mem_cons_self
    |rrr=>exact absurd hk (by simp)
    |pr=>exact absurd hk (by simp)
    |rp=>exact absurd hk (by simp)
   have h0:=((W.grp hg2).2.b _ hb).1;have S:=sam _ h0 (cz m g2 oz hg2 _ h0 (.inl hb));obtain⟨n1,n2,_⟩:=S.2;rw[S.1,<- L.low _ n1,<- L.low _ n2,h1,h2,L.q,L.q];exact⟨rfl,rfl⟩
 ·show(bO a.bs gr.bo sv.ps).getD (0:Int).toNat bm=iu
  have h0:(0:Int)∉gr.bo:=by
   refine old 0 ?_
   have hs:=mono a.ms.length 0 oz 0 oz (by
    show kn (cB l.bo.length 0) 0=true;rw[ov oz oz (by have:=(cA W.li).2.2.2;omega)];rfl)
   rwa [Nat.zero_add]at hs
  rw[(sam 0 oz h0).1];exact H.fr
end
end Go.Lw
namespace Go.Lw
theorem LD{F:Int->Bool}{sg:Bool}{f:Sv->List Aq×Nat}{b:Aq}:∀{S:List Sv},b∈(ff F sg f S).1->∃s∈S,b∈(f s).1:=by
 intro S h;obtain⟨s,hs,_,h2⟩:=wl h;exact⟨s,hs,h2⟩
theorem zN{l:Li}{xs:List Tn}{s g:Nat}(W:WkC l xs s g){F:Nat->Int->Bool}{sg:Bool}:∀(n:Nat)(a:Aq),WkSt l s g n a->WkH l xs a->∀b∈(f6 F sg l xs (splitG l) n a).1,WkSt l s g 0 b/\WkH l xs b
 |0,a,h,H,b,hb=>by rw[List.mem_singleton.1 hb];exact⟨h,H⟩
 |n+1,a,h,H,b,hb=>by
  obtain⟨gr,hg,_,hP,hn⟩:=h.next W;obtain⟨⟨j,r,E,y,Q,ok,hc⟩,hl⟩:=h;unfold f6 at hb;rw[aB hg]at hb;split at hb
  ·cases hb
  ·obtain⟨sv,hsv,h2⟩:=LD hb;exact zN W n _ (hn sv hsv) (WkH.step W hg Q H hsv) b h2
structure AqFin(l:Li)(xs:List Tn)(a:Aq):Prop where
  li:ax l=0
  lx:xs.length=l.dv.length
  xo:∀x∈xs,x.err=0/\Qb 1000 x.t.q/\x.t.ok
  tw:∃r,r<=400000000/\Tw a.ts r
  two:a.ts.length<=2
  bs:∀p∈a.bs,Pq.ok a.ts.length 3200000000 p
  ln:a.bs.length=l.bo.length
  lm:a.ms.length<=100
  js:∀j∈l.jo,JH l a.ts a.bs j
  cs:∀i,i<l.bo.length->CH a.ts (a.bs.getD i bm)
  dr:∀i d,l.dv[i]?=some d->dE a.ts (a.bs.getD d.body.toNat bm).c=qE (dC (xs.getD i dM).half (xs.getD i dM).t.q)/\dE a.ts (a.bs.getD d.body.toNat bm).s=qE (dF (xs.getD i dM).half (xs.getD i dM).t.q)
  fr:a.bs.getD 0 bm=iu
theorem CN{f:Gr->List Int}:∀(gs:List Gr)(k:List Bool)(b:Int),kn (gs.foldl (fun k g=>bt k (f g)) k) b=true->kn k b=true\/∃g∈gs,∃x∈f g,x.toNat=b.toNat
 |[],k,b,h=>.inl h
 |g::gs,k,b,h=>by
  rw[foldl_cons]at h;rcases CN gs _ b h with h |⟨g',hg,x,hx,e⟩
  ·rcases Aj _ h with h |⟨x,hx,e⟩
   ·exact .inl h
   ·exact .inr ⟨g,mem_cons_self,x,hx,e⟩
  ·exact .inr ⟨g',mem_cons_of_mem _ hg,x,hx,e⟩
theorem ED{k:List Bool}(h:(en k).length=0){i:Nat}(hi:i<k.length):kn k (i:Int)=true:=by
 rw[xh]at h;unfold kn;rw[getD_eq_getElem?_getD,getElem?_eq_getElem (by omega:(i:Int).toNat<k.length)];show k[(i:Int).toNat]=true;cases hv:k[(i:Int).toNat]'oz with
 |true=>rfl
 |false =>
  exfalso;have hm:false∈k:=hv▸List.getElem_mem _;rw[<- List.contains_iff_mem]at hm;rw[hm]at h;cases h
theorem yf(f:Gr->List Int):∀(gs:List Gr)(k:List Bool),(gs.foldl (fun k g=>bt k (f g)) k).length=k.length
 |[],k=>rfl
 |g::gs,k=>by rw[foldl_cons,yf f gs,jz]
theorem Uv{l:Li}(hs:splitE l=0):(en (bQ l)).length=0/\(en (dQ l)).length=0/\splitG l=findG l:=by
 have h9:(en (bQ l)).length+(en (dQ l)).length=0:=by
  unfold splitE at hs;split at hs
  ·assumption
  ·cases hs
 exact⟨by omega,by omega,by unfold splitG;rw[if_pos hs]⟩
theorem Jd{l:Li}{xs:List Tn}{s g:Nat}(W:WkC l xs s g){a:Aq}(h:WkSt l s g 0 a)(H:WkH l xs a):AqFin l xs a:=by
 obtain⟨⟨j,r,E,y,Q,ok,_⟩,hl⟩:=h;obtain⟨hE,hr,hj⟩:=vj ok;obtain⟨r1,r2,r3⟩:=Uv W.sp;have h1:=Q.lv;have h4:=rG W.li;refine⟨W.li,W.ln,fun x hx=>⟨(W.ok x hx).2.1,(W.ok x hx).2.2.1,(W.ok x hx).1⟩,⟨r,hr,Q.tw⟩,by omega,fun p hp=>(Q.bs p hp).up (le_refl _) Q.tw.five hE,Q.ln,by omega,?_,?_,?_,H.fr⟩
 ·intro jt hjt;obtain ⟨i,hi⟩:=getElem?_of_mem hjt;have hil:=(List.getElem?_eq_some_iff.1 hi).1;have hlen:(dQ l).length = l.jo.length:=by unfold dQ; rw [yf Gr.jo,length_replicate]
  have hk:=ED r2 (i:=i) oz;unfold dQ at hk;rcases CN (f:=Gr.jo) _ _ _ hk with h9 |⟨gr,hg,z,hz,e⟩
  ·rw[wP]at h9;cases h9
  ·rw[<- r3]at hg;obtain⟨m,hm⟩:=getElem?_of_mem hg;have hml:=(List.getElem?_eq_some_iff.1 hm).1;have hJ:=H.js m gr oz hm z hz;rw[e,toNat_natCast,aB hi]at hJ;exact hJ
 ·intro i hi;have hlen:(bQ l).length = l.bo.length:=by unfold bQ; rw [yf Gr.bo,gX]
  have hk:=ED r1 (i:=i) oz
  have e:bQ l=gI l (splitG l) a.ms.length:=by
   unfold gI bQ;rw[r3]at hl ⊢;rw[take_of_length_le oz]
  rw[e]at hk;have:=H.cs i oz hk
  rwa [toNat_natCast]at this
 ·intro i d hd;obtain ⟨gr,hg,hk,hb⟩:=CF W.li W.sp d (mem_of_getElem? hd);obtain ⟨m,hm⟩:=getElem?_of_mem hg;have hml:=(List.getElem?_eq_some_iff.1 hm).1;have hD:=H.dr m gr oz hm hk;have eb:ci gr 0 = d.body:=by unfold ci; rw [hb]; rfl
  have hdy:=(W.grp hm).1
  have ed:gr.driver=(i:Int):=by
   cases hdy with
   | @drv b z dd jt x t d0 hd2 hxb =>
    have e2:x.body=d.body:=hxb.trans (by simpa using hb);rcases Nat.lt_trichotomy dd.toNat i with h9 |h9 |h9
    ·exact absurd e2 ((xm W.li hd).2 _ x h9 hd2)
    ·show dd=(i:Int);omega
    ·exact absurd e2.symm ((xm W.li hd2).2 _ d h9 hd)
   |rrr=>exact absurd hk (by simp)
   |pr=>exact absurd hk (by simp)
   |rp=>exact absurd hk (by simp)
  have et:co gr xs=xs.getD i dM:=by unfold co;rw[if_pos hk,ed,toNat_natCast]
  rw[eb,et]at hD;exact hD
theorem Kg{l:Li}(hl:l.ok){xs:List Tn}(hL:je l xs=true)(hxw:∀x∈xs,x.t.wok){A:List Aq}{e:Nat}(h:j6 l xs=(A,e)):∀a∈A,AqFin l xs a:=by
 by_cases h0:cM l xs=0
 ·obtain⟨s,g,W,St⟩:=zp hL hl hxw h0;have hb:=(cA W.li).2.2.2;have hw:=zN W (F:=ib) (sg:=false) (splitG l).length (eD l) St (DN l xs oz);unfold j6 at h;rw[if_neg (fun h=>h h0)]at h;intro a ha;split at h
  ·cases h;cases ha
  ·have e1:(ma ib false l xs).1=A:=congrArg Prod.fst h;rw[<- e1]at ha;obtain⟨h1,h2⟩:=hw a ha;exact Jd W h1 h2
 ·unfold j6 at h;rw[if_pos h0]at h;cases h;intro a ha;cases ha
open Lean.Grind (CommRing)
section
variable{ts T:LL}(L:Lf ts T)
include L
theorem Lf.pp{l:Li}{bs bs':List Pq}{j:Jt}{i:Int}(tie:(j.a=i/\gK bs bs' ts.length j.b)\/(j.a≠i/\j.b=i/\gK bs bs' ts.length j.a)) :
  an L.pos (Lw.pinP l T bs' j i).1=an L.pos (aS T (Lw.pinP l ts bs j i).1)/\an L.pos (Lw.pinP l T bs' j i).2=an L.pos (aS T (Lw.pinP l ts bs j i).2):=by
 unfold Lw.pinP;rcases tie with⟨e,hs⟩ |⟨e,e2,hs⟩
 ·rw[if_pos e,if_pos e];exact L.pt l hs j.on
 ·rw[if_neg e,if_neg e];exact L.pt l hs j.point
end
section
variable{l:Li}{a:As}{r:Nat}(tw:Tw (llq a.rs) r)(hN:∀p∈a9 a,Nq (llq a.rs).length p)
include tw hN
end
section
variable{l:Li}{xs:List Tn}{s g:Nat}(W:WkC l xs s g){gr:Gr}{a:Aq}(hg:(splitG l)[a.ms.length]?=some gr)
variable{j r E:Nat}(Q:QInv l j r E a)
include W hg Q
end
end Go.Lw
namespace Go.Lw
def gM(s:ByteArray)(n:Int):Bd:=⟨s,[⟨⟨#[97]⟩,rt ((0:Int):Rat),rt ((0:Int):Rat)⟩,⟨⟨#[98]⟩,rt (n:Rat),rt ((0:Int):Rat)⟩]⟩
def fb:Li:=⟨⟨#[102,111,117,114,98,97,114]⟩,[gM ⟨#[102,114,97,109,101]⟩ 4,gM ⟨#[99,114,97,110,107]⟩ 3,gM ⟨#[99,111,117,112,108,101,114]⟩ 5,gM ⟨#[114,111,99,107,101,114]⟩ 6],
  [⟨⟨#[111]⟩,0,1,0,0,0,0⟩,⟨⟨#[112]⟩,0,2,0,1,1,0⟩,⟨⟨#[113]⟩,0,3,0,0,1,0⟩,⟨⟨#[114]⟩,0,2,1,3,1,0⟩],[⟨⟨#[100]⟩,1⟩]⟩
def t0:Tn:=⟨⟨false,[],[]⟩,false⟩
theorem yp(a b:ByteArray):dK a b=(a.data.toList==b.data.toList):=by
 unfold dK;rw[Go.ByteArray.toList_eq,Go.ByteArray.toList_eq]
theorem xr:ax fb=0:=by
 have h1:gG fb=0:=by
  unfold gG eZ dY fX dZ;simp only[yp];decide +kernel
 have h2:ep fb=0:=by
  unfold ep eZ fN fX;simp only[yp];decide +kernel
 have h3:fM fb=0:=by
  unfold fM eZ dP fX;simp only[yp];decide +kernel
 unfold ax;rw[h1,h2,h3];decide +kernel
theorem UP{s:ByteArray}(hs:s.size<=281474976710656){n:Int}(hn:-9223372036854775808<=n/\n<=9223372036854775807) :
  (gM s n).name.size<=281474976710656/\(gM s n).pts.length<=281474976710656/\∀m∈(gM s n).pts,m.name.size<=281474976710656/\m.x.wok/\m.y.wok:=by
 have h0:(rt ((0:Int):Rat)).ok:=(pR oz).ok;have h1:(rt (n:Rat)).ok:=(pR hn).ok;refine⟨hs,by show 2<=_;omega,fun m hm=>?_⟩;simp only[gM,mem_cons,not_mem_nil,or_false]at hm;rcases hm with rfl |rfl
 ·exact⟨by show 1<=_;omega,h0.wok,h0.wok⟩
 ·exact⟨by show 1<=_;omega,h1.wok,h0.wok⟩
theorem Kw:fb.okw:=by
 refine⟨by decide,fun b hb=>?_,fun j hj=>?_,fun d hd=>?_,by decide,by decide,by decide⟩
 ·simp only[fb,mem_cons,not_mem_nil,or_false]at hb;rcases hb with rfl |rfl |rfl |rfl <;> exact UP (by decide) oz
 ·simp only[fb,mem_cons,not_mem_nil,or_false]at hj;rcases hj with rfl |rfl |rfl |rfl <;> decide
 ·simp only[fb,mem_cons,not_mem_nil,or_false]at hd;rcases hd with rfl;decide
theorem sU:fb.ok:=wM (by decide +kernel) Kw
open Go.Proofs
theorem jW.ofL{l l':List AV}(h:SubL l l')(ho:l'.all AV.one=true):jW (.agg l) (.agg l') :=
 ⟨h.len,fun j x y hx hy=>⟨List.all_eq_true.1 ho y (mem_of_getElem? hy),h.get j x y hx hy⟩⟩
theorem F6(s:ByteArray)(x y:Int)(hx:-9223372036854775808<=x/\x<=9223372036854775807)(hy:-9223372036854775808<=y/\y<=9223372036854775807):FP 243 [.v (.string s),i64 x,i64 y] (Mk.av ⟨s,rt (x:Rat),rt (y:Rat)⟩):=by
 refine ah func243 ?_;refine gc (yJ x hx) ?_;refine gc (yJ y hy) ?_;refine af ?_
 first |rfl |(simp;done)
theorem wQ(s:ByteArray)(n:Int)(hn:-9223372036854775808<=n/\n<=9223372036854775807):FP 131 [.v (.string s),i64 n] (gM s n).av:=by
 refine ah func131 ?_;refine gc (F6 _ 0 0 oz oz) ?_;refine gc (F6 _ n 0 hn oz) ?_;refine af ?_
 first |rfl |(simp;done)
theorem Mz:FP 54 [] fb.av:=by
 refine ah func54 ?_;refine gc (wQ _ 4 oz) ?_;refine gc (wQ _ 3 oz) ?_;refine gc (wQ _ 5 oz) ?_;refine gc (wQ _ 6 oz) ?_;refine af ?_
 first |rfl |(simp;done)
deriving instance DecidableEq for Pq
deriving instance DecidableEq for Aq
def QJ:List Aq×Nat:=ma ib false fb [dM]
theorem Qq:cM fb [dM]=0:=by
 unfold cM sT;rw[if_neg (by rw[xr];decide),if_neg (show ¬splitE fb≠0 by decide +kernel),if_neg (show ¬[dM].length≠fb.dv.length by decide +kernel)];decide +kernel
def aF:Aq:=⟨[],[⟨[1],[],[],[]⟩,⟨[1],[],[],[]⟩,⟨[-1],[],[3],[]⟩,⟨[-1],[],[4],[]⟩],[1,0]⟩
theorem Kb:QJ=([aF],0):=by decide +kernel
theorem xn:WkC fb [dM] 32 134:=by
 have z:dM.t.q=0:=by decide +kernel
 have h0:Qb 32 dM.t.q:=by rw[z];exact Qb.zero.mono oz
 refine⟨sU,xr,by decide +kernel,?_,rfl,fun x hx=>?_⟩
 ·have h : ∀ b ∈ fb.bo, ∀ m ∈ b.pts, (m.x.q.num.natAbs < 2 ^ 32 /\ m.x.q.den < 2 ^ 32) /\ (m.y.q.num.natAbs < 2 ^ 32 /\ m.y.q.den < 2 ^ 32) := by decide +kernel
  exact h
 ·rw[List.mem_singleton.1 hx];exact⟨xB,by decide +kernel,GQ,Cb.one (sY h0),Cb.one (rK h0)⟩
theorem CQ:WkSt fb 32 134 (splitG fb).length (eD fb):=by
 refine⟨⟨0,0,2,1,GV fb,wR D9 ?_ (le_refl _),?_⟩,Nat.zero_add _⟩
 ·decide +kernel
 ·decide +kernel
theorem Fx:Sub (.lst 4 [.agg [.v (.bool false),nS,nS,.v (.bool false)]]) (.lst 4 [dM.av]) :=
 Sub.lst rfl (fun i x y hx hy=>by
  match i,hx,hy with
  |0,hx,hy=>cases hx;cases hy;exact .ofL (.cons (.refl _) (.cons (.nil _ _ _) (.cons (.nil _ _ _) (.cons (.refl _) .nil)))) rfl)
theorem vn{ts:LL}{r:Nat}(hr:r<=400000000)(h2:ts.length<=2):kB r ts.length<=1200000006:=by
 have h:=gV r h2;have h3:eB r 2=3*r+6:=by simp only[eB];omega
 show eB r ts.length<=_;omega
theorem lJ{ts:LL}(h2:ts.length<=2):lm ts.length=200000000000:=by unfold lm;rw[if_pos h2]
theorem Wo{ts:LL}{r:Nat}(tw:Tw ts r):FP 28 [aN ts,nS] (i64 (0:Nat)):=by
 have h:=GW (ts.map (List.map rt)) r 0 tw.tr [] (fun x hx=>by cases hx) (zero_le _) (by show 0<=_;omega)
 have e:bg (ts.map (List.map rt)) []=0:=by
  unfold bg;rw[if_neg (by rw[tw.chk];simp)];rfl
 rw[e,ig]at h;exact Con.sA (.cons (.refl _) (.cons (Sub.nil 1 none 0) .nil)) h
theorem VZ{ts:LL}{r e:Nat}(tw:Tw ts r){p:Pq}(hp:Pq.ok ts.length e p)(he:e<=lm ts.length):FP 28 [aN ts,.lst 1 [nA p.c,nA p.s,nA p.x,nA p.y]] (i64 (0:Nat)):=by
 have h:=GW (ts.map (List.map rt)) r e tw.tr p.pl.l (hp.nr he) (by rw[length_map];exact he) (by show 4<=_;omega)
 have e0:bg (ts.map (List.map rt)) p.pl.l=0:=by
  unfold bg;rw[if_neg (by rw[tw.chk];simp),length_map];exact oh (fun x hx=>hp.num x hx)
 have e1:p.pl.l.map nR=[nA p.c,nA p.s,nA p.x,nA p.y]:=by
  unfold Pl.l Pq.pl;simp only[map_cons,map_nil,dV]
 rw[e0,ig,e1]at h;exact h
section
variable{l:Li}{xs:List Tn}{a:Aq}(F:AqFin l xs a)
include F
end
theorem Ra{l:Li}{xs:List Tn}{A:List Aq}{e:Nat}(h:j6 l xs=(A,e))(he:e≠0):A=[]:=by
 unfold j6 at h;split at h
 ·exact(congrArg Prod.fst h).symm
 ·split at h
  ·exact(congrArg Prod.fst h).symm
  ·rename_i h1 h2;exact absurd (congrArg Prod.snd h) (fun h9=>h2 (by rw[h9];exact he))
structure AsmS(l:Li)(xs:List Tn)(A:List Aq)(e:Nat):Prop where
  eq:j6 l xs=(A,e)
  all:FP 33 [l.av,.lst 4 (xs.map Tn.av)] (.tup [.lst 3 (A.map Aq.av),bh e])
  ln:A.length<=1000
theorem MJ{l:Li}(hl:l.ok){xs:List Tn}(hL:je l xs=true)(hxw:∀x∈xs,x.t.wok):∃A e,AsmS l xs A e:=by
 obtain⟨_,hx20,hxo⟩:=xE hL hxw;have hop:=GG l hl xs hxo oz
 by_cases h0:cM l xs=0
 ·obtain ⟨s, g, W, St⟩:=zp hL hl hxw h0;have hsl:=rG W.li;have hlb:=(cA W.li).2.2.2;have hp:2 ^ (splitG l).length <= 256:=le_trans (bV (b:=8) oz) (by decide);have hw:=Br W ib false (fo:=198) (caps:=[]) (fun k m _=>Rm k m) (splitG l).length (eD l) St [] (by simp only [length_nil]; omega);have hA:=J7 h0 hop oz oz (R:=ma ib false l xs) hw;have hlen:=By W ib false (splitG l).length (eD l) St;refine ⟨_,_,⟨?_,hA,?_⟩⟩
  ·unfold j6;rw[if_neg (fun h=>h h0)]
   by_cases hE:(ma ib false l xs).2≠0
   ·rw[if_pos hE,if_pos hE]
   ·rw[if_neg hE,if_neg hE]
  ·split
   ·exact zero_le _
   ·exact le_trans hlen oz
 ·have hA:=Tm h0 hop;refine⟨[],cM l xs,⟨?_,hA,zero_le _⟩⟩;unfold j6;rw[if_pos h0]
theorem Tv{p:Bool}{e:Nat}(h:cond (cond (!true) true (!p)) true (aa .neq (e:Int) 0)=false):p=true/\e=0:=by
 cases p
 ·simp at h
 ·exact⟨rfl,jA h⟩
theorem tQ{ts:LL}{r e f:Nat}(tw:Tw ts r){x:List Rat}(hx:Nm ts.length e x){v:Rat}(hv:Qb f v)(he:e+2*f+1<=lm ts.length)(hf:f<=9000) :
  FP 308 [aN ts,nA x,qA v] (bl (fm ts (ae ts.length x) (ae ts.length (sh 0 (v:Rat))))):=by
 have hlm:=jN ts.length;refine ah func308 ?_;refine gc (mj (hv.qs oz)) ?_;refine gc (z5 tw hx (US tw.five hv) oz) ?_;refine gD ?_;refine af ?_;exact congrArg bl (Bi _)
theorem VT{ts:LL}{r e:Nat}(tw:Tw ts r){x:List Rat}(hx:Nm ts.length e x)(he:e<=lm ts.length):FP 307 [aN ts,nA x] (bl true):=by
 have h:=UX (ts.map (List.map rt)) r tw.tr (x.map rt) e (hx.rt he)
 have e0:bg (ts.map (List.map rt)) [x.map rt]=0:=by
  unfold bg;rw[if_neg (by rw[tw.chk];simp),length_map];exact oh (fun y hy=>by rw[List.mem_singleton.1 hy];exact nV hx.nl)
 rw[e0,ig,dV]at h;exact h
theorem O8{ts:LL}{r:Nat}(tw:Tw ts r):FP 144 [aN ts] (bh 0):=by
 have h:=ri (ts.map (List.map rt)) r tw.tr;rw[tw.chk,ig]at h;exact h
structure AqS(l:Li)(a:Aq):Prop where
  li:ax l=0
  tw:∃r,r<=400000000/\Tw a.ts r
  two:a.ts.length<=2
  bs:∀p∈a.bs,Pq.ok a.ts.length 3200000000 p
  ln:a.bs.length=l.bo.length
theorem AqFin.s{l:Li}{xs:List Tn}{a:Aq}(F:AqFin l xs a):AqS l a:=⟨F.li,F.tw,F.two,F.bs,F.ln⟩
theorem yV{l:Li}{a:Aq}(F:AqS l a)(hl:l.ok){body pt:Int}(h1:bw body l.bo.length=true)(h2:bw pt (cF l body).length=true) :
  Nm a.ts.length 12100000000 (sX (ba l a.ts a.bs body pt).1)/\Nm a.ts.length 12100000000 (sX (ba l a.ts a.bs body pt).2):=by
 obtain⟨n,k,bd,m,h⟩:=q6 hl F.li h1 h2;obtain⟨r,hr,tw⟩:=F.tw;have hk:=vn hr F.two;obtain⟨p,hp⟩:=aq (l:=a.bs) (i:=n) (by rw[F.ln];exact(List.getElem?_eq_some_iff.1 h.gbd).1);have po:=F.bs p (mem_of_getElem? hp);have e:body.toNat=n:=by have:=h.hn;omega
 have hb:Pq.ok a.ts.length 3200000000 ⟨lq p.pl.c,lq p.pl.s,lq p.pl.x,lq p.pl.y⟩:=by
  unfold Pq.pl;dsimp only;rw[dO,dO,dO,dO];exact po
 have hq:=EG tw hb h.sm;unfold Pq.pl at hq;dsimp only[fE]at hq;rw[dO,dO,dO,dO]at hq;unfold ba;rw[e,aB hp];exact⟨hq.1.mono oz,hq.2.mono oz⟩
def rJ(ts:LL)(p:Pq):Bool:=fm ts (nQ ts (ae ts.length p.c) (ae ts.length p.s) (ae ts.length p.c) (ae ts.length p.s)) (T.ofQ ts.length 1)
def pu(ts:LL)(p:Pq):Bool:=fm ts (ae ts.length p.c) (T.ofQ ts.length 1)&&fm ts (ae ts.length p.s) (T.ofQ ts.length 0)&&fm ts (ae ts.length p.x) (T.ofQ ts.length 0)&&fm ts (ae ts.length p.y) (T.ofQ ts.length 0)
def mn(l:Li)(a:Aq)(j:Jt):Bool :=
  if j.kind=0 then decide (T.sgn (am a.ts) a.ts.length (subT a.ts (ba l a.ts a.bs j.a j.point).1 (ba l a.ts a.bs j.b j.on).1)=0/\T.sgn (am a.ts) a.ts.length (subT a.ts (ba l a.ts a.bs j.a j.point).2 (ba l a.ts a.bs j.b j.on).2)=0)
  else decide (T.sgn (am a.ts) a.ts.length (tm a.ts (ba l a.ts a.bs j.b j.on).1 (ba l a.ts a.bs j.b j.on).2 (ba l a.ts a.bs j.b j.to).1 (ba l a.ts a.bs j.b j.to).2 (ba l a.ts a.bs j.a j.point).1 (ba l a.ts a.bs j.a j.point).2)=0)
theorem P9{ts:LL}{p:Pq}(h:CH ts p):rJ ts p=true:=decide_eq_true h
theorem KL(ts:LL):pu ts iu=true:=by
 unfold pu iu;dsimp only;rw[kC,fV,T.ofQ_zero,lO,lO];rfl
theorem RL{l:Li}{a:Aq}{j:Jt}(h:JH l a.ts a.bs j):mn l a j=true:=by
 unfold JH at h;unfold mn;split
 ·rename_i hk;rw[if_pos hk]at h;exact decide_eq_true h
 ·rename_i hk;rw[if_neg hk]at h;exact decide_eq_true h
def Pq.l(p:Pq):LL:=[p.c,p.s,p.x,p.y]
theorem Pq.ok.mem{n e:Nat}{p:Pq}(h:Pq.ok n e p):∀x∈p.l,Nm n e x:=by
 intro x hx;simp only[Pq.l,mem_cons,not_mem_nil,or_false]at hx;rcases hx with rfl |rfl |rfl |rfl
 ·exact h.c
 ·exact h.s
 ·exact h.x
 ·exact h.y
theorem Og{ts:LL}{r e:Nat}(tw:Tw ts r){p:Pq}(hp:Pq.ok ts.length e p)(he:e+1000<=lm ts.length):FP 213 [aN ts,p.av] (bl (pu ts p)):=by
 have hlm:=jN ts.length
 have h1:FP 308 [aN ts,nA p.c,qA ((1:Int):Rat)] (bl (fm ts (ae ts.length p.c) (T.ofQ ts.length 1))):=by
  have h:=tQ tw hp.c Qb.one oz oz;rw[gT]at h;exact h
 have h0:∀x:List Rat,Nm ts.length e x->FP 308 [aN ts,nA x,.agg [.v (.bool false),nS,nS]] (bl (fm ts (ae ts.length x) (T.ofQ ts.length 0))):=fun x hx=>by
  have h:=tQ tw hx Qb.zero oz oz;rw[gT]at h;exact Con.sA (.cons (.refl _) (.cons (.refl _) (.cons iH .nil))) h
 refine ah func213 ?_;refine gc (kF 1 oz) ?_;refine gc h1 ?_;refine bF (fun _=>(h0 _ hp.s)) ?_;refine bF (fun _=>(h0 _ hp.x)) ?_;refine bF (fun _=>(h0 _ hp.y)) ?_;refine gD ?_;refine af ?_;exact congrArg bl (Ef _ _ _ _)
theorem LJ{l:Li}{a:Aq}(F:AqS l a){p:Pq}(hpm:p∈a.bs):FP 212 [aN a.ts,p.av] (bl (rJ a.ts p)):=by
 obtain⟨r,hr,tw⟩:=F.tw;have hkb:=vn hr F.two;have hlm:=lJ F.two;have hp:=F.bs p hpm;refine ah func212 ?_;refine ge rfl ?_;refine aJ [2,3,18,19] [2,3] (fun(k:Nat)=>[(20,some (i64 k))]) (fun _=>[]) (fun k=>k<=4) (fun k=>4-k) 0 (zero_le _) ?_;rintro k hk K1 J1;refine gC (fun t21=>?_) (fun t21=>?_)
 ·have hkn:k<4:=aT (b:=4) t21;obtain⟨x,hx⟩:∃x,p.l[k]?=some x:=aq (l:=p.l) hkn;refine gi (au hx) ?_;refine gc (VT tw (hp.mem x (mem_of_getElem? hx)) oz) ?_;refine gC (fun t27=>?_) (fun t27=>?_) (st1:=(5,0));cases t27;refine ga aE ?_;exact aD J1 (k+1) hkn
 have hdn:=xU tw hp.c hp.s hp.c hp.s;have hdot:=tz tw hp.c hp.s hp.c hp.s oz;have heq:=tQ tw hdn Qb.one oz oz;rw[a7,gT]at heq;refine gc hdot ?_;refine bF (fun _=>(kF 1 oz)) ?_;refine bF (fun _=>heq) ?_;refine gD ?_;refine af ?_;rfl
def uI(ts:LL)(p:Pq)(x:Tn):Bool:=fm ts (ae ts.length p.c) (ae ts.length (sh 0 (dC x.half x.t.q:Rat)))&&fm ts (ae ts.length p.s) (ae ts.length (sh 0 (dF x.half x.t.q:Rat)))
theorem Lh{ts:LL}{r e:Nat}(tw:Tw ts r){p:Pq}(hp:Pq.ok ts.length e p)(hle:e+20000<=lm ts.length){x:Tn}(hx:x.t.ok)(he:x.err=0)(hq:Qb 1000 x.t.q) :
  FP 219 [aN ts,p.av,x.av] (bl (uI ts p x)):=by
 have hc:=Ap x hx hq oz;rw[if_pos he,he]at hc;have hs:=DU x hx hq oz;rw[if_pos he,he]at hs;refine ah func219 ?_;refine gc hc ?_;refine gC (fun t16=>?_) (fun t16=>?_) (st1:=(3,0));cases t16;refine gc hs ?_;refine bF (fun _=>(tQ tw hp.c (UW x.half hq) oz oz)) ?_;refine bF (fun _=>(tQ tw hp.s (SM x.half hq) oz oz)) ?_;refine af ?_;exact congrArg bl (iz _ _)
theorem x5{l:Li}(hl:l.ok){a:Aq}(F:AqS l a){body pt:Int}(h1:bw body l.bo.length=true)(h2:bw pt (cF l body).length=true) :
  FP 309 [l.av,a.av,i64 body,i64 pt] (.tup [aI (sX (ba l a.ts a.bs body pt).1) (sX (ba l a.ts a.bs body pt).2),.v .nilIface]):=by
 obtain⟨n,k,bd,m,h⟩:=q6 hl F.li h1 h2;obtain⟨r,hr,tw⟩:=F.tw;have hkb:=vn hr F.two;have hlm:=lJ F.two;have hlb:=(cA F.li).2.2.2.1;obtain⟨p,hp⟩:=aq (l:=a.bs) (i:=n) (by rw[F.ln];exact(List.getElem?_eq_some_iff.1 h.gbd).1);have po:=F.bs p (mem_of_getElem? hp);have hn:=h.hn;have hk:=h.hk
 have e:ba l a.ts a.bs body pt=eF a.ts p (aX l body pt):=by
  unfold ba;rw[hn,toNat_natCast,aB hp]
 have hat:FP 89 [aN a.ts,p.av,m.x.av,m.y.av] (.tup [aI (sX (ba l a.ts a.bs body pt).1) (sX (ba l a.ts a.bs body pt).2),.v .nilIface]):=by
  rw[h.ex,h.ey,e];exact yD tw po.c po.s po.x po.y (h.sm.x.mono oz) (h.sm.y.mono oz) oz
 have gb:=h.gbd;have gm:=h.gm;clear h h1 h2 e;subst hn;subst hk;refine ah func309 ?_;refine gi (au gb) ?_;refine gi (au gm) ?_;refine gi (au hp) ?_;refine gc hat ?_;refine gD ?_;refine br ?_
 first |rfl |(simp;done)
theorem JG{l:Li}(hl:l.ok){a:Aq}(F:AqS l a){i:Nat}{j:Jt}(hj:l.jo[i]?=some j):FP 216 [l.av,a.av,j.av] (bl (mn l a j)):=by
 obtain⟨r,hr,tw⟩:=F.tw;have hkb:=vn hr F.two;have hlm:=lJ F.two;obtain⟨i1,i2,i3,i4,i5⟩:=cZ F.li hj;have np:=yV F hl i1 i3;have nq:=yV F hl i2 i4;have ed:∀y:Et a.ts,ae a.ts.length (sX y)=y:=fun y=>a7 _ _
 refine ah func216 ?_;refine gc (x5 hl F i1 i3) ?_;refine gC (fun t25=>?_) (fun t25=>?_) (st1:=(3,0));cases t25;refine gc (x5 hl F i2 i4) ?_;refine gC (fun t37=>?_) (fun t37=>?_) (st1:=(6,0));cases t37;refine gC (fun t40=>?_) (fun t40=>?_)
 ·have hk:j.kind=0:=cD t40;have hsame:=Lm tw np.1 np.2 nq.1 nq.2 oz;rw[ed,ed,ed,ed]at hsame;refine gc hsame ?_;refine af ?_;unfold mn;rw[if_pos hk];rfl
 have hk:j.kind≠0:=dm t40;have nr:=yV F hl i2 (i5 hk);have hor:=Ux tw nq.1 nq.2 nr.1 nr.2 np.1 np.2 oz;rw[ed,ed,ed,ed,ed,ed]at hor;refine gc (x5 hl F i2 (i5 hk)) ?_;refine gC (fun t65=>?_) (fun t65=>?_) (st1:=(12,0));cases t65;refine gc hor ?_;refine af ?_;unfold mn;rw[if_neg hk];exact congrArg bl (Bi _)
theorem V8(bs:List Pq)(hl:bs.length<=281474976710656)(f:FuncId)(c:List AV)(ok:Nat->Bool)
  (hf:∀(i:Nat)(b:Pq),bs[i]?=some b->(∀j,j<i->ok j=true)->FP f ([i64 i,b.av]++[.iptr c]) (bl (!ok i))) :
  FP 210 [.lst 4 (bs.map Pq.av),.fn f [.iptr c]] (i64 (iY (cw bs.length ok))):=by
 refine ah func210 ?_;refine gl ?_;refine aJ [1,7,8] [] (fun(i:Nat)=>[(9,some (i64 i))]) (fun _=>[]) (fun i=>i<=bs.length/\∀j,j<i->ok j=true) (fun i=>bs.length-i) 0 ⟨zero_le _,fun j h=>by omega⟩ ?_;rintro i ⟨hi,hj⟩ K1 J1;refine gC (fun t10=>?_) (fun t10=>?_)
 ·have hin:=aT t10;obtain⟨b,hb⟩:=aq hin;refine gi (au hb) ?_;refine gs (uW (.tmp rfl) (hf i b hb hj) (bp rfl rfl) aC rfl rfl) ?_;refine gC (fun t17=>?_) (fun t17=>?_)
  ·have h2:=cW t17;refine af ?_;rw[gq hin hj h2];rfl
  have h2:=c9 t17;refine ga aE ?_;exact aD J1 (i+1) ⟨hin,fun j h9=>by rcases lt_or_ge j i with g |g;exact hj j g;(have:j=i:=by omega);subst this;exact h2⟩
 have hin:=a5 hi t10;subst hin;refine af ?_;rw[fC hj];rfl
theorem Nd(bs:List Jt)(hl:bs.length<=281474976710656)(f:FuncId)(c d:List AV)(ok:Nat->Bool)
  (hf:∀(i:Nat)(b:Jt),bs[i]?=some b->(∀j,j<i->ok j=true)->FP f ([i64 i,b.av]++[.iptr c,.iptr d]) (bl (!ok i))) :
  FP 214 [.lst 7 (bs.map Jt.av),.fn f [.iptr c,.iptr d]] (i64 (iY (cw bs.length ok))):=by
 refine ah func214 ?_;refine gl ?_;refine aJ [1,7,8] [] (fun(i:Nat)=>[(9,some (i64 i))]) (fun _=>[]) (fun i=>i<=bs.length/\∀j,j<i->ok j=true) (fun i=>bs.length-i) 0 ⟨zero_le _,fun j h=>by omega⟩ ?_;rintro i ⟨hi,hj⟩ K1 J1;refine gC (fun t10=>?_) (fun t10=>?_)
 ·have hin:=aT t10;obtain⟨b,hb⟩:=aq hin;refine gi (au hb) ?_;refine gs (uW (.tmp rfl) (hf i b hb hj) (bp rfl rfl) aC rfl rfl) ?_;refine gC (fun t17=>?_) (fun t17=>?_)
  ·have h2:=cW t17;refine af ?_;rw[gq hin hj h2];rfl
  have h2:=c9 t17;refine ga aE ?_;exact aD J1 (i+1) ⟨hin,fun j h9=>by rcases lt_or_ge j i with g |g;exact hj j g;(have:j=i:=by omega);subst this;exact h2⟩
 have hin:=a5 hi t10;subst hin;refine af ?_;rw[fC hj];rfl
theorem UB(bs:List Dr)(hl:bs.length<=281474976710656)(f:FuncId)(c d:List AV)(ok:Nat->Bool)
  (hf:∀(i:Nat)(b:Dr),bs[i]?=some b->(∀j,j<i->ok j=true)->FP f ([i64 i,b.av]++[.iptr c,.iptr d]) (bl (!ok i))) :
  FP 217 [.lst 2 (bs.map Dr.av),.fn f [.iptr c,.iptr d]] (i64 (iY (cw bs.length ok))):=by
 refine ah func217 ?_;refine gl ?_;refine aJ [1,7,8] [] (fun(i:Nat)=>[(9,some (i64 i))]) (fun _=>[]) (fun i=>i<=bs.length/\∀j,j<i->ok j=true) (fun i=>bs.length-i) 0 ⟨zero_le _,fun j h=>by omega⟩ ?_;rintro i ⟨hi,hj⟩ K1 J1;refine gC (fun t10=>?_) (fun t10=>?_)
 ·have hin:=aT t10;obtain⟨b,hb⟩:=aq hin;refine gi (au hb) ?_;refine gs (uW (.tmp rfl) (hf i b hb hj) (bp rfl rfl) aC rfl rfl) ?_;refine gC (fun t17=>?_) (fun t17=>?_)
  ·have h2:=cW t17;refine af ?_;rw[gq hin hj h2];rfl
  have h2:=c9 t17;refine ga aE ?_;exact aD J1 (i+1) ⟨hin,fun j h9=>by rcases lt_or_ge j i with g |g;exact hj j g;(have:j=i:=by omega);subst this;exact h2⟩
 have hin:=a5 hi t10;subst hin;refine af ?_;rw[fC hj];rfl
def oB(ts:LL)(i:Nat)(p:Pq):Bool:=rJ ts p&&(decide (0<i)||pu ts p)
theorem Uf(ts:LL)(i:Nat)(p:Pq):cond (!rJ ts p) true (cond (aa .eql (i:Int) 0) (!pu ts p) false)=!oB ts i p:=by
 unfold oB
 have e:aa .eql (i:Int) 0=!decide (0<i):=by
  rw[oN,<- decide_not];exact decide_eq_decide.2 oz
 rw[e];cases rJ ts p <;> cases decide (0<i) <;> cases pu ts p <;> rfl
theorem OX{l:Li}{a:Aq}(F:AqS l a){i:Nat}{p:Pq}(hp:a.bs[i]?=some p):FP 211 [i64 i,p.av,.iptr a.cs] (bl (!oB a.ts i p)):=by
 obtain⟨r,hr,tw⟩:=F.tw;have hlm:=lJ F.two;have hpm:=mem_of_getElem? hp;refine ah func211 ?_;refine gc (LJ F hpm) ?_;refine bF (fun _=>(Og tw (F.bs p hpm) oz)) ?_;refine af ?_;exact congrArg bl (Uf _ _ _)
theorem KB{l:Li}(hl:l.ok){a:Aq}(F:AqS l a){i:Nat}{j:Jt}(hj:l.jo[i]?=some j):FP 215 [i64 i,j.av,.iptr l.av.cells,.iptr a.cs] (bl (!mn l a j)):=by
 refine ah func215 ?_;refine gc (JG hl F hj) ?_;refine af ?_;rfl
def nN(l:Li)(ys:List Tn)(a:Aq)(i:Nat):Bool:=uI a.ts (a.bs.getD (l.dv.getD i default).body.toNat bm) (ys.getD i dM)
def jc(l:Li)(ys:List Tn)(a:Aq):Nat×Nat:=match cw a.bs.length (fun i=>oB a.ts i (a.bs.getD i bm))with
  |some i=>(2,i)
  |none=>match cw l.jo.length (fun i=>mn l a (l.jo.getD i default))with
    |some i=>(3,i)
    |none=>match cw l.dv.length (nN l ys a)with
      |none=>(0,0)
      |some i=>(4,i)
theorem Jz{l:Li}{ys:List Tn}{a:Aq}:(((jc l ys a).1:Int)==0&&((jc l ys a).2:Int)==0)=(decide ((0:Nat)=0)&&decide ((jc l ys a).1=0)):=by
 unfold jc;split
 ·rfl
 ·split
  ·rfl
  ·split <;> rfl
theorem Ky{l:Li}{a:Aq}(F:AqS l a){ys:List Tn}(hy:∀x∈ys,x.t.ok/\x.err=0/\Qb 1000 x.t.q)(hyl:ys.length=l.dv.length){i:Nat}{d:Dr}(hd:l.dv[i]?=some d) :
  FP 218 [i64 i,d.av,.iptr a.cs,.iptr [.lst 4 (ys.map Tn.av)]] (bl (!nN l ys a i)):=by
 have hin:=(List.getElem?_eq_some_iff.1 hd).1;have hd2:=xt F.li;have hbl:=(cA F.li).2.2.2.1;have hln:=F.ln;obtain⟨r,hr,tw⟩:=F.tw;have hlm:=lJ F.two;have hdb:=di (lI F.li hd);obtain⟨p,hp⟩:=aq (l:=a.bs) (i:=d.body.toNat) oz;obtain⟨x,hx⟩:=aq (l:=ys) (i:=i) oz;have hxo:=hy x (mem_of_getElem? hx);have ht:=Lh tw (F.bs p (mem_of_getElem? hp)) oz hxo.1 hxo.2.1 hxo.2.2
 have e:nN l ys a i=uI a.ts p x:=by
  unfold nN;rw[aB hd,aB hp,aB hx]
 refine ah func218 ?_;refine gi (au hp) ?_;refine gi (au hx) ?_;refine gc ht ?_;refine gD ?_;refine af ?_;rw[e];rfl
theorem V5{l:Li}(hl:l.ok){a:Aq}(F:AqS l a){ys:List Tn}(hy:∀x∈ys,x.t.ok/\x.err=0/\Qb 1000 x.t.q)(hyl:ys.length=l.dv.length) :
  FP 106 [l.av,.lst 4 (ys.map Tn.av),a.av] (xH (jc l ys a)):=by
 obtain⟨r,hr,tw⟩:=F.tw;have hbl:=(cA F.li).2.2.2.1;have hln:=F.ln;refine ah func106 ?_ (1,0);refine gW ((Wk.freezeB (k:=3) rfl rfl).trans<|(Wk.freezeB (k:=4) rfl rfl).trans<|(Wk.freezeB (k:=5) rfl rfl).trans<|Wk.o (sl:=[(3,some (.iptr l.av.cells)),(4,some (.iptr [.lst 4 (ys.map Tn.av)])),(5,some (.iptr a.cs)),(6,some (.ptr 6 0))]) (hp:=[(6,some (.box [i64 0,i64 0]))])) ?_;refine gc (O8 tw) ?_;refine bP ?_;refine bP ?_;refine gC (fun t22=>?_) (fun t22=>?_) (st1:=(2,0));exact((S8 t22).elim (fun h=>h rfl) (fun h=>h hln)).elim;refine gc (V8 a.bs oz 211 a.cs (fun i=>oB a.ts i (a.bs.getD i bm)) (fun i b hb _=>by have h:=OX F hb;rw[<- aB (d:=bm) hb]at h ⊢;exact h)) ?_;refine gC (fun t29=>?_) (fun t29=>?_)
 ·obtain⟨i,hi⟩:=zw t29;refine af ?_;unfold jc;rw[hi];rfl
 have f1:=yr t29;refine gc (Nd l.jo hl.lj 215 l.av.cells a.cs (fun i=>mn l a (l.jo.getD i default)) (fun i j hj _=>by have h:=KB hl F hj;rw[<- aB (d:=default) hj]at h ⊢;exact h)) ?_;refine gC (fun t37=>?_) (fun t37=>?_)
 ·obtain⟨i,hi⟩:=zw t37;refine af ?_;unfold jc;rw[f1,hi];rfl
 have f2:=yr t37;refine gc (UB l.dv hl.ld 218 a.cs [.lst 4 (ys.map Tn.av)] (nN l ys a) (fun i d hd _=>Ky F hy hyl hd)) ?_;refine gC (fun t45=>?_) (fun t45=>?_)
 ·obtain⟨i,hi⟩:=zw t45;refine af ?_;unfold jc;rw[f1,f2,hi];rfl
 have f3:=yr t45;refine af ?_;unfold jc;rw[f1,f2,f3];rfl
theorem TZ{l:Li}(hl:l.ok){a:Aq}(F:AqS l a)(ys:List Tn)(hy:∀x∈ys,x.t.ok/\Qb 1000 x.t.q)(hyl:ys.length<=281474976710656) :
  FP 37 [l.av,.lst 4 (ys.map Tn.av),a.av] (.tup [bl (decide (jI l ys=0)&&decide ((jc l ys a).1=0)),xH (if jI l ys=0 then jc l ys a else(0,0)),bh (jI l ys)]):=by
 have hld:=hl.ld;refine ah func37 ?_;refine gc (xg l hl) ?_;refine gC (fun t17=>?_) (fun t17=>?_) (st1:=(3,0));exact absurd F.li (cT t17);have h1:=F.li;refine gl ?_;refine gl ?_;refine gC (fun t25=>?_) (fun t25=>?_)
 ·have h2 : ys.length ≠ l.dv.length := by have := nO t25; omega
  have hb:jI l ys≠0:=by rw[Eg h1 h2];decide
  refine wU ?_;rw[if_neg hb,decide_eq_false hb,Eg h1 h2];rfl
 have h2:ys.length=l.dv.length:=by have:=ww t25;omega
 refine gl ?_;refine aJ [1,3,5,7,28,29] [3,5,7] (fun(i:Nat)=>[(30,some (i64 i))]) (fun _=>[]) (fun i=>i<=ys.length/\∀x∈ys.take i,x.err=0) (fun i=>ys.length-i) 0 ⟨zero_le _,fun x hx=>by simp at hx⟩ ?_;rintro i ⟨hi,hj⟩ K1 J1;refine gC (fun t31=>?_) (fun t31=>?_)
 ·have hin:=aT t31;obtain⟨x,hxx⟩:=aq hin;refine gi (au hxx) ?_;refine gc (uL x (hy x (mem_of_getElem? hxx)).1) ?_;refine gC (fun t37=>?_) (fun t37=>?_)
  ·have h3:=cT t37;have hb:jI l ys ≠ 0:=by rw [Gl h1 h2 hxx hj h3]; exact h3
   refine wU ?_;rw[if_neg hb,decide_eq_false hb,Gl h1 h2 hxx hj h3];rfl
  have h3:=da t37;refine ga aE ?_;exact aD J1 (i+1) ⟨hin,fun y hy=>by rw[cS hxx]at hy;rcases List.mem_append.1 hy with h9 |h9;exact hj y h9;(rw[List.mem_singleton.1 h9];exact h3)⟩
 have hin:=a5 hi t31;subst hin;rw[take_length]at hj;have hb:=Id h1 h2 hj;refine gc (V5 hl F (fun x h9=>⟨(hy x h9).1,hj x h9,(hy x h9).2⟩) h2) ?_;refine gs (JX (.tmp rfl) (.tmp rfl) (by kernel_rfl) rfl) ?_;refine gD ?_;refine wU ?_;rw[hb,if_pos rfl,Jz];rfl
theorem dJ{ts:LL}{e f:Nat}{x y:Et ts}(h1:Bz e x)(h2:Bz f y):Nm ts.length (e+f+1) (sX (x-y)):=Bz.sub h1 h2
section
variable{ts:LL}{r e f:Nat}(tw:Tw ts r){x y x2 y2:Et ts}
include tw
theorem pU(h1:Nm ts.length e (sX x))(h2:Nm ts.length e (sX y))(h3:Nm ts.length e (sX x2))(h4:Nm ts.length e (sX y2))(he:2*e<=lm ts.length) :
  FP 76 [aN ts,aI (sX x) (sX y),aI (sX x2) (sX y2)] (.tup [aI (sX (x-x2)) (sX (y-y2)),.v .nilIface]):=by
 have h:=xy tw h1 h2 h3 h4 he;have ew:∀z:Et ts,ae ts.length (sX z)=z:=fun z=>a7 _ _
 rw[ew,ew,ew,ew]at h;exact h
theorem KT(h1:Nm ts.length e (sX x))(h2:Nm ts.length e (sX y))(h3:Nm ts.length e (sX x2))(h4:Nm ts.length e (sX y2))(he:2*(e+e+kB r ts.length)<=lm ts.length) :
  FP 77 [aN ts,aI (sX x) (sX y),aI (sX x2) (sX y2)] (.tup [nA (sX (crsE x y x2 y2)),.v .nilIface]):=by
 have h:=BR tw h1 h2 h3 h4 he;have ew:∀z:Et ts,ae ts.length (sX z)=z:=fun z=>a7 _ _
 rw[ew,ew,ew,ew]at h;exact h
theorem zf(h1:Nm ts.length e (sX x))(h2:Nm ts.length e (sX y))(h3:Nm ts.length e (sX x2))(h4:Nm ts.length e (sX y2))(he:2*(e+e+kB r ts.length)<=lm ts.length) :
  FP 80 [aN ts,aI (sX x) (sX y),aI (sX x2) (sX y2)] (.tup [nA (sX (dotE x y x2 y2)),.v .nilIface]):=by
 have h:=tz tw h1 h2 h3 h4 he;have ew:∀z:Et ts,ae ts.length (sX z)=z:=fun z=>a7 _ _
 rw[ew,ew,ew,ew]at h;exact h
theorem Va(h1:Bz e x)(h2:Bz e y)(h3:Bz f x2)(h4:Bz f y2):Nm ts.length (2*(e+f+kB r ts.length)+1) (sX (crsE x y x2 y2)) :=
 ((h1.mul tw (le_refl _) h4).sub (h2.mul tw (le_refl _) h3)).mono (by show e+f+kB r ts.length+(e+f+kB r ts.length)+1<=_;omega)
theorem EN(h1:Bz e x)(h2:Bz e y)(h3:Bz f x2)(h4:Bz f y2):Nm ts.length (2*(e+f+kB r ts.length)+1) (sX (dotE x y x2 y2)) :=
 ((h1.mul tw (le_refl _) h3).add (h2.mul tw (le_refl _) h4)).mono (by show e+f+kB r ts.length+(e+f+kB r ts.length)+1<=_;omega)
end
def ot(l:Li)(a:As)(g:Gr):List Rat:=if g.kind=0 then sh 0 ((1:Int):Rat)else sX (iG l a g)
section
variable{E:Nat}{l:Li}{a:As}(D:DyW l a)(h3:(llq a.rs).length<=2)
include D h3
theorem jD{body pt:Int}(h1:bw body l.bo.length=true)(h2:bw pt (cF l body).length=true)(hb:Pd E a body) :
  Nm (llq a.rs).length (3*E+2400002022) (sX (bn l a body pt).1)/\Nm (llq a.rs).length (3*E+2400002022) (sX (bn l a body pt).2):=by
 obtain⟨n,k,bd,m,b,hp⟩:=sH D.hl D.li D.al D.hc h1 h2 hb;obtain⟨tw,_⟩:=cK D.al.tr D.hc;have kb:=o9 h3;have c1:Qb 1000 m.x.q:=by rw[hp.mp.ex,bM];exact hp.mp.sm.x
 have c2:Qb 1000 m.y.q:=by rw[hp.mp.ey,bM];exact hp.mp.sm.y
 have h:=vB tw hp.ok c1 c2;unfold bn;rw[hp.eq];exact⟨h.1.mono oz,h.2.mono oz⟩
theorem nk{i:Nat}{j:Jt}(hj:l.jo[i]?=some j){b:Int}(h:PinP E l a j b) :
  Nm (llq a.rs).length (3*E+2400002022) (sX (aK l a j b).1)/\Nm (llq a.rs).length (3*E+2400002022) (sX (aK l a j b).2):=by
 obtain⟨i1,i2,i3,i4,_⟩:=cZ D.li hj;unfold aK;rcases h.tie with⟨e,hb⟩ |⟨e,e2,hb⟩
 ·rw[if_pos e];exact jD D h3 i2 i4 hb
 ·rw[if_neg e];exact jD D h3 i1 i3 hb
theorem w6{b:Int}(hb:Pd E a b){q:Rat×Rat}(hq:Sm 1000 q):Nm (llq a.rs).length (3*E+2400002022) (sX (kA a b q).1)/\Nm (llq a.rs).length (3*E+2400002022) (sX (kA a b q).2):=by
 obtain⟨p,hp,hn,hbn⟩:=hb;obtain⟨tw,_⟩:=cK D.al.tr D.hc;have h5:a.rs.length<=5:=by have:=tw.five;rwa [pW]at this
 have h9:=(xS hn hbn h5).2;rw[<- pW a.rs]at h9;have kb:=o9 h3;have h:=EG tw h9 hq;unfold kA;rw[aB hp];exact⟨h.1.mono oz,h.2.mono oz⟩
theorem GJ(hE:E<=3200000000){b:Int}{p:Pl}(hp:a.bs[b.toNat]?=some p)(hn:bg a.rs p.l=0)(hbn:∀x∈p.l,NR x E){q:Rat×Rat}(hq:Sm 1000 q) :
  FP 89 [.agg [.lst 1 (a.rs.map nR)],p.av,qA q.1,qA q.2] (.tup [aI (sX (kA a b q).1) (sX (kA a b q).2),.v .nilIface]):=by
 obtain⟨tw,hta⟩:=cK D.al.tr D.hc;have h5:a.rs.length<=5:=by have:=tw.five;rwa [pW]at this
 obtain⟨e1,ok⟩:=xS hn hbn h5;rw[<- pW a.rs]at ok;have kb:=o9 h3;have hlm:=lJ h3;have h:=yD tw (ok.c.mono (f:=E+1000) oz) (ok.s.mono oz) (ok.x.mono oz) (ok.y.mono oz) (hq.x.mono (f:=E+1000) oz) (hq.y.mono (f:=E+1000) oz) oz;rw[e1,<- lw D.al.tr D.hc];unfold kA;rw[aB hp];exact h
end
theorem QE{E:Nat}{l:Li}{a:As}(D:DyW l a)(h3:(llq a.rs).length<=2){k:Int}{n:Nat}{g:Gr}(ok:DyOk E l k a true n g):Nm (llq a.rs).length (24*E+21600016203) (ot l a g):=by
 obtain⟨tw,hta⟩:=cK D.al.tr D.hc;have kb:=o9 h3;unfold ot
 by_cases h0:g.kind=0
 ·rw[if_pos h0];exact(Nm.ofQ tw.five (Cb.int (z:=1) (e:=1) (by decide))).mono oz
 ·rw[if_neg h0]
  by_cases h1:g.kind=1
  ·obtain⟨i,k2,z0,z1,z2,j0,j1,j2,P⟩:=ok.rrr h1;obtain⟨y1,y2⟩:=nk D h3 P.h0 P.p0;obtain⟨y3,y4⟩:=nk D h3 P.h1 P.p1;obtain⟨y5,y6⟩:=w6 D h3 (ok.own (b:=i) (by rw[P.eq];simp)) (gj D.hl D.li P.h2 P.t1);obtain⟨e0,e1,e2,b0,b1,_⟩:=P.at;unfold iG;rw[if_neg h0,if_pos h1,e0,e1,e2,b0,b1];exact(Va tw (dJ y3 y1) (dJ y4 y2) (dJ y5 y1) (dJ y6 y2)).mono oz
  ·by_cases h2:g.kind=2
   ·obtain ⟨i, z0, z1, j0, j, P, ha, hb⟩:=ok.pr h2;obtain ⟨i1,i2,i3,i4,i5⟩:=cZ D.li P.h1;have q2:Sm 1000 (aX l i j.point):=by rw [<- ha]; exact jX D.hl D.li i1 i3
    obtain⟨y1,y2⟩:=nk D h3 P.h0 P.p0;obtain⟨y3,y4⟩:=jD D h3 i2 (i5 P.hk) hb;obtain⟨y7,y8⟩:=jD D h3 i2 i4 hb;obtain⟨y5,y6⟩:=w6 D h3 (ok.own (b:=i) (by rw[P.eq];simp)) q2;obtain⟨e0,e1,b0,_⟩:=P.at;unfold iG;rw[if_neg h0,if_neg h1,if_pos h2,e0,e1,b0];exact(EN tw (dJ y3 y7) (dJ y4 y8) (dJ y5 y1) (dJ y6 y2)).mono oz
   ·obtain ⟨i, z0, z1, j0, j, P, _, hj, hb⟩:=ok.rp h0 h1 h2;obtain ⟨i1,i2,i3,i4,i5⟩:=cZ D.li P.h1;have hpi:Pd E a j.b:=by rw [hj]; exact ok.own (b:=i) (by rw [P.eq]; simp)
    obtain⟨y1,y2⟩:=nk D h3 P.h0 P.p0;obtain⟨y3,y4⟩:=jD D h3 i1 i3 hb;obtain⟨y5,y6⟩:=jD D h3 i2 i4 hpi;obtain⟨y7,y8⟩:=jD D h3 i2 (i5 P.hk) hpi;obtain⟨e0,e1,b0,_⟩:=P.at;unfold iG;rw[if_neg h0,if_neg h1,if_neg h2,e0,e1,b0];exact(EN tw (dJ y7 y5) (dJ y8 y6) (dJ y3 y1) (dJ y4 y2)).mono oz
theorem J9{E:Nat}(hE:E<=3200000000){l:Li}{k:Int}{a:As}{n:Nat}{g:Gr}(hop:Con prog 63 [l.av,i64 k,a.av,bl true] [] (.tup [.ptr 900 0,.v .nilIface]) [(900,some (b9 l g a))])(D:DyW l a)(h3:(llq a.rs).length<=2)(ok:DyOk E l k a true n g) :
  FP 27 [l.av,i64 k,a.av] (.tup [nA (ot l a g),.v .nilIface]):=by
 obtain⟨tw,hta⟩:=cK D.al.tr D.hc;have kb:=o9 h3;have hlm:=lJ h3;have hgo:=ok.ok;have hbl:=D.al.bl;refine ah func27 ?_;refine gt (aA hop (.cons (.tmp rfl) (.cons (.tmp rfl) (.cons (.tmp rfl) (.cons (.const _) .nil)))) aC rfl rfl) ?_ (2,0);refine gW (Wk.o (sl:=[(5,some (.ptr 5 0)),(8,some (.ptr 900 0)),(9,some (.v .nilIface))]) (hp:=[(5,some (.box a.av.cells)),(900,some (b9 l g a))])) ?_;refine gC (fun t30=>?_) (fun t30=>?_) (st1:=(3,0)) (st2:=(5,0));cases t30;refine gW (Wk.o (sl:=[(5,some (.ptr 5 0)),(8,some (.ptr 900 0)),(10,some (.ptr 35 0))]) (hp:=[(5,some (.box a.av.cells)),(900,some (b9 l g a)),(35,some (dh a.rs))])) ?_ (10,0);refine Ao [8,10] [900,35] [(11,some (nA (sX (iG l a g))))] [] (g.kind≠0) ?_ ?_ 2
 ·intro K1 J1;refine gC (fun t79=>?_) (fun t79=>?_)
  ·have hk:g.kind=0:=cD t79;have hd:ot l a g=sh 0 ((1:Int):Rat):=if_pos hk;rw[hd];refine gc (NQ) ?_;refine gR ?_;exact kD rfl
  have hk0:g.kind≠0:=dm t79;refine gC (fun t82=>?_) (fun t82=>?_)
  ·have hk:g.kind = 1:=cD t82;obtain ⟨i,k2,z0,z1,z2,j0,j1,j2,P⟩:=ok.rrr hk;obtain ⟨e0,e1,e2,b0,b1,_⟩:=P.at;have hE9:iG l a g = oi (a8 (aK l a j1 k2) (aK l a j0 i)) (a8 (kA a i (aj l j2 i)) (aK l a j0 i)):=by unfold iG; rw [if_neg hk0,if_pos hk,e0,e1,e2,b0,b1]
   obtain rfl:=P.eq;have hi0:=(hgo.b i (by simp)).1;obtain⟨p,hp,hn,hbn⟩:=ok.own (b:=i) (by simp);have hil:=(List.getElem?_eq_some_iff.1 hp).1;have hq:=gj D.hl D.li P.h2 P.t1;obtain⟨y1,y2⟩:=nk D h3 P.h0 P.p0;obtain⟨y3,y4⟩:=nk D h3 P.h1 P.p1;obtain⟨y5,y6⟩:=w6 D h3 (ok.own (b:=i) (by simp)) hq;have s1:=pU tw y3 y4 y1 y2 oz;have s2:=pU tw y5 y6 y1 y2 oz;have s3:=KT tw (dJ y3 y1) (dJ y4 y2) (dJ y5 y1) (dJ y6 y2) oz;rw[lw D.al.tr D.hc]at s1 s2 s3;refine gt (aA (Con.rB 900 rfl rfl rfl rfl (Gq D.hl D.li D.al D.hc h3 hgo P.h0 P.h1 P.h2 P.p0 P.p1 P.t1 P.t2)) (cr rfl) aC rfl rfl) ?_;refine gi (rfl) ?_;refine gi (f9 (n:=i.toNat) oz hp) ?_;refine gc (GJ D h3 hE (b:=i) hp hn hbn hq) ?_;refine gt (aR (Con.rB 35 rfl rfl rfl rfl (mb _ _ _)) (aG rfl rfl rfl) rfl rfl rfl) ?_;refine gD ?_;refine gc s1 ?_;refine gt (aR (Con.rB 35 rfl rfl rfl rfl (mb _ _ _)) (aG rfl rfl rfl) rfl rfl rfl) ?_;refine gc s2 ?_;refine gt (aR (Con.rB 35 rfl rfl rfl rfl (mb _ _ _)) (aG rfl rfl rfl) rfl rfl rfl) ?_;refine gc s3 ?_;refine gt (aR (Con.rB 35 rfl rfl rfl rfl (oG _ _)) (aG rfl rfl rfl) rfl rfl rfl) ?_;refine gD ?_;exact nJ J1 hk0 (hw:=Wk.of (.cons rfl (Sub.of (congrArg (fun z=>nA (sX z)) hE9.symm)) (.k (.k .nil))) (.k (.k .nil)))
  have hk1:g.kind≠1:=dm t82;refine gC (fun t149=>?_) (fun t149=>?_)
  ·have hk:g.kind = 2:=cD t149;obtain ⟨i,z0,z1,j0,j,P,ha,hb⟩:=ok.pr hk;obtain ⟨e0,e1,b0,_⟩:=P.at;have hE9:iG l a g = jT (a8 (bn l a j.b j.to) (bn l a j.b j.on)) (a8 (kA a i (aX l i j.point)) (aK l a j0 i)):=by unfold iG; rw [if_neg hk0,if_neg hk1,if_pos hk,e0,e1,b0]
   obtain rfl:=P.eq;obtain⟨i1,i2,i3,i4,i5⟩:=cZ D.li P.h1;have hi0:=(hgo.b i (by simp)).1;obtain⟨p,hp,hn,hbn⟩:=ok.own (b:=i) (by simp);have hil:=(List.getElem?_eq_some_iff.1 hp).1;have hq:Sm 1000 (aX l i j.point):=by rw[<- ha];exact jX D.hl D.li i1 i3
   obtain⟨y1,y2⟩:=nk D h3 P.h0 P.p0;obtain⟨y3,y4⟩:=jD D h3 i2 (i5 P.hk) hb;obtain⟨y7,y8⟩:=jD D h3 i2 i4 hb;obtain⟨y5,y6⟩:=w6 D h3 (ok.own (b:=i) (by simp)) hq;have s1:=pU tw y3 y4 y7 y8 oz;have s2:=pU tw y5 y6 y1 y2 oz;have s3:=zf tw (dJ y3 y7) (dJ y4 y8) (dJ y5 y1) (dJ y6 y2) oz;rw[lw D.al.tr D.hc]at s1 s2 s3;refine gt (aA (Con.rB 900 rfl rfl rfl rfl (Hj D.hl D.li D.al D.hc h3 hgo P.h0 P.h1 P.p0 ha P.hk hb)) (cr rfl) aC rfl rfl) ?_;refine gi (rfl) ?_;refine gi (f9 (n:=i.toNat) oz hp) ?_;refine gc (GJ D h3 hE (b:=i) hp hn hbn hq) ?_;refine gt (aR (Con.rB 35 rfl rfl rfl rfl (mb _ _ _)) (aG rfl rfl rfl) rfl rfl rfl) ?_;refine gD ?_;refine gc s1 ?_;refine gt (aR (Con.rB 35 rfl rfl rfl rfl (mb _ _ _)) (aG rfl rfl rfl) rfl rfl rfl) ?_;refine gc s2 ?_;refine gt (aR (Con.rB 35 rfl rfl rfl rfl (mb _ _ _)) (aG rfl rfl rfl) rfl rfl rfl) ?_;refine gc s3 ?_;refine gt (aR (Con.rB 35 rfl rfl rfl rfl (oG _ _)) (aG rfl rfl rfl) rfl rfl rfl) ?_;refine gD ?_;exact nJ J1 hk0 (hw:=Wk.of (.cons rfl (Sub.of (congrArg (fun z=>nA (sX z)) hE9.symm)) (.k (.k .nil))) (.k (.k .nil)))
  have hk2:g.kind≠2:=dm t149;obtain⟨i,z0,z1,j0,j,P,ha,hj,hb⟩:=ok.rp hk0 hk1 hk2;obtain⟨e0,e1,b0,_⟩:=P.at;have hE9:iG l a g=jT (a8 (bn l a j.b j.to) (bn l a j.b j.on)) (cq l a i j0 j):=by unfold iG;rw[if_neg hk0,if_neg hk1,if_neg hk2,e0,e1,b0]
  obtain rfl:=P.eq;obtain⟨i1,i2,i3,i4,i5⟩:=cZ D.li P.h1;have hpi:Pd E a j.b:=by rw[hj];exact ok.own (b:=i) (by simp)
  obtain⟨y1,y2⟩:=nk D h3 P.h0 P.p0;obtain⟨y5,y6⟩:=jD D h3 i1 i3 hb;obtain⟨y3,y4⟩:=jD D h3 i2 (i5 P.hk) hpi;obtain⟨y7,y8⟩:=jD D h3 i2 i4 hpi;have s0:=pU tw y5 y6 y1 y2 oz;have sd:=zf tw (dJ y5 y1) (dJ y6 y2) (dJ y5 y1) (dJ y6 y2) oz;have s1:=pU tw y3 y4 y7 y8 oz;have s3:=zf tw (dJ y3 y7) (dJ y4 y8) (dJ y5 y1) (dJ y6 y2) oz;rw[lw D.al.tr D.hc]at s0 sd s1 s3;refine gt (aR (Con.rB 900 rfl rfl rfl rfl (BA D.hl _ hgo a rfl P.h1)) (cr rfl) rfl rfl rfl) ?_;refine gt (aA (Con.rekeyBB 900 35 (by decide) (by decide) rfl rfl rfl rfl rfl rfl (IB (E:=E) oz D h3 hgo P.h0 P.h1 P.p0 hj P.hk hb s0 sd)) (bp rfl rfl) aC rfl rfl) ?_;refine gt (aA (Con.rB 900 rfl rfl rfl rfl (oI (E:=E) D.hl D.li _ D.al D.hc i2 (i5 P.hk) oz h3 hpi)) (aG rfl rfl rfl) aC rfl rfl) ?_;refine gt (aA (Con.rB 900 rfl rfl rfl rfl (oI (E:=E) D.hl D.li _ D.al D.hc i2 i4 oz h3 hpi)) (aG rfl rfl rfl) aC rfl rfl) ?_;refine gc s1 ?_;refine gt (aR (Con.rB 35 rfl rfl rfl rfl (mb _ _ _)) (aG rfl rfl rfl) rfl rfl rfl) ?_;refine gD ?_;refine gc s3 ?_;refine gt (aR (Con.rB 35 rfl rfl rfl rfl (oG _ _)) (aG rfl rfl rfl) rfl rfl rfl) ?_;refine gD ?_;exact nJ J1 hk0 (hw:=Wk.of (.cons rfl (Sub.of (congrArg (fun z=>nA (sX z)) hE9.symm)) (.k (.k .nil))) (.k (.k .nil)))
 rintro hk9;rw[show ot l a g=sX (iG l a g)from if_neg hk9];refine gC (fun t219=>?_) (fun t219=>?_) (st2:=(77777,0))
 ·refine gC (fun t231=>?_) (fun t231=>?_) (st1:=(23,0));cases t231;refine gR ?_;exact kD rfl
 cases t219
def lZ(l:Li)(a:Aq)(g:Gr):List Rat:=if g.kind=0 then sh 0 ((1:Int):Rat)else sX (iK l a.ts a.bs g)
theorem DE(l:Li)(a:Aq)(g:Gr):ot l a.as g=lZ l a g:=by
 unfold ot lZ;split
 ·rfl
 ·rw[Mo]
  have:∀(T:LL)(bs:List Pq),T=a.ts->bs=a.bs->(sX (iK l T bs g):List Rat)=sX (iK l a.ts a.bs g):=by
   rintro _ _ rfl rfl;rfl
  exact this _ _ a.llq (rP a)
theorem KF{l:Li}{a:Aq}{g:Gr}:T.sgn (am a.ts) a.ts.length (ae a.ts.length (lZ l a g))=ak (iK l a.ts a.bs g):=by
 unfold lZ;split
 ·rename_i h;rw [gT];have e:iK l a.ts a.bs g = qE 1:=by unfold iK; rw [if_pos h]
  rw[e];rfl
 ·have e:ae a.ts.length (sX (iK l a.ts a.bs g))=iK l a.ts a.bs g:=a7 _ _;rw[e];rfl
structure AqE(E:Nat)(l:Li)(a:Aq):Prop where
  s:AqS l a
  be:∀p∈a.bs,Pq.ok a.ts.length E p
  le:E<=3200000000
theorem AqS.e{l:Li}{a:Aq}(F:AqS l a):AqE 3200000000 l a:=⟨F,F.bs,le_refl _⟩
section
variable{E:Nat}{l:Li}(hl:l.ok){a:Aq}(F:AqE E l a)(hs:splitE l=0){k:Nat}{g:Gr}(hg:(splitG l)[k]?=some g)
include hl F hs hg
theorem I2(own:Bool):DyW l a.as/\DyOk E l k a.as own k g/\(Lw.llq a.as.rs).length<=2/\ft l k a.as own=0:=by
 obtain⟨r,hr,tw⟩:=F.s.tw;have hE:=F.le;have Q:QInv l 2 r E a:=⟨tw,F.s.two,F.be,F.s.ln⟩
 have D:DyW l a.as:=⟨hl,F.s.li,Q.ab F.s.li oz hr,Q.chk⟩
 have h0:=Q.dy0 F.s.li hs hg own;obtain⟨i,g',h⟩:=Aw (Q.sma oz (le_refl _) k own) h0;have e:i=k:=by have:=h.hk;omega
 subst e;have h2:=h.hg;rw[hg]at h2;cases h2;exact⟨D,h,by rw[a.llq];exact F.s.two,h0⟩
theorem Sj:Nm a.ts.length (24*E+21600016203) (lZ l a g):=by
 obtain⟨D,ok,h3,_⟩:=I2 hl F hs hg true;have h:=QE D h3 ok;rw[DE,a.llq]at h;exact h
theorem O9:FP 27 [l.av,i64 k,a.av] (.tup [nA (lZ l a g),.v .nilIface]):=by
 obtain⟨D,ok,h3,h0⟩:=I2 hl F hs hg true;have hop:=FC l hl k a.as D.al true;have hgA:iN l (k:Nat)=g:=aB hg;rw[h0,hgA]at hop;have h:=J9 F.le hop D h3 ok;rw[Aq.as_av,DE]at h;exact h
end
section
variable{l:Li}(hl:l.ok){a:Aq}(F:AqS l a)(hs:splitE l=0){k:Nat}{g:Gr}(hg:(splitG l)[k]?=some g)
include hl F hs hg
theorem OP:Nm a.ts.length 99300000000 (lZ l a g):=(Sj hl F.e hs hg).mono oz
theorem Wr:FP 27 [l.av,i64 k,a.av] (.tup [nA (lZ l a g),.v .nilIface]):=O9 hl F.e hs hg
theorem L3:FP 116 [aN a.ts,nA (lZ l a g)] (.tup [i64 (ak (iK l a.ts a.bs g)),.v .nilIface]):=by
 obtain⟨r,hr,tw⟩:=F.tw;have hlm:=lJ F.two;have h:=uU tw (OP hl F hs hg) oz;rw[KF]at h;exact h
end
theorem LG{l:Li}{xs:List Tn}{a:Aq}(F:AqFin l xs a):jI l xs=0:=Id F.li F.lx (fun x hx=>(F.xo x hx).1)
theorem Tb{l:Li}{xs:List Tn}{a:Aq}(F:AqFin l xs a):jc l xs a=(0,0):=by
 have f1:cw a.bs.length (fun i=>oB a.ts i (a.bs.getD i bm))=none:=fC (fun i hi=>by
  have hc:=F.cs i (by rw[<- F.ln];exact hi);unfold oB;rw[P9 hc,Bool.true_and]
  by_cases h0:i=0
  ·subst h0;rw[F.fr,KL];simp
  ·rw[decide_eq_true (by omega:0<i)];rfl)
 have f2:cw l.jo.length (fun i=>mn l a (l.jo.getD i default))=none:=fC (fun i hi=>by
  obtain⟨j,hj⟩:=aq hi;rw[aB hj];exact RL (F.js j (mem_of_getElem? hj)))
 have f3:cw l.dv.length (nN l xs a)=none:=fC (fun i hi=>by
  obtain⟨d,hd⟩:=aq hi;have h:=F.dr i d hd;unfold nN uI;rw[aB hd,gT,gT];rw[show ae a.ts.length (a.bs.getD d.body.toNat bm).c=T.ofQ a.ts.length (dC (xs.getD i dM).half (xs.getD i dM).t.q)from h.1,show ae a.ts.length (a.bs.getD d.body.toNat bm).s=T.ofQ a.ts.length (dF (xs.getD i dM).half (xs.getD i dM).t.q)from h.2,lO,lO];rfl)
 unfold jc;rw[f1,f2,f3]
section
variable{l:Li}{xs:List Tn}{s g:Nat}(W:WkC l xs s g)
include W
end
section
variable{l:Li}{xs:List Tn}{s g:Nat}(W:WkC l xs s g)
include W
end
theorem Kv{l:Li}(hl:l.ok){xs:List Tn}{a:Aq}(F:AqFin l xs a)(hxl:xs.length<=281474976710656):FP 37 [l.av,.lst 4 (xs.map Tn.av),a.av] (.tup [bl true,xH (0,0),bh 0]):=by
 have hv:=TZ hl F.s xs (fun x hx=>⟨(F.xo x hx).2.2,(F.xo x hx).2.1⟩) hxl;rw[LG F,if_pos rfl,Tb F]at hv;exact hv
theorem RA{l:Li}(hl:l.ok)(h1:ax l=0)(h2:splitE l=0):FP 143 [l.av] (.tup [.lst 4 ((splitG l).map Gr.av),bh 0]):=by
 have h:=AW l hl;rw[if_pos h1,if_pos h1,h2]at h;exact h
structure AqM0(l:Li)(a:Aq):Prop where
  sp:splitE l=0
  ml:a.ms.length=(splitG l).length
structure AqSg(l:Li)(a:Aq):Prop extends AqM0 l a where
  sg:∀m g,m<a.ms.length->(splitG l)[m]?=some g->ak (iK l a.ts a.bs g)=a.ms.getD m 0
theorem Vj{l:Li}(hl:l.ok){xs:List Tn}(hL:je l xs=true)(hxw:∀x∈xs,x.t.wok){A:List Aq}{e:Nat}(h:j6 l xs=(A,e)):∀a∈A,AqM0 l a:=by
 by_cases h0:cM l xs=0
 ·obtain⟨s,g,W,St⟩:=zp hL hl hxw h0;have hw:=FX W (F:=ib) (sg:=false) (splitG l).length (eD l) St;unfold j6 at h;rw[if_neg (fun h=>h h0)]at h;intro a ha;split at h
  ·cases h;cases ha
  ·have e1:(ma ib false l xs).1=A:=congrArg Prod.fst h;rw[<- e1]at ha;obtain⟨_,hl⟩:=hw a ha;exact⟨W.sp,by omega⟩
 ·unfold j6 at h;rw[if_pos h0]at h;cases h;intro a ha;cases ha
theorem GI{l:Li}(hl:l.ok){xs:List Tn}{a:Aq}(F:AqFin l xs a)(hs:splitE l=0)(hxl:xs.length<=281474976710656) :
  FP 115 [l.av,.lst 4 (xs.map Tn.av),a.av] (.tup [.lst 4 ((splitG l).map Gr.av),.v .nilIface]):=by
 have z0:eO (iw 0)=true:=rfl;refine ah func115 ?_;refine gc (RA hl F.li hs) ?_;refine gC (fun t18=>?_) (fun t18=>?_) (st1:=(3,0));cases t18;refine gc (Kv hl F hxl) ?_;refine gC (fun t28=>?_) (fun t28=>?_) (st1:=(6,0));cases t28;refine gC (fun t32=>?_) (fun t32=>?_) (st1:=(8,0));cases t32;refine br ?_;rfl
theorem PX{l:Li}(hl:l.ok){xs:List Tn}{a:Aq}(F:AqFin l xs a)(M:AqSg l a)(hxl:xs.length<=281474976710656) :
  FP 41 [l.av,.lst 4 (xs.map Tn.av),a.av] (.tup [.lst 1 (a.ms.map i64),.v .nilIface]):=by
 have hml:=M.ml;have hlm:=F.lm;refine ah func41 ?_;refine gc (GI hl F M.sp hxl) ?_;refine gC (fun t23=>?_) (fun t23=>?_) (st1:=(3,0));cases t23;refine gl ?_;refine gW (Wk.virt 900 1 rfl) ?_;refine aJ [3,5,26] [3,5] (fun(i:Nat)=>[(10,some (.ms 900 1 0 i)),(27,some (i64 i))]) (fun i=>[(900,some (.row 1 ((a.ms.take i).map i64)))]) (fun i=>i<=(splitG l).length) (fun i=>(splitG l).length-i) 0 (zero_le _) ?_;rintro i hi K1 J1;refine gC (fun t28=>?_) (fun t28=>?_) (st2:=(16,0))
 ·have hin:=aT t28;obtain⟨g,hg⟩:=aq hin;obtain⟨m,hm⟩:=aq (l:=a.ms) (i:=i) oz
  have hsg:ak (iK l a.ts a.bs g)=m:=by
   have h:=M.sg i g oz hg
   rwa [aB hm]at h
  have hsn:=L3 hl F.s M.sp hg;rw[hsg]at hsn;refine gc (Wr hl F.s M.sp hg) ?_;refine gC (fun t38=>?_) (fun t38=>?_) (st1:=(10,0));cases t38;refine gc hsn ?_;refine gC (fun t48=>?_) (fun t48=>?_) (st1:=(13,0));cases t48;refine gs (bR (.tmp rfl) rfl (vC oz).symm (.tmp rfl) T39 rfl T3 rfl rfl (by simp only[length_cons,length_nil];omega) rfl rfl) ?_ (15,0);refine gW (Wk.of (sl:=[(3,some (.ptr 3 0)),(5,some (.ptr 5 0)),(10,some (.ms 53 1 0 (i+1))),(26,some (i64 (splitG l).length)),(27,some (i64 i))]) (hp:=[(3,some (.box l.av.cells)),(5,some (.box a.cs)),(53,some (.row 1 ((a.ms.take (i+1)).map i64)))]) aQ (.k (.k (.cons rfl (BlkSub.of (by rw[cS hm,map_append];rfl)) .nil)))) ?_ (15,0);refine gW (Wk.rk (k:=53) (d:=900) rfl rfl) ?_;refine ga aE ?_;exact aD J1 (i+1) hin
 have hin:=a5 hi t28;rw[<- hml]at hin;subst hin;refine gW ((Wk.freeze (k:=900) rfl).trans<|Wk.of (sl:=[(10,some (.lst 1 (a.ms.map i64)))]) (hp:=[]) (.cons rfl (Sub.of (by rw[bI (vC (le_refl _)).symm,take_length])) .nil) .nil) ?_;refine br ?_;rfl
def jU(f:Int)(q:Rat):Rat:=if f<0 then -q else q
theorem EF{q:Rat}(h:Qs q):FP 120 [qA q] (qA q):=by
 have h1:=Ch (rt q) h.ok;rw[bM]at h1;exact h1
theorem Tt{q:Rat}(h:Qs q):Qs (-q):=by
 obtain⟨k,hk,h1,h2⟩:=h;exact⟨k,hk,h1.neg,h2⟩
theorem yF(x:List Rat)(hx:∀q∈x,Qs q)(hl:x.length<=1000)(f:Int):FP 117 [nA x,i64 f] (nA (x.map (jU f))):=by
 refine ah func117 ?_;refine gl ?_;refine gW (Wk.virt 900 3 rfl) ?_;refine aJ [1,8,9] [] (fun(i:Nat)=>[(5,some (.ms 900 3 0 i)),(10,some (i64 i))]) (fun i=>[(900,some (.row 3 (((x.take i).map (jU f)).map qA)))]) (fun i=>i<=x.length) (fun i=>x.length-i) 0 (zero_le _) ?_;rintro i hi K1 J1;refine gC (fun t11=>?_) (fun t11=>?_) (st2:=(9,0))
 ·have hin:=aT t11;obtain⟨q,hq⟩:=aq hin;have hqs:=hx q (mem_of_getElem? hq);refine gi (au hq) ?_;refine gC (fun t15=>?_) (fun t15=>?_)
  ·have hs:jU f q=-q:=if_pos (of_decide_eq_true t15);have hw:=EF (Tt hqs);refine gc (U3 hqs) ?_;refine gc hw ?_;refine gs (bR (.tmp rfl) rfl (mx oz).symm (.tmp rfl) T67 rfl T45 rfl rfl (by simp only[length_cons,length_nil];omega) rfl rfl) ?_ (8,0);refine gW (Wk.of (sl:=[(1,some (i64 f)),(5,some (.ms 22 3 0 (i+1))),(8,some (.lst 3 (x.map qA))),(9,some (i64 x.length)),(10,some (i64 i))]) (hp:=[(22,some (.row 3 (((x.take (i+1)).map (jU f)).map qA)))]) aQ (.cons rfl (BlkSub.of (by rw[sa hq,hs])) .nil)) ?_ (8,0);refine gW (Wk.rk (k:=22) (d:=900) rfl rfl) ?_;refine ga aE ?_;exact aD J1 (i+1) hin
  have hs:jU f q=q:=if_neg (of_decide_eq_false t15);have hw:=EF hqs;refine gc hw ?_;refine gs (bR (.tmp rfl) rfl (mx oz).symm (.tmp rfl) T67 rfl T45 rfl rfl (by simp only[length_cons,length_nil];omega) rfl rfl) ?_ (8,0);refine gW (Wk.of (sl:=[(1,some (i64 f)),(5,some (.ms 22 3 0 (i+1))),(8,some (.lst 3 (x.map qA))),(9,some (i64 x.length)),(10,some (i64 i))]) (hp:=[(22,some (.row 3 (((x.take (i+1)).map (jU f)).map qA)))]) aQ (.cons rfl (BlkSub.of (by rw[sa hq,hs])) .nil)) ?_ (8,0);refine gW (Wk.rk (k:=22) (d:=900) rfl rfl) ?_;refine ga aE ?_;exact aD J1 (i+1) hin
 have hin:=a5 hi t11;subst hin;refine gW ((Wk.freeze (k:=900) rfl).trans<|Wk.of (sl:=[(5,some (.lst 3 ((x.map (jU f)).map qA)))]) (hp:=[]) (.cons rfl (Sub.of (by rw[bI (mx (le_refl _)).symm,take_length])) .nil) .nil) ?_;refine af ?_;rfl
def CV(m:Int):Int:=IntKind.i64.wrap (0-m)
def j8(p:Pq):Pq:=⟨p.c,p.s.map (fun q=>-q),p.x,p.y.map (fun q=>-q)⟩
def nf(l:Li)(a:Aq)(k:Nat):Int:=if((splitG l).getD k default).kind=1 then CV (a.ms.getD k 0)else a.ms.getD k 0
def oW(l:Li)(a:Aq):Aq:=⟨a.ts,a.bs.map j8,(List.range a.ms.length).map (nf l a)⟩
theorem GR{n e:Nat}{x:List Rat}(h:Nm n e x)(he:e<4398046511104):FP 117 [nA x,i64 1] (nA x):=by
 have hl:=h.nl.len5 h.five;have c:=yF x (fun q hq=>h.cb.qs he hq) oz 1;rw[show x.map (jU 1)=x from by rw[show jU 1=id from funext fun q=>if_neg (by decide)];exact map_id _]at c;exact c
theorem FI{n e:Nat}{x:List Rat}(h:Nm n e x)(he:e<4398046511104):FP 117 [nA x,i64 (-1)] (nA (x.map fun q=>-q)):=by
 have hl:=h.nl.len5 h.five;have c:=yF x (fun q hq=>h.cb.qs he hq) oz (-1);rw[show jU (-1)=(fun q=>-q)from funext fun q=>if_pos (by decide)]at c;exact c
theorem PO{ts:LL}{r:Nat}(tw:Tw ts r){x:List Rat}(hm:x∈ts):FP 117 [nA x,i64 1] (nA x):=by
 obtain⟨j,hj,e⟩:=List.mem_iff_getElem.1 hm;have h6:=tw.len j hj;rw[aB (getElem?_eq_getElem hj),e]at h6;have h7:=tw.three
 have h8:x.length<=32:=by
  rw[h6];exact le_trans (Nat.pow_le_pow_right oz (show j<=5 by omega)) (by decide)
 have c:=yF x (tw.rb.qs tw.le x hm) oz 1;rw[show x.map (jU 1)=x from by rw[show jU 1=id from funext fun q=>if_neg (by decide)];exact map_id _]at c;exact c
theorem Nm.ng{n e:Nat}{a:List Rat}(ha:Nm n e a):Nm n e (a.map fun q=>-q):=⟨ha.five,mJ ha.nl,ha.cb.minus⟩
theorem LS{l:Li}{a:Aq}(F:AqS l a):AqS l (oW l a):=by
 refine⟨F.li,F.tw,F.two,fun p hp=>?_,?_⟩
 ·obtain⟨q,hq,rfl⟩:=List.mem_map.1 hp;have h:=F.bs q hq;exact⟨h.c,h.s.ng,h.x,h.y.ng⟩
 ·show(a.bs.map j8).length=_;rw[length_map];exact F.ln
theorem VD{l:Li}(hl:l.ok){xs:List Tn}{a:Aq}(F:AqFin l xs a)(M:AqM0 l a)(hxl:xs.length<=281474976710656) :
  FP 44 [l.av,.lst 4 (xs.map Tn.av),a.av] (.tup [(oW l a).av,.v .nilIface]):=by
 have hln:=F.ln;have hbl:=(cA F.li).2.2.2.1;have hml:=M.ml;have hlm:=F.lm;have h2:=F.two;obtain⟨r,hr,tw⟩:=F.tw;have hgl:=PS F.li;refine ah func44 ?_;refine gc (GI hl F M.sp hxl) ?_;refine gC (fun t25=>?_) (fun t25=>?_) (st1:=(3,0));cases t25;refine gl ?_;refine gW (Wk.virt 900 1 rfl) ?_;refine aJ [5,6,8,10,30,31] [5,6] (fun(i:Nat)=>[(32,some (i64 i))]) (fun i=>[(10,some (.box [.ms 900 1 0 i,nS,nS])),(900,some (.row 1 ((a.ts.take i).map nA)))]) (fun i=>i<=a.ts.length) (fun i=>a.ts.length-i) 0 (zero_le _) ?_ (h2:=(.cons rfl (BlkSub.bL (.cons (.nM _ _ _) (.cons (.refl _) (.cons (.refl _) .nil))) rfl) (.k .nil)));rintro i hi K1 J1;refine gC (fun t33=>?_) (fun t33=>?_) (st2:=(10,0))
 ·have hin:=aT t33;obtain ⟨d,hd⟩:=aq hin;have hn1:=PO tw (mem_of_getElem? hd);refine gi (au hd) ?_;refine gc hn1 ?_;refine gs (bR (.tmp rfl) rfl (vC oz).symm (.tmp rfl) T35 rfl T67 rfl rfl (by simp only [length_cons,length_nil]; omega) rfl rfl) ?_;refine gD ?_ (9,0);refine gW (Wk.of (sl:=[(5,some (.ptr 5 0)),(6,some (.ptr 6 0)),(8,some (.lst 4 ((splitG l).map Gr.av))),(10,some (.ptr 10 0)),(30,some (.lst 1 (a.ts.map nA))),(31,some (i64 a.ts.length)),(32,some (i64 i))]) (hp:=[(5,some (.box a.cs)),(6,some (.box [nS,nS,nS])),(10,some (.box [.ms 42 1 0 (i + 1),nS,nS])),(42,some (.row 1 ((a.ts.take (i + 1)).map nA)))]) aQ (.k (.k (.k (.cons rfl (BlkSub.of (by rw [cS hd,map_append]; rfl)) .nil))))) ?_ (9,0)
  refine gW (Wk.rk (k:=42) (d:=900) rfl rfl) ?_;refine ga aE ?_;exact aD J1 (i+1) hin
 have hin:=a5 hi t33;subst hin;refine gW ((Wk.freeze (k:=900) rfl).trans<|Wk.of (sl:=[(5,some (.ptr 5 0)),(6,some (.ptr 6 0)),(8,some (.lst 4 ((splitG l).map Gr.av))),(10,some (.ptr 10 0))]) (hp:=[(5,some (.box a.cs)),(6,some (.box [nS,nS,nS])),(10,some (.box [.lst 1 (a.ts.map nA),nS,nS]))]) aQ (.k (.k (.cons rfl (BlkSub.bL (.cons (.of (by rw[bI (vC (le_refl _)).symm,take_length])) (.cons (.refl _) (.cons (.refl _) .nil))) rfl) .nil)))) ?_
 refine gl ?_;refine gW (Wk.virt 900 4 rfl) ?_;refine aJ [5,6,8,10,47,48] [5,6] (fun(i:Nat)=>[(49,some (i64 i))]) (fun i=>[(10,some (.box [.lst 1 (a.ts.map nA),.ms 900 4 0 i,nS])),(900,some (.row 4 (((a.bs.take i).map j8).map Pq.av)))]) (fun i=>i<=a.bs.length) (fun i=>a.bs.length-i) 0 (zero_le _) ?_ (h2:=(.cons rfl (BlkSub.bL (.cons (.refl _) (.cons (.nM _ _ _) (.cons (.refl _) .nil))) rfl) (.k .nil)));rintro i hi2 K2 J2;refine gC (fun t50=>?_) (fun t50=>?_) (st2:=(15,0))
 ·have hin:=aT t50;obtain ⟨b,hb⟩:=aq hin;have hbm:=mem_of_getElem? hb;have po:=F.bs b hbm;refine gi (au hb) ?_;refine gc (GR po.c oz) ?_;refine gc (FI po.s oz) ?_;refine gc (GR po.x oz) ?_;refine gc (FI po.y oz) ?_;refine gs (bR (.tmp rfl) rfl (mx oz).symm (.tmp rfl) T38 rfl T69 rfl rfl (by simp only [length_cons,length_nil]; omega) rfl rfl) ?_;refine gD ?_ (14,0);refine gW (Wk.of (sl:=[(5,some (.ptr 5 0)),(6,some (.ptr 6 0)),(8,some (.lst 4 ((splitG l).map Gr.av))),(10,some (.ptr 10 0)),(47,some (.lst 4 (a.bs.map Pq.av))),(48,some (i64 a.bs.length)),(49,some (i64 i))]) (hp:=[(5,some (.box a.cs)),(6,some (.box [nS,nS,nS])),(10,some (.box [.lst 1 (a.ts.map nA),.ms 69 4 0 (i + 1),nS])),(69,some (.row 4 (((a.bs.take (i + 1)).map j8).map Pq.av)))]) aQ (.k (.k (.k (.cons rfl (BlkSub.of (by rw [sa hb]; rfl)) .nil))))) ?_ (14,0)
  refine gW (Wk.rk (k:=69) (d:=900) rfl rfl) ?_;refine ga aE ?_;exact aD J2 (i+1) hin
 have hin:=a5 hi2 t50;subst hin;refine gW ((Wk.freeze (k:=900) rfl).trans<|Wk.of (sl:=[(5,some (.ptr 5 0)),(6,some (.ptr 6 0)),(8,some (.lst 4 ((splitG l).map Gr.av))),(10,some (.ptr 10 0))]) (hp:=[(5,some (.box a.cs)),(6,some (.box [nS,nS,nS])),(10,some (.box [.lst 1 (a.ts.map nA),.lst 4 ((a.bs.map j8).map Pq.av),nS]))]) aQ (.k (.k (.cons rfl (BlkSub.bL (.cons (.refl _) (.cons (.of (by rw[bI (mx (le_refl _)).symm,take_length])) (.cons (.refl _) .nil))) rfl) .nil)))) ?_
 refine gl ?_;refine gl ?_;refine gC (fun t77=>?_) (fun t77=>?_) (st1:=(16,0));exact absurd hml (vQ t77);refine gl ?_;refine gW (Wk.virt 900 1 rfl) ?_;refine aJ [6,8,10,80,81] [6] (fun(i:Nat)=>[(82,some (i64 i))]) (fun i=>[(10,some (.box [.lst 1 (a.ts.map nA),.lst 4 ((a.bs.map j8).map Pq.av),.ms 900 1 0 i])),(900,some (.row 1 (((List.range i).map (nf l a)).map i64)))]) (fun i=>i<=a.ms.length) (fun i=>a.ms.length-i) 0 (zero_le _) ?_ (h2:=(.cons rfl (BlkSub.bL (.cons (.refl _) (.cons (.refl _) (.cons (.nM _ _ _) .nil))) rfl) (.k .nil)));rintro i hi4 K3 J3;refine gC (fun t83=>?_) (fun t83=>?_) (st2:=(24,0))
 ·have hin:=aT t83;obtain⟨m,hm⟩:=aq hin;obtain⟨g,hgi⟩:=aq (l:=splitG l) (i:=i) oz;refine gi (au hm) ?_;refine gi (au hgi) ?_;refine gC (fun t92=>?_) (fun t92=>?_)
  ·have hk : nf l a i = CV m := by unfold nf; rw [aB hgi, aB hm, if_pos (cD t92)]
   refine gs (vU (.tmp rfl) rfl) ?_;refine gs (bR (.tmp rfl) rfl (by simp) (.tmp rfl) T39 rfl T3 rfl rfl (by simp only[length_cons,length_nil];omega) rfl rfl) ?_ (23,0);refine gW (Wk.of (sl:=[(6,some (.ptr 6 0)),(8,some (.lst 4 ((splitG l).map Gr.av))),(10,some (.ptr 10 0)),(80,some (.lst 1 (a.ms.map i64))),(81,some (i64 a.ms.length)),(82,some (i64 i))]) (hp:=[(6,some (.box [nS,nS,nS])),(10,some (.box [.lst 1 (a.ts.map nA),.lst 4 ((a.bs.map j8).map Pq.av),.ms 99 1 0 (i+1)])),(99,some (.row 1 (((List.range (i+1)).map (nf l a)).map i64)))]) aQ (.k (.k (.cons rfl (BlkSub.of (by first |(rw[range_succ,map_append,map_append,List.map_singleton,List.map_singleton,hk];done) |(rw[range_succ,map_append,map_append,List.map_singleton,List.map_singleton,hk];rfl))) .nil)))) ?_ (23,0)
   refine gW (Wk.rk (k:=99) (d:=900) rfl rfl) ?_;refine ga aE ?_;exact aD J3 (i+1) hin
  have hk:nf l a i=m:=by unfold nf;rw[aB hgi,aB hm,if_neg (dm t92)]
  refine gs (bR (.tmp rfl) rfl (by simp) (.tmp rfl) T39 rfl T3 rfl rfl (by simp only[length_cons,length_nil];omega) rfl rfl) ?_ (23,0);refine gW (Wk.of (sl:=[(6,some (.ptr 6 0)),(8,some (.lst 4 ((splitG l).map Gr.av))),(10,some (.ptr 10 0)),(80,some (.lst 1 (a.ms.map i64))),(81,some (i64 a.ms.length)),(82,some (i64 i))]) (hp:=[(6,some (.box [nS,nS,nS])),(10,some (.box [.lst 1 (a.ts.map nA),.lst 4 ((a.bs.map j8).map Pq.av),.ms 99 1 0 (i+1)])),(99,some (.row 1 (((List.range (i+1)).map (nf l a)).map i64)))]) aQ (.k (.k (.cons rfl (BlkSub.of (by first |(rw[range_succ,map_append,map_append,List.map_singleton,List.map_singleton,hk];done) |(rw[range_succ,map_append,map_append,List.map_singleton,List.map_singleton,hk];rfl))) .nil)))) ?_ (23,0)
  refine gW (Wk.rk (k:=99) (d:=900) rfl rfl) ?_;refine ga aE ?_;exact aD J3 (i+1) hin
 have hin:=a5 hi4 t83;subst hin;refine gW ((Wk.freeze (k:=900) rfl).trans<|Wk.of (sl:=[(6,some (.ptr 6 0)),(10,some (.ptr 10 0))]) (hp:=[(6,some (.box [nS,nS,nS])),(10,some (.box (oW l a).cs))]) aQ (.k (.cons rfl (BlkSub.bL (.cons (.refl _) (.cons (.refl _) (.cons (.of (by rw[bI (by simp)];rfl)) .nil))) rfl) .nil))) ?_;refine br ?_;rfl
theorem P7{l:Li}{a:Aq}(F:AqS l a):FP 35 [l.av,a.av] (bl true):=by
 have hln:=F.ln;obtain⟨r,hr,tw⟩:=F.tw;have hlm:=lJ F.two;have hbl:=(cA F.li).2.2.2.1;refine ah func35 ?_;refine gc (Wo tw) ?_;refine bP ?_;refine bP ?_;refine gC (fun t19=>?_) (fun t19=>?_) (st1:=(2,0));exact absurd (congrArg (Nat.cast (R:=Int)) hln) (by simpa[aa]using t19);refine gl ?_;refine aJ [2,3,4,21,22] [2,3] (fun(i:Nat)=>[(23,some (i64 i))]) (fun _=>[]) (fun i=>i<=a.bs.length) (fun i=>a.bs.length-i) 0 (zero_le _) ?_;rintro i hi K1 J1;refine gC (fun t24=>?_) (fun t24=>?_)
 ·have hin:=aT t24;obtain⟨b,hb⟩:=aq hin;have hbm:=mem_of_getElem? hb;refine gi (au hb) ?_;refine gc (VZ tw (F.bs b hbm) oz) ?_;refine gC (fun t39=>?_) (fun t39=>?_) (st1:=(7,0));cases t39;refine ga aE ?_;exact aD J1 (i+1) hin
 refine af ?_
 first |rfl |(simp;done)
theorem TD:aF∈(f6 ib false fb [dM] (splitG fb) (splitG fb).length (eD fb)).1:=by
 have h:(f6 ib false fb [dM] (splitG fb) (splitG fb).length (eD fb))=([aF],0):=Kb;rw[h];exact List.mem_singleton.2 rfl
theorem Sh:AqFin fb [dM] aF:=by
 obtain⟨h1,h2⟩:=zN xn (F:=ib) (sg:=false) _ _ CQ (DN fb _ (by decide)) _ TD;exact Jd xn h1 h2
theorem Rs:(List.range 2).all (fun m=>decide (ak (iK fb aF.ts aF.bs ((splitG fb).getD m default))=aF.ms.getD m 0))=true:=by decide +kernel
theorem QA:AqSg fb aF:=by
 refine⟨⟨xn.sp,by decide +kernel⟩,fun m g hm hg=>?_⟩;have h:=List.all_eq_true.1 Rs m (List.mem_range.2 hm);rw[aB hg]at h;exact of_decide_eq_true h
def Di:List Aq×Nat:=ma (Df [1,0]) true fb [dM]
theorem Fz:Di=([aF],0):=by decide +kernel
theorem fb_one:FP 109 [fb.av,.lst 4 [dM.av],.lst 1 [i64 1,i64 0]] (.tup [aF.av,bh 0]):=by
 have hop:=GG fb sU [dM] (fun x hx=>by rw[List.mem_singleton.1 hx];exact xB) (by show 1<=100;omega);have hp:([]:List Aq).length+2^(splitG fb).length<=1000:=by decide +kernel
 have hs2:(splitG fb).length=2:=by decide +kernel
 have hw:=fun(hm:([1,0]:List Int).length=(splitG fb).length)=>Br xn (Df [1,0]) true (fo:=223) (caps:=[.iptr [.lst 1 (([1,0]:List Int).map i64)]]) (fun k m hk=>Pv (modes:=[1,0]) (by show k<2;omega) (by decide) m) (splitG fb).length (eD fb) CQ [] hp
 have hA:=Uq (modes:=[1,0]) (by decide) Qq hop (by show 0<4;omega) (by show 4<=100;omega) oz (R:=Di) hw (by rw[Fz];decide);rw[Fz,hs2]at hA;exact hA
theorem vi(s:ByteArray)(n:Int):lr (gM s n)=gM s n:=by
 have h0:-((0:Int):Rat)=((0:Int):Rat):=by decide +kernel
 have h:∀(t:ByteArray)(q:Rat),oV ⟨t,rt q,rt ((0:Int):Rat)⟩=⟨t,rt q,rt ((0:Int):Rat)⟩:=fun t q=>by
  show(⟨t,rt (rt q).q,rt (-(rt ((0:Int):Rat)).q)⟩:Mk)=_;rw[bM,bM,h0]
 show(⟨s,[oV ⟨⟨#[97]⟩,rt ((0:Int):Rat),rt ((0:Int):Rat)⟩,oV ⟨⟨#[98]⟩,rt (n:Rat),rt ((0:Int):Rat)⟩]⟩:Bd)=gM s n;rw[h,h];rfl
theorem We:wI fb=fb:=by
 rw[I1 xr];show(⟨fb.name,[lr (gM ⟨#[102,114,97,109,101]⟩ 4),lr (gM ⟨#[99,114,97,110,107]⟩ 3),lr (gM ⟨#[99,111,117,112,108,101,114]⟩ 5),lr (gM ⟨#[114,111,99,107,101,114]⟩ 6)],fb.jo,fb.dv⟩:Li)=fb;rw[vi,vi,vi,vi];rfl
theorem G7:FP 39 [] (bl true):=by
 have hO:=PX sU Sh QA (by decide);have hM:=KZ fb sU;rw[xr,We]at hM;refine ah func39 ?_;refine gc Mz ?_;refine gc (Con.sA (.cons (.refl _) (.cons Fx (.cons (.refl _) .nil))) fb_one) ?_;refine gc (Con.sA (.cons (.refl _) (.cons Fx (.cons (.refl _) .nil))) hO) ?_;refine gc hM ?_;refine bF (fun _=>(SV [1,0] (by decide))) ?_;refine bF (fun _=>(Ox fb sU)) ?_;refine af ?_;rfl
theorem R6(l:Li)(hw:l.okw)(xs:List Tn)(hxw:∀x∈xs,x.t.wok)(hxl:xs.length<=281474976710656):FP 8 [l.av,.lst 4 (xs.map Tn.av)] (bl true):=by
 refine ah func8 ?_;refine gc G7 ?_;refine bF (fun _=>(U7 l hw xs hxl)) ?_;refine bF (fun h=>(D4 l (wM (xE (Oz h) hxw).1 hw))) ?_;refine gC (fun t24=>?_) (fun t24=>?_)
 ·refine gc G7 ?_;refine af ?_
  first |rfl |(simp;done)
 obtain⟨h1,hli⟩:=Tv t24;obtain⟨g1,hx20,hxo⟩:=xE h1 hxw;have hl:=wM g1 hw;obtain⟨A,e,P⟩:=MJ hl h1 hxw;have FF:=Kg hl h1 hxw P.eq;have MM:=Vj hl h1 hxw P.eq;have hAl:=P.ln;refine gc P.all ?_;refine gC (fun t33=>?_) (fun t33=>?_)
 ·have he:e≠0:=cT t33;have hA:=Ra P.eq he;subst hA;refine gl ?_;refine af ?_;rfl
 refine gl ?_;refine aJ [1,2,37,38] [2] (fun(i:Nat)=>[(39,some (i64 i))]) (fun _=>[]) (fun i=>i<=A.length) (fun i=>A.length-i) 0 (zero_le _) ?_;rintro i hi K1 J1;refine gC (fun t40=>?_) (fun t40=>?_)
 ·have hin:=aT t40;obtain ⟨a,ha⟩:=aq hin;have ham:=mem_of_getElem? ha;have F:=FF a ham;have M:=MM a ham;have S:=LS F.s;obtain ⟨r,hr,tw⟩:=F.tw;have hlm:=lJ F.two;have hbp:=(cA F.li).2.2.2;have hln:=F.ln;have hbl:(oW l a).bs.length = a.bs.length:=length_map _;obtain ⟨p0,hp0⟩:=aq (l:=a.bs) (i:=0) oz;have ep0:p0 = iu:=by have:=F.fr; rwa [aB hp0] at this
  subst ep0;have hpF:=F.bs iu (mem_of_getElem? hp0)
  have hm0:(oW l a).bs[0]?=some iu:=by
   show(a.bs.map j8)[0]?=_;rw[getElem?_map,hp0];rfl
  refine gi (au ha) ?_;refine gc (VD hl F M oz) ?_;refine bP ?_;refine bP ?_;refine bF (fun _=>(P7 S)) ?_;refine mH (fun _=>(au hm0)) ?_;refine bF (fun _=>Vu) ?_;refine bF (fun _=>(Qc tw F.two (hpF.up (le_refl _) tw.five oz))) ?_;refine gD ?_;refine gC (fun t77=>?_) (fun t77=>?_) (st1:=(11,0));exact absurd t77 (by simp[aa,oW];rfl);refine gl ?_;refine aJ [1,2,37,38,39,8,9] [2,8,9] (fun(k:Nat)=>[(80,some (i64 a.bs.length)),(81,some (i64 k))]) (fun _=>[]) (fun k=>k<=a.bs.length) (fun k=>a.bs.length-k) 0 (zero_le _) ?_ (h1:=(.cons rfl (Sub.int (congrArg Int.ofNat (length_map _))) (.k .nil)));rintro k hk K2 J2;refine gC (fun t82=>?_) (fun t82=>?_)
  ·have hkn:=aT t82;obtain⟨p,hp⟩:=aq hkn;have po:=F.bs p (mem_of_getElem? hp)
   have hpm:(oW l a).bs[k]?=some (j8 p):=by
    show(a.bs.map j8)[k]?=_;rw[getElem?_map,hp];rfl
   have hE:=uc tw po.c po.c oz;rw[lO]at hE;refine gi (au hp) ?_;refine gi (au hpm) ?_;refine gc hE ?_;refine gD ?_;refine gC (fun t99=>?_) (fun t99=>?_) (st1:=(16,0));cases t99;refine ga aE ?_;exact aD J2 (k+1) hkn
  refine ga aE ?_;exact aD J1 (i+1) hin
 refine af ?_;rfl
open Go.Proofs Go.Proofs.YtpdiojikejnehaaGreat
open Go.ChangeShapes Go.WideShapes Go.ChangeAt Go.RowKit
set_option maxRecDepth 100000 in
theorem OI(os:Os)(started:os.Started)(H:Type)(enc:TypeId×Value->H) :
  ReturnsInHanded {} Tryz.checked os 8 .any (Rows.modesFrameSpec.pre6 enc prog Tryz.f8 Rows.modesFrameRow.domain false) (Rows.modesFrameSpec.post enc prog Tryz.f8 false true false false):=by
 refine returnsInHanded_of_change_sized (C := Tryz.checked) own started (by kernel_rfl) func8
  (ChangeSpec.witness6 (enc:=enc) (C:=Tryz.checked) false ⟨#[],#[.agg #[.string ⟨#[]⟩,.slice none 0 0,.slice none 0 0,.slice none 0 0],.slice none 0 0],[]⟩ 8 (by kernel_rfl) (by kernel_rfl) (by kernel_rfl) (by kernel_rfl)) ?_
 intro W base args ds gs before hval0 hW hcnd hwt0 _;have hval:∀(j:Nat) t v,Tryz.f8.params[j]?=some t->args[j]?=some v->Value.okWide prog W .any base t v:=hval0;have hwt:(DataW.weightsEach prog (Tryz.f8.params.toList++Rows.modesFrameSpec.plain.varTypes prog) (ds++gs)).all (· <= reachBytes)=true:=hwt0;have hW':=hW;obtain⟨p,q,hA0,hV,rfl,hfz,hnd⟩:=hW;have hA:DataW.TrodAll enc prog W 0 (fun _=>true) true Tryz.f8.params.toList args.toList ds p:=hA0;rw[Tryz.params8]at hA hval hwt;obtain⟨v0,v1,d0,d1,p0,p1,rfl,rfl,rfl,h0,h1⟩:=trodAll_two hA;obtain⟨rfl,rfl⟩:=trodVars_none hV;clear hA0 hval0 hwt0;have hlt:∀x∈p0++p1,x.block<W.heap.size:=fun x hx=>hW'.lt x (by simpa using hx)
 have hw0:∀n∈d0.weights prog 26,n<=reachBytes:=fun n hn=>by
  have:=List.all_eq_true.1 hwt n (DataW.weights_mem_each (j:=0) rfl rfl n hn);simpa using this
 have hw1:∀n∈d1.weights prog 88,n<=reachBytes:=fun n hn=>by
  have:=List.all_eq_true.1 hwt n (DataW.weights_mem_each (j:=1) rfl rfl n hn);simpa using this
 obtain⟨x0,q0,r0⟩:=Mj Tryz.underlying26 Sy (hval 0 26 v0 rfl rfl) h0 hw0;obtain⟨x1,q1,r1⟩:=VY JI (fun _=>rfl) (U2 Tryz.underlying88 (hval 1 88 v1 rfl rfl)) h1 hw1
 have hc:=gP.calls (W:=W) (vs:=#[v0,v1]) (R6 x0 q0 x1 q1.1 q1.2) rfl (fun j v x hv hx=>by
  match j,hv,hx with
  |0,hv,hx=>cases hv;cases hx;exact r0
  |1,hv,hx=>cases hv;cases hx;exact r1)
 refine hc.mono fun e W' ⟨he,hb⟩=>?_
 subst he;refine⟨_,rfl,JK hW' rfl rfl (fun _ _ _=>trodAll_mk1 (shut_bool Tryz.underlying4 _)) (fun sp hsp=>?_) rfl hb (ok_one (by kernel_rfl) rfl (okWide_bool_mk Tryz.underlying4 _))⟩;rw[Tryz.params8];have hs:∀x∈p0++p1,sp x.block=true:=fun x hx=>hsp x (by simpa using hx)
 have g0:=Ck (sp':=sp) (by kernel_rfl) (of_decide_eq_true (by kernel_rfl)) h0 hb (fun x hx=>hlt x (by simp[hx])) (fun x hx=>hs x (by simp[hx]));have g1:=Ck (sp':=sp) (by kernel_rfl) (of_decide_eq_true (by kernel_rfl)) h1 hb (fun x hx=>hlt x (by simp[hx])) (fun x hx=>hs x (by simp[hx]));have g:=trodAll_mk2 g0 g1;rw[show p0++p1++[]=p0++p1 from by simp];exact g
set_option maxRecDepth 100000 in
theorem JQ:prog.closure 8=[8,39,54,131,243,88,188,295,362,189,187,221,312,368,313,292,293,360,386,375,388,335,387,334,294,361,389,336,109,99,143,250,104,204,300,363,364,390,205,208,303,305,325,367,366,373,391,392,351,393,394,397,395,396,323,258,257,304,306,324,206,301,302,365,232,321,372,207,339,376,398,405,400,408,409,407,377,399,406,402,401,378,251,340,105,209,198,223,101,151,233,234,322,370,371,165,231,320,237,318,278,328,100,199,297,298,200,18,63,144,252,230,319,238,329,286,330,331,239,240,121,145,253,341,146,255,352,254,342,348,384,343,379,344,380,381,345,382,383,403,346,347,349,350,147,229,64,148,256,262,353,385,404,149,150,170,91,89,190,153,191,280,127,357,283,176,285,356,172,192,171,152,169,261,80,174,284,177,71,163,281,358,77,175,75,78,154,65,70,166,156,155,259,354,260,73,157,167,272,273,274,116,168,282,173,275,270,266,276,267,263,264,265,355,268,269,271,161,277,279,158,164,66,74,90,159,67,81,178,76,82,79,160,162,201,299,41,115,37,106,211,212,307,308,128,213,210,215,216,309,310,311,332,214,218,219,217,27,69,46,118,119,120,42,110,224,314,369,32,56,40,111,225,316,315,317,112,226,236,326,327,374,247,113,227,228,38,108,222,220,139,248,337,107,114,16,58,135,59,136,245,137,246,333,138,98,197,33,44,117,35,28,92,193,290,183,195,296,291,194,196,140,184,185,93,182,45,60,21,24,86]:=by kernel_rfl
theorem QG:joinedFacts prog 8 Tryz.f8 Rows.modesFrameSpec Rows.modesFrameRow=true:=by
 unfold joinedFacts Program.recurses Program.inPlace Program.unfollowed Program.varsNamed;rw[JQ,GN,JL,M4,Te,PN,LH]
 kernel_rfl
theorem modesFrame_holds:Rows.ModesFrameSaid :=
 OpenClaim.holds_of_wide 8 Tryz.f8 rfl rfl rfl rfl rfl rfl rfl ⟨rfl, rfl, rfl, rfl, rfl⟩ rfl rfl rfl rfl rfl (by kernel_rfl) func8 QG
  (of_decide_eq_true (by kernel_rfl)) (by unfold Func.isWrapper;first |(rw[if_pos (by decide +kernel)];kernel_rfl) |(rw[if_neg (by decide +kernel)];exact⟨rfl,rfl⟩))
  (fun os started H enc _=>OI os started H enc)
end Go.Lw
namespace Go.Proofs.YtpdiojikejnehaaGreat
theorem modesFrame_proved:Rows.ModesFrameSaid:=Go.Lw.modesFrame_holds
end Go.Proofs.YtpdiojikejnehaaGreat
