/- WholeCam: for any cam, shift and position whose reading holds at most 1048576 values the law returns true and leaves its arguments as they were. No other condition. Part 6 of 7: what the later parts need -/
import Derived.Test.YtikogaemdeibaaaGreatXe
set_option linter.unusedVariables false
open List (all_cons map_map map_id)
open List renaming mem_of_getElem? → ZR, mem_cons_of_mem → Z8, mem_append → ZY, mem_cons → aai, length_cons → Z7, mem_cons_self → aaa, length_append → aah, length_nil → aan, getD_eq_getElem?_getD → ZS, getElem?_append_left → aae, getElem?_eq_none → Z5, all_eq_true → Z6, getElem?_map → ZZ, append_assoc → aay, getElem?_append_right → aac, mem_singleton → Z3, getElem?_eq_getElem → ZV, map_append → aas, length_take → aao, take_of_length_le → aag, length_map → ZU, drop_zero → aax, take_length → aab, map_set → aaw, not_mem_nil → aap, length_set → aa0, drop_eq_getElem_cons → Yd, mem_or_eq_of_mem_set → Yi, length_eq_zero_iff → Yo, all_append → Yp, mem_map → Yr, any_eq_true → Ys, length_tail → Yu, getElem_of_mem → Yv, foldl_append → Yw, getElem_mem → Yy, getElem?_eq_some_iff → YA, map_congr_left → YD, getLast?_eq_getElem? → YF, eq_nil_of_length_eq_zero → YG, mem_flatMap → YH, mem_of_mem_drop → YI, length_pos_iff → YL, mem_append_left → YP, foldl_cons → YQ
open Nat renaming eq_of_beq_eq_true → ZT, le_refl → Z0, lt_of_lt_of_le → Z9, lt_or_ge → Z2, le_trans → aaj, mul_le_mul_right → aad, zero_le → aaf, lt_of_le_of_lt → aam, pow_le_pow_right → Xt, eq_zero_or_pos → XC, zero_add → XF, beq → XK, ble_eq → XS, blt → XU, pow_succ → X0
open Bool renaming and_eq_true → ZW, or_eq_true → aav, not_not → Zt, not_eq_true' → Zw
open Array renaming length_toList → ZI, getElem?_toList → ZM
open Rat renaming intCast_one → Zb, intCast_add → Zc, divInt → Zd, le_refl → Zf, num_divInt_den → Zg
open Decidable renaming not_not → ZQ
open Go renaming Operand → abb, TypeId → abd, Program → abe
open Go.Result renaming andThen_ok → abg
open Go.Sem renaming run_bind → abh, run_pure → abi
open Go.Proofs.Tryz
namespace Go.Lw
def cq(bs:List Rat)(i:Nat):Rat:=bs.getD (i+1) 1
def pcd(bs:List Rat)(x:Rat):Nat->Nat
  |0=>0
  |i+1=>if bs.getD (i+1) 0<=x then i+1 else pcd bs x i
def pcx(bs:List Rat)(x:Rat):Nat:=pcd bs x (bs.length-1)
structure Lc(bs:List Rat):Prop where
  pos:0<bs.length
  hd:bs.getD 0 0=0
  asc:∀i,i+1<bs.length->bs.getD i 0<bs.getD (i+1) 0
  lt:∀i,i<bs.length->bs.getD i 0<1
section
variable{bs:List Rat}(L:Lc bs)
include L
theorem Lc.mono{i:Nat}:∀{j:Nat},i<=j->j<bs.length->bs.getD i 0<=bs.getD j 0
 |0,h,_=>by rw[Nat.le_zero.1 h];exact Zf
 |j+1,h,hj=>by
  by_cases e:i=j+1
  ·rw[e];exact Zf
  ·exact Rat.le_trans (Lc.mono (j:=j) oz oz) (Rat.le_of_lt (L.asc j hj))
theorem Lc.smono{i j:Nat}(h:i<j)(hj:j<bs.length):bs.getD i 0<bs.getD j 0:=by
 have h1:=L.asc i oz;have h2:=L.mono (i:=i+1) (j:=j) oz hj;grind
theorem Lc.nn{i:Nat}(h:i<bs.length):0<=bs.getD i 0:=by
 have h1:=L.mono (aaf i) h;rw[L.hd]at h1;exact h1
theorem jY{i:Nat}(h:i+1<bs.length):cq bs i=bs.getD (i+1) 0:=by
 have _:=L;unfold cq;rw[ZS,ZS,ZV h];rfl
theorem oY{i:Nat}(h:bs.length<=i+1):cq bs i=1:=by
 have _:=L;unfold cq;rw[ZS,Z5 h];rfl
theorem Lc.end_gt{i:Nat}(h:i<bs.length):bs.getD i 0<cq bs i/\cq bs i<=1:=by
 by_cases h1:i+1<bs.length
 ·rw[jY L h1];exact⟨L.asc i h1,Rat.le_of_lt (L.lt _ h1)⟩
 ·rw[oY L oz];exact⟨L.lt i h,Zf⟩
theorem Lc.pcd{x:Rat}(hx:0<=x):∀i,i<bs.length->Lw.pcd bs x i<=i/\bs.getD (Lw.pcd bs x i) 0<=x/\∀j,Lw.pcd bs x i<j->j<=i->x<bs.getD j 0
 |0,_=>by
  unfold Lw.pcd;exact⟨Z0 _,by rw[L.hd];exact hx,fun j h1 h2=>by omega⟩
 |i+1,h=>by
  unfold Lw.pcd;split
  ·rename_i aU;exact⟨Z0 _,aU,fun j h1 h2=>by omega⟩
  ·rename_i aU;obtain ⟨k1,k2,k3⟩:=Lc.pcd hx i oz;refine ⟨by omega,k2,fun j h1 h2=>?_⟩
   by_cases e:j=i+1
   ·rw[e];exact Rat.not_le.1 aU
   ·exact k3 j h1 oz
theorem Lc.pcx_lt{x:Rat}(hx:0<=x):pcx bs x<bs.length:=by
 have:=L.pos;have:=(L.pcd hx (bs.length-1) oz).1;unfold pcx;omega
theorem Lc.pcx{x:Rat}(hx:0<=x)(h1:x<1):bs.getD (Lw.pcx bs x) 0<=x/\x<cq bs (Lw.pcx bs x):=by
 have hp:=L.pos;obtain⟨k1,k2,k3⟩:=L.pcd hx (bs.length-1) oz;refine⟨k2,?_⟩
 by_cases h:Lw.pcx bs x+1<bs.length
 ·rw[jY L h];exact k3 _ (by unfold Lw.pcx;omega) (by unfold Lw.pcx at h ⊢;omega)
 ·rw[oY L oz];exact h1
theorem Lc.pcx_uniq{x:Rat}(hx:0<=x){k:Nat}(hk:k<bs.length)(h1:bs.getD k 0<=x)(h2:x<cq bs k):Lw.pcx bs x=k:=by
 have iU:x<1:=by have:=(L.end_gt hk).2;grind
 have hl:=L.pcx_lt hx;obtain⟨j1,j2⟩:=L.pcx hx iU;rcases Nat.lt_trichotomy (Lw.pcx bs x) k with h |h |h
 ·rw[jY L oz]at j2;have:=L.mono (i:=Lw.pcx bs x+1) (j:=k) oz hk;grind
 ·exact h
 ·rw[jY L oz]at h2;have:=L.mono (i:=k+1) (j:=Lw.pcx bs x) oz hl;grind
end
def oG(p q:List Rat):Bool:=decide (p.length=q.length)&&(decide (p.length=0)||decide (p.getD 0 0=q.getD 0 0))
def iz(bs:List Rat)(ps:LL)(s:List Ac×Bool)(i:Nat):List Ac×Bool :=
  if 1<(ps.getD i []).length then(s.1,false)else
  if s.2&&oG (ps.getD (i-1) []) (ps.getD i [])then(s.1.set (s.1.length-1) ((s.1.getD (s.1.length-1) (0,0)).1,cq bs i),true)
  else(s.1++[(bs.getD i 0,cq bs i)],true)
def dx(bs:List Rat)(ps:LL):Nat->List Ac×Bool
  |0=>([],false)
  |n+1=>iz bs ps (dx bs ps n) n
def eh(bs:List Rat)(ps:LL):List Ac:=(dx bs ps ps.length).1
theorem x5(bs:List Rat)(ps:LL):∀n,(dx bs ps n).1.length<=n
 |0=>Z0 _
 |n+1=>by
  have ih:=x5 bs ps n;show(iz bs ps (dx bs ps n) n).1.length<=n+1;unfold iz;split
  ·show(dx bs ps n).1.length<=n+1;omega
  ·split
   ·show((dx bs ps n).1.set _ _).length<=n+1;rw[aa0];omega
   ·show((dx bs ps n).1++_).length<=n+1;rw[aah];simp only[Z7,aan];omega
def sT(bs:List Rat)(ps:LL)(n:Nat)(x:Rat):Prop:=∃j,j<n/\(ps.getD j []).length<=1/\bs.getD j 0<=x/\x<cq bs j
theorem xB{bs:List Rat}{ps:LL}{n:Nat}{x:Rat}:sT bs ps (n+1) x↔sT bs ps n x\/((ps.getD n []).length<=1/\bs.getD n 0<=x/\x<cq bs n):=by
 constructor
 ·rintro⟨j,h1,h2⟩
  by_cases e:j=n
  ·subst e;exact .inr h2
  ·exact .inl ⟨j,by omega,h2⟩
 ·rintro(⟨j,h1,h2⟩ |h2)
  ·exact⟨j,by omega,h2⟩
  ·exact⟨n,by omega,h2⟩
theorem xG{c:Ac}{x:Rat}:bC [c] x↔c.1<=x/\x<c.2:=by
 rw[ew];exact⟨fun k=>k.resolve_right (jP _),.inl⟩
theorem qt{bs:List Rat}(L:Lc bs)(ps:LL):∀n,n<=bs.length ->
  (∀a∈(dx bs ps n).1,fo a)/\((dx bs ps n).2=true->∃l b,(dx bs ps n).1=l++[b]/\b.2=cq bs (n-1)/\0<n)/\∀x,bC (dx bs ps n).1 x↔sT bs ps n x
 |0,_=>⟨fun a h=>(by cases h),fun h=>(by cases h),fun x=>⟨fun h=>aa8 h (jP _),fun⟨j,h,_⟩=>by omega⟩⟩
 |n+1,hn=>by
  obtain⟨h1,h2,h3⟩:=qt L ps n oz;have he:=L.end_gt (show n<bs.length by omega);have h0:=L.nn (show n<bs.length by omega);show(∀a∈(iz bs ps (dx bs ps n) n).1,fo a)/\((iz bs ps (dx bs ps n) n).2=true->∃l b,(iz bs ps (dx bs ps n) n).1=l++[b]/\b.2=cq bs n/\0<n+1)/\∀x,bC (iz bs ps (dx bs ps n) n).1 x↔sT bs ps (n+1) x;unfold iz;split
  ·rename_i Wx;refine⟨h1,fun h=>(by cases h),fun x=>?_⟩;rw[xB];show bC (dx bs ps n).1 x↔_;rw[h3];exact⟨.inl,fun k=>k.resolve_right fun k=>by omega⟩
  ·rename_i Wx;have hc:(ps.getD n []).length <= 1:=by omega
   split
   ·rename_i hm;rw [ZW] at hm;obtain ⟨l,b,e1,e2,e3⟩:=h2 hm.1;have hb:=h1 b (by rw [e1]; simp)
    have e4:b.2=bs.getD n 0:=by
     rw[e2,jY L oz,show n-1+1=n by omega]
    have e5:(l++[b]).getD ((l++[b]).length-1) (0,0)=b:=by
     rw[ZS,<- YF];simp
    rw[e1,e5,Hx];refine⟨?_,fun _=>⟨l,_,rfl,rfl,by omega⟩,fun x=>?_⟩
    ·intro a ha;rcases ZY.1 ha with ha |ha
     ·exact h1 a (by rw[e1];exact YP _ ha)
     ·rw[Z3]at ha;subst ha;exact⟨hb.1,by have:=hb.2.1;dsimp only;grind,he.2⟩
    ·rw[xB,<- h3,e1,oJ,oJ,xG,xG];dsimp only;have:=hb.2.1;constructor
     ·rintro(k |k)
      ·exact .inl (.inl k)
      ·by_cases k4:x<b.2
       ·exact .inl (.inr ⟨k.1,k4⟩)
       ·exact .inr ⟨hc,by grind,k.2⟩
     ·rintro((k |k) |k)
      ·exact .inl k
      ·exact .inr ⟨k.1,by grind⟩
      ·exact .inr ⟨by grind,k.2.2⟩
   ·refine ⟨?_, fun _ => ⟨_, _, rfl, rfl, by omega⟩, fun x => ?_⟩
    ·intro a ha;rcases ZY.1 ha with ha |ha
     ·exact h1 a ha
     ·rw[Z3]at ha;subst ha;exact⟨h0,he.1,he.2⟩
    ·rw[xB,<- h3];show bC ((dx bs ps n).1++[_]) x↔_;rw[oJ,xG];exact⟨fun k=>k.imp id fun k=>⟨hc,k⟩,fun k=>k.imp id fun k=>k.2⟩
theorem yi{bs:List Rat}(L:Lc bs){ps:LL}(hl:ps.length=bs.length):∀a∈eh bs ps,fo a:=(qt L ps ps.length oz).1
theorem xa{bs:List Rat}(L:Lc bs){ps:LL}(hl:ps.length=bs.length)(x:Rat):bC (eh bs ps) x↔0<=x/\x<1/\(ps.getD (pcx bs x) []).length<=1:=by
 unfold eh;rw[(qt L ps ps.length oz).2.2,hl];constructor
 ·rintro ⟨j, h1, h2, h3, h4⟩;have h0:=L.nn h1;have he:=L.end_gt h1;have hx:0 <= x:=by grind
  exact⟨hx,by grind,by rw[L.pcx_uniq hx h1 h3 h4];exact h2⟩
 ·rintro⟨h1,h2,h3⟩;exact⟨pcx bs x,L.pcx_lt h1,h3,L.pcx h1 h2⟩
def eU(b:Rat)(acc:List Rat)(x:Rat):List Rat:=if acc.any (fun y=>decide (fr (x+b)=y))then acc else acc++[fr (x+b)]
def oq(b:Rat)(bs:List Rat):List Rat:=bs.foldl (eU b) [0]
def br(b:Rat)(bs:List Rat):List Rat:=ce (fun x=>x) (oq b bs)
theorem Ky{b x y:Rat}{acc:List Rat}:y∈eU b acc x↔y∈acc\/y=fr (x+b):=by
 unfold eU;split
 ·rename_i h;obtain⟨z,hz,he⟩:=Ys.1 h;have he:=aa4 he;exact⟨.inl,fun k=>k.elim id fun k=>by rw[k,he];exact hz⟩
 ·rw[ZY,Z3]
theorem Nf{b x:Rat}{acc:List Rat}(h:acc.Nodup):(eU b acc x).Nodup:=by
 unfold eU;split
 ·exact h
 ·rename_i hn;refine List.nodup_append.2 ⟨h,by simp,fun a ha c hc e=>?_⟩;rw[Z3]at hc;subst hc;exact hn (Ys.2 ⟨a,ha,aa6 e.symm⟩)
theorem RA{b x:Rat}{acc:List Rat}:(eU b acc x).length<=acc.length+1:=by
 unfold eU;split
 ·omega
 ·simp
theorem tG(b:Rat):∀(bs acc:List Rat),acc.Nodup->(bs.foldl (eU b) acc).Nodup/\(bs.foldl (eU b) acc).length<=acc.length+bs.length/\∀y,y∈bs.foldl (eU b) acc↔y∈acc\/∃x∈bs,y=fr (x+b)
 |[],acc,h=>⟨h,Z0 _,fun y=>⟨.inl,fun k=>k.resolve_right fun⟨_,k,_⟩=>by cases k⟩⟩
 |x::bs,acc,h=>by
  obtain⟨h1,h2,h3⟩:=tG b bs (eU b acc x) (Nf h);have hl:=RA (b:=b) (x:=x) (acc:=acc);refine⟨h1,by rw[YQ,Z7];omega,fun y=>?_⟩;rw[YQ,h3,Ky];constructor
  ·rintro((k |k) |⟨z,hz,k⟩)
   ·exact .inl k
   ·exact .inr ⟨x,aaa ..,k⟩
   ·exact .inr ⟨z,Z8 _ hz,k⟩
  ·rintro(k |⟨z,hz,k⟩)
   ·exact .inl (.inl k)
   ·rcases aai.1 hz with rfl |hz
    ·exact .inl (.inr k)
    ·exact .inr ⟨z,hz,k⟩
theorem uw{b:Rat}{bs:List Rat}{y:Rat}:y∈br b bs↔y=0\/∃x∈bs,y=fr (x+b):=by
 unfold br;rw[(je _ _).mem_iff];have h:=(tG b bs [0] (by simp)).2.2 y
 rwa [Z3]at h
theorem AY{b:Rat}{bs:List Rat}:(br b bs).length<=bs.length+1:=by
 unfold br;rw[(je _ _).length_eq];have h:=(tG b bs [0] (by simp)).2.1;rw[Nat.add_comm]at h;exact h
theorem N0{b:Rat}{bs:List Rat}:(br b bs).Pairwise fun x y=>x<y:=by
 have h1:=CY (fun x=>x) (oq b bs);have h2:(br b bs).Nodup:=(je (fun x=>x) (oq b bs)).nodup_iff.2 (tG b bs [0] (by simp)).1;refine(List.pairwise_and_iff.2 ⟨h1,h2⟩).imp fun {x y} h=>?_
 have h3:x<=y:=h.1;have h4:x≠y:=h.2;grind
theorem l0{l:List Rat}{i:Nat}(h:i<l.length):l.getD i 0∈l:=ZR (dD h)
theorem xp(b:Rat)(bs:List Rat):Lc (br b bs):=by
 have hp:=List.pairwise_iff_getElem.1 (N0 (b:=b) (bs:=bs));have h0:(0:Rat)∈br b bs:=uw.2 (.inl rfl)
 have hr:∀y∈br b bs,0<=y/\y<1:=fun y hy=>by
  rcases uw.1 hy with rfl |⟨x,_,rfl⟩
  ·exact⟨Zf,by decide⟩
  ·exact⟨fy _,ml _⟩
 have fZ:0<(br b bs).length:=List.length_pos_of_mem h0;have hg:∀i,(h:i<(br b bs).length)->(br b bs).getD i 0=(br b bs)[i]:=fun i h=>by rw[ZS,ZV h];rfl
 refine⟨fZ,?_,fun i hi=>?_,fun i hi=>(hr _ (l0 hi)).2⟩
 ·obtain⟨j,hj,e⟩:=Yv h0;have h1:=(hr _ (l0 fZ)).1
  by_cases fH:j=0
  ·subst fH;rw[hg 0 fZ,e]
  ·have h2:=hp 0 j fZ hj oz;rw[e,<- hg 0 fZ]at h2;grind
 ·rw[hg i oz,hg (i+1) hi];exact hp i (i+1) oz hi oz
def dh(q:List Rat):List Rat->List Rat
  |[]=>[]
  |c::p=>kV (ij (dh q p) q) (ptr [c]) 1
theorem wZ(q:List Rat)(t:Rat):∀p:List Rat,au (dh q p) t=au p (au q t)
 |[]=>rfl
 |c::p=>by
  show au (kV (ij (dh q p) q) (ptr [c]) 1) t=c+au q t*au p (au q t);rw[RJ,Fm,lS,wZ q t p];show _+1*(c+t*0)=_;grind
theorem HL(q:List Rat):∀p:List Rat,cS (dh q p)
 |[]=>rfl
 |c::p=>o7 _
theorem m6{q:List Rat}(hq:q.length<=2):∀p:List Rat,(dh q p).length<=p.length
 |[]=>Z0 _
 |c::p=>by
  have ih:=m6 hq p;have h1:=FC (dh q p) q;have h2:=KH (ij (dh q p) q) (ptr [c]) 1;have h3:=m5 [c];show(kV (ij (dh q p) q) (ptr [c]) 1).length<=(c::p).length;simp only[Z7,aan]at h3 ⊢;omega
theorem FT(c:Rat):cS [c,1]:=ol (ol rfl (fun _=>by decide)) (fun h=>by cases h)
theorem DS(c t:Rat):au [c,1] t=c+t:=by
 show c+t*(1+t*0)=c+t;grind
theorem Up{p:List Rat}(hp:cS p)(c:Rat):(dh [c,1] p).length=p.length:=by
 refine Nat.le_antisymm (m6 (Z0 _) p) ?_
 have e:dh [-c,1] (dh [c,1] p)=p:=wg (HL _ _) hp fun t=>by
  rw[wZ,wZ,DS,DS];congr 1;grind
 have h:=m6 (q:=[-c,1]) (Z0 _) (dh [c,1] p)
 rwa [e]at h
def ot(b:Rat)(bs:List Rat)(ps:LL)(u:Rat):List Rat:=dh [fr (u-b)-bs.getD (pcx bs (fr (u-b))) 0,1] (ps.getD (pcx bs (fr (u-b))) [])
def dS(b:Rat)(bs:List Rat)(ps:LL):LL:=(br b bs).map (ot b bs ps)
theorem OF{β:Type}(f:Rat->List β)(l:List Rat){i:Nat}(h:i<l.length):(l.map f).getD i []=f (l.getD i 0):=by
 rw[ZS,ZS,ZZ,ZV h];rfl
theorem Sy{bs:List Rat}(L:Lc bs)(b:Rat){x:Rat}(h0:0<=x)(h1:x<1) :
  pcx bs (fr ((br b bs).getD (pcx (br b bs) x) 0-b))=pcx bs (fr (x-b)):=by
 have M:=xp b bs;have hj:=M.pcx_lt h0;obtain⟨u1,u2⟩:=M.pcx h0 h1;generalize hJ:pcx (br b bs) x=j at *;generalize hU:(br b bs).getD j 0=u at *;have y0:=fy (u-b);have y1:=ml (u-b);have e1:=ut (u-b);generalize fr (u-b)=y at *;generalize(u-b).floor=n at *;have hk:=L.pcx_lt y0;obtain⟨k1,k2⟩:=L.pcx y0 y1;generalize pcx bs y=k at *;have ki:=(L.end_gt hk).2
 have hlt:y+(x-u)<cq bs k:=by
  refine Rat.not_le.1 fun aU=>?_
  have hq:∃c∈bs,∃m:Int,c+b=u+(cq bs k-y)+(m:Rat):=by
   by_cases mC:k+1<bs.length
   ·refine⟨bs.getD (k+1) 0,l0 mC,-n,?_⟩;rw[jY L mC,Rat.intCast_neg];grind
   ·refine⟨bs.getD 0 0,l0 L.pos,-(n+1),?_⟩;rw[oY L oz,L.hd,Rat.intCast_neg,Zc,Zb];grind
  obtain⟨c,hc,m,hm⟩:=hq;have Wy:=M.nn hj;rw[hU]at Wy;have hfr:fr (c+b)=u+(cq bs k-y):=CN (by grind) (by grind) m hm;have ab:u+(cq bs k-y)∈br b bs:=uw.2 (.inr ⟨c,hc,hfr.symm⟩);obtain⟨i,hi,e⟩:=Yv ab;have e':(br b bs).getD i 0=u+(cq bs k-y):=by rw[ZS,ZV hi,e];rfl
  rcases Z2 j i with h |h
  ·rw[jY M oz]at u2;have:=M.mono (i:=j+1) (j:=i) oz hi;grind
  ·have:=M.mono (i:=i) (j:=j) h hj;rw[hU]at this;grind
 have hf:fr (x-b)=y+(x-u):=CN (by grind) (by grind) n (by grind);rw[hf];exact(L.pcx_uniq (by grind) hk (by grind) hlt).symm
theorem Ci{l:List Ac}(h:∀a∈l,fo a):∀a∈l,a.1<a.2:=fun a ha=>(h a ha).2.1
theorem Hb{l:List Ac}(h:∀a∈l,fo a){x:Rat}(k:bC l x):0<=x/\x<1:=by
 obtain⟨a,ha,k1,k2⟩:=k;obtain⟨j1,j2,j3⟩:=h a ha;exact⟨by grind,by grind⟩
theorem UV{b:Rat}{l:List Ac}(h:∀a∈l,fo a){x:Rat}(h0:0<=x)(h1:x<1):bC (l.flatMap (cK b)) x↔bC l (fr (x-b)):=by
 constructor
 ·rintro⟨c,hc,k⟩;obtain⟨a,ha,hc⟩:=YH.1 hc;exact⟨a,ha,(Bf (h a ha) h0 h1).1 ⟨c,hc,k⟩⟩
 ·rintro⟨a,ha,k⟩;obtain⟨c,hc,k⟩:=(Bf (h a ha) h0 h1).2 k;exact⟨c,YH.2 ⟨a,ha,hc⟩,k⟩
theorem Ln{b:Rat}{l:List Ac}(h:∀a∈l,fo a):∀a∈l.flatMap (cK b),fo a:=fun c hc=>by
 obtain⟨a,ha,hc⟩:=YH.1 hc;exact MR (h a ha) c hc
theorem Qa{bs:List Rat}(L:Lc bs){ps:LL}(hl:ps.length=bs.length)(hp:∀p∈ps,cS p)(b:Rat) :
  fM (eh (br b bs) (dS b bs ps))=fM ((eh bs ps).flatMap (cK b)):=by
 have M:=xp b bs;have lG:(dS b bs ps).length=(br b bs).length:=by unfold dS;rw[ZU]
 have t1:=yi L hl;have t2:=yi M lG;have t3:=Ln (b:=b) t1;obtain⟨n1,i1⟩:=DT (Ci t2);obtain⟨n2,i2⟩:=DT (Ci t3);refine Gv n1 n2 fun x=>?_
 rw[i1,i2]
 by_cases hx:0<=x/\x<1
 ·obtain⟨h0,h1⟩:=hx;rw[xa M lG,UV t1 h0 h1,xa L hl];have hj:=M.pcx_lt h0
  have e:((dS b bs ps).getD (pcx (br b bs) x) []).length=(ps.getD (pcx bs (fr (x-b))) []).length:=by
   unfold dS;rw[OF _ _ hj];unfold ot;have hk:=L.pcx_lt (fy ((br b bs).getD (pcx (br b bs) x) 0-b));rw[Up (hp _ ?_),Sy L b h0 h1];rw[ZS,ZV oz];exact Yy _
  rw[e];exact⟨fun k=>⟨fy _,ml _,k.2.2⟩,fun k=>⟨h0,h1,k.2.2⟩⟩
 ·exact⟨fun k=>aa8 (Hb t2 k) hx,fun k=>aa8 (Hb t3 k) hx⟩
def kJ:Nat->List Rat->List Rat
  |_,[]=>[]
  |i,c::p=>((i:Int):Rat)*c::kJ (i+1) p
def dJ(p:List Rat):List Rat:=ptr (kJ 1 p.tail)
theorem OK{p:List Rat}(h:p.length<=1):dJ p=[]:=by
 match p,h with
 |[],_=>rfl
 |[c],_=>rfl
open Go.Proofs
theorem gP{p:Rat}:aa .leq (asQ p) 0=decide (p<=0):=by
 have h:aa .leq (asQ p) 0=decide (asQ p<=0):=rfl;rw[h];rcases ow p with h |h |h
 ·rw[aa6 oz,aa6 (by grind)]
 ·rw[aa6 oz,aa6 (by grind)]
 ·rw[aa7 oz,aa7 (by grind)]
theorem oc{p:Rat}:aa .geq (asQ p) 0=decide (0<=p):=by
 have h:aa .geq (asQ p) 0=decide (asQ p>=0):=rfl;rw[h];rcases ow p with h |h |h
 ·rw[aa7 oz,aa7 (by grind)]
 ·rw[aa6 oz,aa6 (by grind)]
 ·rw[aa6 oz,aa6 (by grind)]
theorem qn{p:Rat}:aa .gtr (asQ p) 0=decide (0<p):=by
 have h:aa .gtr (asQ p) 0=decide (asQ p>0):=rfl;rw[h];rcases ow p with h |h |h
 ·rw[aa7 oz,aa7 (by grind)]
 ·rw[aa7 oz,aa7 (by grind)]
 ·rw[aa6 oz,aa6 (by grind)]
theorem lQ{p:Rat}:aa .lss (asQ p) 0=decide (p<0):=by
 have h:aa .lss (asQ p) 0=decide (asQ p<0):=rfl;rw[h];rcases ow p with h |h |h
 ·rw[aa6 oz,aa6 (by grind)]
 ·rw[aa7 oz,aa7 (by grind)]
 ·rw[aa7 oz,aa7 (by grind)]
theorem qP{p:Rat}(hp:Qs p):FP 49 [qA p] (.tup [zA p.num,zA p.den]):=by
 have h:=i6 (rt p) hp.ok
 rwa [bQ]at h
theorem vq{p:Rat}(hp:Qs p):FP 62 [zA p.num,zA p.den] (qA p):=by
 have h:=pC hp.num hp.den (by have:=p.den_nz;omega)
 rwa [Zg]at h
theorem DR{p:Rat}(hp:Qs p):FP 89 [qA p] (zA p.floor):=by
 have hd:((p.den:Nat):Int)≠0:=by have:=p.den_nz;omega
 have hD:=yM hp.num hp.den hd;refine ai func89 ?_;refine gc (qP hp) ?_;refine gc hD ?_;refine af ?_;rw[Rat.floor_def];rfl
theorem NA{p q:Rat}(hp:Qs p)(hq:Qs q):FP 171 [qA p,qA q] (qA (if p<=q then p else q)):=by
 refine ai func171 ?_;refine gc (eF hp hq) ?_;refine gC (fun z=>?_) (fun z=>?_)
 ·have h1 : p <= q := by rw [gP] at z; have := aa4 z; grind
  refine gc (qP hp) ?_;refine gc (vq hp) ?_;refine af ?_;rw[aa2 h1];rfl
 have h1:¬p<=q:=by rw[gP]at z;have:=aa5 z;grind
 refine gc (qP hq) ?_;refine gc (vq hq) ?_;refine af ?_;rw[aa1 h1];rfl
theorem Dy{p q:Rat}(hp:Qs p)(hq:Qs q):FP 101 [qA p,qA q] (qA (mxR p q)):=by
 refine ai func101 ?_;refine gc (eF hp hq) ?_;refine gC (fun z=>?_) (fun z=>?_)
 ·have h1 : q <= p := by rw [oc] at z; have := aa4 z; grind
  refine gc (qP hp) ?_;refine gc (vq hp) ?_;refine af ?_;unfold mxR;rw[aa2 h1];rfl
 have h1:¬q<=p:=by rw[oc]at z;have:=aa5 z;grind
 refine gc (qP hq) ?_;refine gc (vq hq) ?_;refine af ?_;unfold mxR;rw[aa1 h1];rfl
theorem jS{p:Rat}(hp:Qs p):FP 33 [qA p,.agg [.v (.bool false),nS,nS]] (qA p):=by
 have h:=kF hp Qs.zero;rw[Rat.add_zero]at h;exact Con.sA (.cons (.refl _) (.cons mH .nil)) h
theorem jn{p:Rat}(hp:Qs p):FP 7 [qA p] (bl true):=by
 have h:=kD (rt p) hp.ok;rw[tv]at h;exact h
abbrev Jo(p:Ac):List AV:=[bl (rt p.1).neg,ws (rt p.1).num,ws (rt p.1).den,bl (rt p.2).neg,ws (rt p.2).num,ws (rt p.2).den]
abbrev aS(p:Ac):AV:=.agg (Jo p)
theorem OD{p q:Rat}(hp:Qs p)(hq:Qs q)(h:p<=q):FP 216 [aS (p,q)] (bl true):=by
 refine ai func216 ?_;refine gc (jn hp) ?_;refine aO (fun _=>(jn hq)) ?_;refine aO (fun _=>(eF hp hq)) ?_;refine af ?_;rw[gP,aa6 (by grind)];rfl
theorem Eu{p q:Rat}(hp:Qs p)(hq:Qs q)(h:p<=q):FP 170 [aS (p,q)] (aS (p,q)):=by
 refine ai func170 ?_;refine gc (OD hp hq h) ?_;refine gf ?_;refine gc (jS hp) ?_;refine gc (jS hq) ?_;refine gD ?_;refine af ?_
 first |rfl |(simp;done)
theorem EF{p:Rat}(hp:Qs p):FP 110 [qA p] (aS (p,p)):=by
 refine ai func110 ?_;refine gc (jS hp) ?_;refine gc (jS hp) ?_;refine gD ?_;refine af ?_
 first |rfl |(simp;done)
theorem RY{p q r s:Rat}(hp:Qs p)(hq:Qs q)(hr:Qs r)(hs:Qs s)(h:p<=q)(h':r<=s):FP 109 [aS (p,q),aS (r,s)] (aS (if p<=r then p else r,mxR q s)):=by
 refine ai func109 ?_;refine gc (Eu hp hq h) ?_;refine gc (Eu hr hs h') ?_;refine gD ?_;refine gc (NA hp hr) ?_;refine gc (Dy hq hs) ?_;refine gD ?_;refine af ?_
 first |rfl |(simp;done)
theorem xj:∀(i:Nat)(p:List Rat),(kJ i p).length=p.length
 |_,[]=>rfl
 |i,c::p=>by
  show(kJ (i+1) p).length+1=p.length+1;rw[xj]
theorem EP:∀(i:Nat)(p:List Rat)(k:Nat){c:Rat},p[k]?=some c->(kJ i p)[k]?=some (((i+k:Nat):Int)*c)
 |_,[],_,_,h=>by simp at h
 |i,d::p,0,c,h=>by
  simp at h;subst h;rfl
 |i,d::p,k+1,c,h=>by
  show(kJ (i+1) p)[k]?=_;rw[EP (i+1) p k (by simpa using h)];congr 4;omega
theorem Ew{n:Nat}(h:n<256):Qb 8 ((n:Int):Rat):=by
 refine⟨?_,?_⟩
 ·show((n:Int):Rat).num.natAbs<2^8;rw[Rat.num_intCast];simp only[Nat.reducePow];omega
 ·show((n:Int):Rat).den<2^8;rw[Rat.den_intCast];decide
theorem BY{e:Nat}{p:List Rat}(hp:Pb e p):∀(i:Nat),i+p.length<256->Pb (8+e) (kJ i p):=by
 induction p with
 |nil=>intro i h c hc;cases hc
 |cons d p ih =>
  intro i h c hc;rw[Z7]at h;rcases aai.1 hc with rfl |hc
  ·exact(Ew oz).mul (hp d (aaa ..))
  ·exact ih (fun x hx=>hp x (Z8 _ hx)) (i+1) oz c hc
theorem DV(p:List Rat):(dJ p).length<=p.length-1:=by
 unfold dJ;have h:=m5 (kJ 1 p.tail);rw[xj,Yu]at h;exact h
theorem Jp{e:Nat}{p:List Rat}(hp:Pb e p)(hl:p.length<=30):Pb (8+e) (dJ p):=by
 unfold dJ;exact(BY (fun c hc=>hp c (List.mem_of_mem_tail hc)) 1 (by rw[Yu];omega)).tr
theorem Oh(p:List Rat):cS (dJ p):=o7 _
theorem Lf{e:Nat}{p:List Rat}(hp:Po e p)(he:e<=100000):FP 215 [nA p] (nA (dJ p)):=by
 have gI:=hp.len;obtain⟨L,hL⟩:∃L,L=kJ 1 p.tail:=⟨_,rfl⟩
 have Xn:L.length=p.length-1:=by rw[hL,xj,Yu]
 have Wz:Pb (8+e) L:=by rw[hL];exact BY (fun c hc=>hp.b c (List.mem_of_mem_tail hc)) 1 (by rw[Yu];omega)
 refine ai func215 ?_;refine gW (Wk.virt 900 3 rfl) ?_;refine aK [0] [] (fun(j:Nat)=>[pP 3 (.ms 900 3 0 j),pP 4 (i64 ((j+1:Nat):Int))]) (fun j=>[pP 900 (.row 3 ((L.take j).map qA))]) (fun j=>j<=L.length) (fun j=>p.length-j) 0 (aaf _) ?_ (h1:=(.cons rfl (Sub.nM _ _ _) (.k .nil)));rintro j hj K1 J1;refine gl ?_;refine gC (fun z=>?_) (fun z=>?_) (st2:=(6,0))
 ·have eR:j+1<p.length:=aW z;obtain⟨c,hc⟩:=aJ (l:=p) eR;have sM:=hp.b c (ZR hc)
  have WA:L[j]?=some (((j+1:Nat):Int)*c):=by
   have h1:=EP 1 p.tail j (c:=c) (by rw[List.getElem?_tail];exact hc);rw[hL,h1,Nat.add_comm]
  refine gc (pH ((j+1:Nat):Int) oz) ?_;refine gi (ao hc) ?_;refine gc (lU ((Ew (n:=j+1) oz).qs oz) (sM.qs oz)) ?_;refine gs (cU (.tmp rfl) rfl (by rw[ZU,aao];omega) (.tmp rfl) T35 rfl T24 rfl rfl (by simp only[Z7,aan];omega) rfl rfl) ?_;refine gD ?_ (4,0);refine gW (Wk.of (sl:=[pP 0 (nA p),pP 4 (i64 ((j+1:Nat):Int)),pP 3 (.ms 20 3 0 (j+1))]) (hp:=[pP 20 (.row 3 ((L.take (j+1)).map qA))]) aI (.cons rfl (.of (by rw[d7 WA,aas];rfl)) .nil)) ?_ (4,0);refine gW (Wk.rk (k:=20) (d:=900) rfl rfl) ?_;refine ga aF ?_;exact aG J1 (j+1) oz
 have eR:p.length<=j+1:=m4 z;have vI:j=L.length:=by omega
 subst vI;refine gW ((Wk.freeze (k:=900) rfl).trans<|Wk.of (sl:=[pP 3 (nA L)]) (hp:=[]) (.cons rfl (.of (by rw[bH (by rw[ZU,aab]),aab];rfl)) .nil) .nil) ?_;refine gc (qc L (fun x hx=>(Wz x hx).qs oz) oz) ?_;refine af ?_;rw[hL];rfl
theorem Mg{e:Nat}{p:List Rat}(hp:Po e p)(he:e<=100000):FP 168 [nA p] (.tup [nA (dJ p),.v .nilIface]):=by
 refine ai func168 ?_;refine gc (rx hp oz) ?_;refine gf ?_;refine gc (Lf hp he) ?_;refine bh ?_
 first |rfl |(simp;done)
theorem yE(p:List Rat)(hl:p.length<=1000):FP 86 [nA p] (i64 ((p.length:Int)-1)):=by
 refine ai func86 ?_;refine gl ?_;refine ga (co oz) ?_;refine af ?_
 first |rfl |(simp;done)
def er(e f:Nat):Nat->Nat
  |0=>1
  |n+1=>n*(er e f n+f+1)+1+(1+e)+1
theorem QA(e f:Nat):∀n,1<=er e f n
 |0=>Z0 _
 |n+1=>by unfold er;omega
theorem PJ(e f:Nat):∀n,er e f n<=er e f (n+1)
 |0=>QA e f 1
 |n+1=>by
  have h:1*(er e f (n+1)+f+1)<=(n+1)*(er e f (n+1)+f+1):=aad _ oz;show er e f (n+1)<=(n+1)*(er e f (n+1)+f+1)+1+(1+e)+1;omega
theorem xr(e f:Nat){m:Nat}:∀{n},m<=n->er e f m<=er e f n
 |0,h=>by rw[Nat.le_zero.1 h];exact Z0 _
 |n+1,h=>by
  by_cases e1:m=n+1
  ·rw[e1];exact Z0 _
  ·exact aaj (xr e f (n:=n) oz) (PJ e f n)
theorem yp{e f:Nat}{q:List Rat}(hq:Pb f q)(hl:q.length<=2):∀{p:List Rat},Pb e p->Pb (er e f p.length) (dh q p)
 |[],_=>fun c hc=>by cases hc
 |c::p,hp=>by
  have ih:=yp hq hl (p:=p) (fun x hx=>hp x (Z8 _ hx));have h1:=ih.mul hq;have h2:=m6 hl p;have h3:(dh q p).length*(er e f p.length+f+1)<=p.length*(er e f p.length+f+1):=aad _ h2
  have h4:Pb e (ptr [c]):=Pb.tr fun x hx=>by
   rw[Z3]at hx;subst hx;exact hp _ (aaa ..)
  have h5:=(h1.mono (f:=p.length*(er e f p.length+f+1)+1) oz).add Qb.one h4;exact h5
theorem KM{p:List Rat}{m:Nat}{c:Rat}(h:p[m]?=some c):((p.map qA).drop m).take (m+1-m)=[c].map qA:=by
 obtain⟨h1,rfl⟩:=YA.1 h;rw[show m+1-m=1 by omega,Yd (by rw[ZU];exact h1),List.take_succ_cons,List.take_zero,List.getElem_map];rfl
theorem Kr{a b:Nat}(h1:a<=9)(h:cond (cond (aa .gtr (a:Int) 1) (aa .gtr (b:Int) 1) false) (aa .gtr (((a:Int)-1)*1) 64) false=true):False:=by
 cases h2:aa .gtr (((a:Int)-1)*1) 64
 ·rw[h2]at h;cases h3:aa .gtr (a:Int) 1 <;> cases h4:aa .gtr (b:Int) 1 <;> rw[h3,h4]at h <;> cases h
 ·have:=aa4 (p:=((a:Int)-1)*1>64) h2;omega
theorem Tu{e f:Nat}{p q:List Rat}(hp:Po e p)(hq:Po f q)(I4:p.length<=9)(i3:q.length=2)(he:e<=1000000)(hf:f<=1000000)(hB:er e f 9<=1000000000):FP 43 [nA p,nA q] (.tup [nA (dh q p),.v .nilIface]):=by
 have n5:FP 95 [.lst 1 [nA p,nA q]] (be 0):=Ue (ps:=[p,q]) (by intro x hx;simp only[aai,aap,or_false]at hx;rcases hx with rfl |rfl;exact rx hp oz;exact rx hq oz) (by simp);have dR:∀n,n<=p.length->Pb 1000000000 (dh q (p.drop n)):=fun n hn=>(yp hq.b oz (p:=p.drop n) (fun x hx=>hp.b x (YI hx))).mono (aaj (xr e f (by rw[List.length_drop];omega)) hB)
 have aU:∀n,(dh q (p.drop n)).length<=9:=fun n=>aaj (m6 oz _) (by rw[List.length_drop];omega)
 refine ai func43 ?_;refine gc n5 ?_;refine gf ?_;refine gl ?_;refine cu ?_;refine aO (fun _=>(yE p oz)) ?_;refine aO (fun _=>(yE q oz)) ?_;refine fD (fun _=>(show _=((p.length:Int)-1)*1 by rw[i3];exact i64_in (x:=((p.length:Int)-1)*1) oz)) ?_;refine gC (fun z=>?_) (fun z=>?_) (st1:=(5,0));exact(Kr I4 z).elim;refine gl ?_;refine ga (co oz) ?_;refine aK [0,1] [] (fun(n:Nat)=>[pP 7 (nA (dh q (p.drop n))),pP 8 (i64 ((n:Int)-1))]) (fun _=>[]) (fun n=>n<=p.length) (fun n=>n) p.length (Z0 _) ?_ (h1:=(.cons rfl ((Sub.nil 3 none 0).trans (.of (by rw[List.drop_length];rfl))) (.k .nil)));rintro n hn K1 J1;refine gC (fun z=>?_) (fun z=>?_) (st1:=(77777,0))
 ·have d5 : 0 < n := by have h9 := aa4 (p := (n : Int) - 1 >= 0) z; omega
  obtain⟨m,rfl⟩:∃m,n=m+1:=⟨n-1,by omega⟩
  obtain⟨c,hc⟩:=aJ (l:=p) (i:=m) oz;have mD:Pb e [c]:=fun x hx=>by rw[Z3]at hx;subst hx;exact hp.b _ (ZR hc)
  have hT:FP 41 [.lst 3 (((p.map qA).drop m).take (m+1-m))] (nA (ptr [c])):=by
   rw[KM hc];exact qc [c] (fun x hx=>(mD x hx).qs oz) (by simp)
  have aN:=dR (m+1) hn;have lA:=aU (m+1);have lr:=FC (dh q (p.drop (m+1))) q;refine gW (Wk.of (sl:=[pP 0 (nA p),pP 1 (nA q),pP 7 (nA (dh q (p.drop (m+1)))),pP 8 (i64 (m:Nat))]) (hp:=[]) (.k (.k (.k (.cons rfl (.of (by congr 3;omega)) .nil)))) .nil) ?_;refine gc (M8 aN hq.b oz oz oz) ?_;refine ga aF ?_;refine gs (d6 (.tmp rfl) (.some _ (.tmp rfl) oz) (.some _ (.tmp rfl) oz) T35 rfl T24 rfl oz (by rw[ZU];omega) rfl) ?_;refine gc hT ?_;refine gc (pH 1 oz) ?_;refine gc (RS (aN.mul hq.b) mD.tr Qb.one (by have h9:(dh q (p.drop (m+1))).length*(1000000000+f+1)<=9*(1000000000+f+1):=aad _ lA;omega) oz (by have:=m5 [c];simp only[Z7,aan]at this;omega)) ?_;refine gD ?_ (9,0);refine gW (Wk.of (sl:=[pP 0 (nA p),pP 1 (nA q),pP 7 (nA (dh q (p.drop m))),pP 8 (i64 (m:Nat))]) (hp:=[]) (.k (.k (.cons rfl (.of (by rw[Yd (YA.1 hc).1,(YA.1 hc).2];rfl)) (.k .nil)))) .nil) ?_;refine ga (co oz) ?_;exact aG J1 m oz
 have d5:n=0:=by have h9:=aa5 (p:=(n:Int)-1>=0) z;omega
 subst d5;refine bh ?_
 first |rfl |(simp;done)
theorem RN(x:Nat)(hx:x<256):FP 163 [u64 x] (i64 (ax x)):=by
 refine ai func163 ?_;refine gC (fun z=>?_) (fun z=>?_) (st1:=(2,0))
 ·(have:=z;simp[aa]at this;omega)
 refine gC (fun z=>?_) (fun z=>?_) (st1:=(5,0))
 ·(have:=z;simp[aa]at this;omega)
 refine gC (fun z=>?_) (fun z=>?_) (st1:=(8,0))
 ·(have:=z;simp[aa]at this;omega)
 refine gv (gV hx) ?_;refine gs (qH (y:=x) (.const _) (.tmp rfl) T9 rfl (by kernel_rfl) (by first |rfl |omega) oz rfl) ?_;refine gv (i64_in (by have:=gu hx;omega)) ?_;refine ga (cf (by have:=gu hx;omega)) ?_;refine af ?_;simp only[i64];congr 2;omega
theorem PG(x:Nat)(hx:x<256):FP 93 [u64 x] (i64 (ax x)):=by
 refine ai func93 ?_;refine gC (fun I5=>?_) (fun I5=>?_) (st1:=(1,0));cases I5;refine gc (RN x hx) ?_;refine af ?_
 first |rfl |(simp;done)
def f9(x:Rat):Rat:=x
def bS(a:Ac):Rat:=a.1
section
variable{α:Type}{κ:α->Rat}{ys:List α}{i j n:Nat}{a b:α}
theorem BP{m:Nat}(ha:ys[m+1]?=some a)(hb:ys[m]?=some b):cC κ ys (m+1)=if κ a<κ b then cC κ ((ys.set (m+1) b).set m a) m else ys:=by
 rw[cC];simp only[ha,hb]
theorem EX(ha:ys[j]?=some a)(hb:ys[j-1]?=some b)(h0:0<j)(h:κ a<κ b):cC κ ((ys.set j b).set (j-1) a) (j-1)=cC κ ys j:=by
 obtain⟨m,rfl⟩:∃m,j=m+1:=⟨j-1,by omega⟩
 rw[show m+1-1=m by omega]at hb ⊢;rw[BP ha hb,aa2 h]
theorem Bt(ha:ys[j]?=some a)(hb:ys[j-1]?=some b)(h:j=0\/¬κ a<κ b):cC κ ys j=ys:=by
 cases j with
 |zero=>rw[cC]
 |succ m =>
  rw[show m+1-1=m by omega]at hb;rw[BP ha hb,aa1 (h.resolve_left oz)]
theorem BU(h:i<n):fV κ (n-i) i ys=fV κ (n-(i+1)) (i+1) (cC κ ys i):=by
 rw[show n-i=(n-(i+1))+1 by omega];rfl
theorem FA(h:n<=i):fV κ (n-i) i ys=ys:=by rw[show n-i=0 by omega];rfl
theorem G2{xs:List α}(h:∀y∈ys,y∈xs)(ha:ys[j]?=some a)(hb:ys[j-1]?=some b):∀y∈(ys.set j b).set (j-1) a,y∈xs:=fun y hy=>by
 rcases Yi hy with hy |rfl
 ·rcases Yi hy with hy |rfl
  ·exact h y hy
  ·exact h _ (ZR hb)
 ·exact h _ (ZR ha)
end
theorem EA{j:Nat}{a b:Rat}(h:cond (aa .gtr (j:Int) 0) (aa .lss (asQ (a-b)) 0) false=true):0<j/\a<b:=by
 cases h1:aa .gtr (j:Int) 0 <;> rw[h1]at h
 ·cases h
 ·have h2:aa .lss (asQ (a-b)) 0=true:=h;rw[lQ]at h2;have:=aa4 h2;exact⟨bG (b:=0) h1,by grind⟩
theorem B1{j:Nat}{a b:Rat}(h:cond (aa .gtr (j:Int) 0) (aa .lss (asQ (a-b)) 0) false=false):j=0\/¬a<b:=by
 cases h1:aa .gtr (j:Int) 0 <;> rw[h1]at h
 ·have:=jq (b:=0) h1;omega
 ·have h2:aa .lss (asQ (a-b)) 0=false:=h;rw[lQ]at h2;have:=aa5 h2;exact .inr (by grind)
theorem Ty(xs:List Rat)(hl:xs.length<=12)(f:FuncId)(hf:∀a∈xs,∀b∈xs,FP f [qA a,qA b] (i64 (asQ (f9 a-f9 b)))) :
  Con prog 154 [.ms 1000 3 0 xs.length,i64 0,i64 xs.length,.cl f [] []] [pP 1000 (.row 3 (xs.map qA))] (.tup []) [pP 1000 (.row 3 ((ce f9 xs).map qA))]:=by
 refine gF func154 (fun k z h=>ja h) ?_;refine ga (show _=((1:Nat):Int)from rfl) ?_;refine ek [1,2] [] (fun(ys:List Rat)(i:Nat)=>[pP 0 (.ms 1000 3 0 xs.length),pP 3 (.cl f [] []),pP 8 (i64 i)]) (fun ys _=>[pP 1000 (.row 3 (ys.map qA))]) (fun ys i=>ys.length=xs.length/\(∀y∈ys,y∈xs)/\1<=i/\fV f9 (xs.length-i) i ys=ce f9 xs) (fun _ i=>xs.length+1-i) xs 1 ⟨rfl,fun y h=>h,Z0 _,rfl⟩ ?_;rintro ys i ⟨pY,AR,AT,n6⟩ K1 J1;refine gC (fun u=>?_) (fun u=>?_)
 ·have ab:=aW u;refine ek [1,2,8] [] (fun (zs:List Rat) (j:Nat)=>[pP 0 (.ms 1000 3 0 xs.length),pP 3 (.cl f [] []),pP 9 (i64 j)]) (fun zs _=>[pP 1000 (.row 3 (zs.map qA))]) (fun zs j=>zs.length = xs.length /\ (∀ y ∈ zs,y ∈ xs) /\ j <= i /\ fV f9 (xs.length - (i + 1)) (i + 1) (cC f9 zs j) = ce f9 xs) (fun _ j=>j) ys i ⟨pY,AR,Z0 _,(BU ab).symm.trans n6⟩ ?_;rintro zs j ⟨sN,lM,sJ,ip⟩ K2 J2;obtain ⟨a,ha⟩:=aJ (show j < zs.length by omega);obtain ⟨b,hb⟩:=aJ (show j - 1 < zs.length by omega);refine gs (bB rfl rfl rfl (fun h=>aP (n:=j) (.opt rfl (o1 h)) (.opt rfl (o1 h)) T25 rfl T24 rfl oz oz rfl)) ?_;refine gs (bB rfl rfl rfl (fun h=>ay (.opt rfl (o1 h)) rfl (ao ha) T24 rfl rfl rfl)) ?_;refine fD (fun h=>(bZ (bG (b:=0) h) (by unfold an; omega))) ?_;refine gs (bB rfl rfl rfl (fun h=>aP (n:=(j - 1)) (.opt rfl (o1 h)) (.opt rfl (o1 h)) T25 rfl T24 rfl oz oz rfl)) ?_;refine gs (bB rfl rfl rfl (fun h=>ay (.opt rfl (o1 h)) rfl (ao hb) T24 rfl rfl rfl)) ?_;refine aO (fun _=>(hf a (lM a (ZR ha)) b (lM b (ZR hb)))) ?_;refine gD ?_;refine gC (fun u=>?_) (fun u=>?_)
  ·obtain⟨fH,vM⟩:=EA u;refine ga (bZ fH (by unfold an;omega)) ?_;refine ga (bZ fH (by unfold an;omega)) ?_;refine gs (aP (n:=(j-1)) (.tmp rfl) (.tmp rfl) T25 rfl T24 rfl oz oz rfl) ?_;refine gs (ay (.tmp rfl) rfl (ao hb) T24 rfl rfl rfl) ?_;refine gs (aP (n:=j) (.tmp rfl) (.tmp rfl) T25 rfl T24 rfl oz oz rfl) ?_;refine gs (ay (.tmp rfl) rfl (ao ha) T24 rfl rfl rfl) ?_;refine gs (aP (n:=j) (.tmp rfl) (.tmp rfl) T25 rfl T24 rfl oz oz rfl) ?_;refine gs (bJ (.tmp rfl) rfl (ao ha) rfl (.tmp rfl) rfl rfl T24 rfl rfl) ?_;refine gs (aP (n:=(j-1)) (.tmp rfl) (.tmp rfl) T25 rfl T24 rfl oz oz rfl) ?_;refine gs (bJ (.tmp rfl) rfl ((List.getElem?_set_ne oz).trans (ao hb)) rfl (.tmp rfl) rfl rfl T24 rfl rfl) ?_;refine gD ?_;refine ga (bZ fH (by unfold an;omega)) ?_;exact dt J2 ((zs.set j b).set (j-1) a) (j-1) ⟨by rw[aa0,aa0];exact sN,G2 lM ha hb,by omega,by rw[EX ha hb fH vM];exact ip⟩ (hw:=Wk.of aI (.cons rfl (.of (aa9 (Blk.row 3) (by rw[aaw,aaw];rfl))) .nil))
  have hs:=B1 u;refine ga aF ?_;exact dt J1 zs (i+1) ⟨sN,lM,by omega,by rw[Bt ha hb hs]at ip;exact ip⟩
 have ab:=m4 u;refine gR ?_;exact aM.own2 rfl (by rw[FA ab]at n6;rw[n6]) rfl
theorem S6(xs:List Rat)(hl:xs.length<=12)(m:Int)(f:FuncId)(hf:∀a∈xs,∀b∈xs,FP f [qA a,qA b] (i64 (asQ (f9 a-f9 b)))) :
  Con prog 92 [.ms 1000 3 0 xs.length,i64 0,i64 xs.length,i64 m,.cl f [] []] [pP 1000 (.row 3 (xs.map qA))] (.tup []) [pP 1000 (.row 3 ((ce f9 xs).map qA))]:=by
 refine gF func92 (fun k z h=>ja h) ?_;refine tt [1,2,3,10,11] [1000] [pP 0 (.ms 1000 3 0 xs.length),pP 4 (.cl f [] [])] [] (True) (0) trivial ?_;rintro-K1 J1;refine ga (co oz) ?_;refine gC (fun y=>?_) (fun y=>?_) (st2:=(77777,0))
 ·refine gt (bF (Ty xs hl f hf) (.cons (.tmp rfl) (.cons (.tmp rfl) (.cons (.tmp rfl) (.cons (.tmp rfl) .nil)))) bW rfl rfl) ?_;refine gR ?_;exact aM.own2 rfl rfl rfl
 (rw[show aa .leq ((xs.length:Int)-0) 12=true from aa6 oz]at y;cases y)
theorem S5(xs:List Rat)(hl:xs.length<=12)(f:FuncId)(hf:∀a∈xs,∀b∈xs,FP f [qA a,qA b] (i64 (asQ (f9 a-f9 b)))) :
  Con prog 38 [.ms 1000 3 0 xs.length,.cl f [] []] [pP 1000 (.row 3 (xs.map qA))] (.tup []) [pP 1000 (.row 3 ((ce f9 xs).map qA))]:=by
 refine gF func38 (fun k z h=>ja h) ?_;refine gv (show IntKind.u64.wrap _=((xs.length:Nat):Int)from u64_in oz) ?_;refine gc (PG xs.length oz) ?_;refine gt (bF (S6 xs hl _ f hf) (.cons (.tmp rfl) (.cons (.const _) (xP rfl rfl rfl))) bW rfl rfl) ?_;refine gR ?_;exact aM.own2 rfl rfl rfl
theorem RE(xs:List Ac)(hl:xs.length<=12)(f:FuncId)(hf:∀a∈xs,∀b∈xs,FP f [aS a,aS b] (i64 (asQ (bS a-bS b)))) :
  Con prog 213 [.ms 1000 6 0 xs.length,i64 0,i64 xs.length,.cl f [] []] [pP 1000 (.row 6 (xs.map aS))] (.tup []) [pP 1000 (.row 6 ((ce bS xs).map aS))]:=by
 refine gF func213 (fun k z h=>ja h) ?_;refine ga (show _=((1:Nat):Int)from rfl) ?_;refine ek [1,2] [] (fun(ys:List Ac)(i:Nat)=>[pP 0 (.ms 1000 6 0 xs.length),pP 3 (.cl f [] []),pP 8 (i64 i)]) (fun ys _=>[pP 1000 (.row 6 (ys.map aS))]) (fun ys i=>ys.length=xs.length/\(∀y∈ys,y∈xs)/\1<=i/\fV bS (xs.length-i) i ys=ce bS xs) (fun _ i=>xs.length+1-i) xs 1 ⟨rfl,fun y h=>h,Z0 _,rfl⟩ ?_;rintro ys i ⟨pY,AR,AT,n6⟩ K1 J1;refine gC (fun u=>?_) (fun u=>?_)
 ·have ab:=aW u;refine ek [1,2,8] [] (fun (zs:List Ac) (j:Nat)=>[pP 0 (.ms 1000 6 0 xs.length),pP 3 (.cl f [] []),pP 9 (i64 j)]) (fun zs _=>[pP 1000 (.row 6 (zs.map aS))]) (fun zs j=>zs.length = xs.length /\ (∀ y ∈ zs,y ∈ xs) /\ j <= i /\ fV bS (xs.length - (i + 1)) (i + 1) (cC bS zs j) = ce bS xs) (fun _ j=>j) ys i ⟨pY,AR,Z0 _,(BU ab).symm.trans n6⟩ ?_;rintro zs j ⟨sN,lM,sJ,ip⟩ K2 J2;obtain ⟨a,ha⟩:=aJ (show j < zs.length by omega);obtain ⟨b,hb⟩:=aJ (show j - 1 < zs.length by omega);refine gs (bB rfl rfl rfl (fun h=>aP (n:=j) (.opt rfl (o1 h)) (.opt rfl (o1 h)) T36 rfl T47 rfl oz oz rfl)) ?_;refine gs (bB rfl rfl rfl (fun h=>ay (.opt rfl (o1 h)) rfl (ao ha) T47 rfl rfl rfl)) ?_;refine fD (fun h=>(bZ (bG (b:=0) h) (by unfold an; omega))) ?_;refine gs (bB rfl rfl rfl (fun h=>aP (n:=(j - 1)) (.opt rfl (o1 h)) (.opt rfl (o1 h)) T36 rfl T47 rfl oz oz rfl)) ?_;refine gs (bB rfl rfl rfl (fun h=>ay (.opt rfl (o1 h)) rfl (ao hb) T47 rfl rfl rfl)) ?_;refine aO (fun _=>(hf a (lM a (ZR ha)) b (lM b (ZR hb)))) ?_;refine gD ?_;refine gC (fun u=>?_) (fun u=>?_)
  ·obtain⟨fH,vM⟩:=EA u;refine ga (bZ fH (by unfold an;omega)) ?_;refine ga (bZ fH (by unfold an;omega)) ?_;refine gs (aP (n:=(j-1)) (.tmp rfl) (.tmp rfl) T36 rfl T47 rfl oz oz rfl) ?_;refine gs (ay (.tmp rfl) rfl (ao hb) T47 rfl rfl rfl) ?_;refine gs (aP (n:=j) (.tmp rfl) (.tmp rfl) T36 rfl T47 rfl oz oz rfl) ?_;refine gs (ay (.tmp rfl) rfl (ao ha) T47 rfl rfl rfl) ?_;refine gs (aP (n:=j) (.tmp rfl) (.tmp rfl) T36 rfl T47 rfl oz oz rfl) ?_;refine gs (bJ (.tmp rfl) rfl (ao ha) rfl (.tmp rfl) rfl rfl T47 rfl rfl) ?_;refine gs (aP (n:=(j-1)) (.tmp rfl) (.tmp rfl) T36 rfl T47 rfl oz oz rfl) ?_;refine gs (bJ (.tmp rfl) rfl ((List.getElem?_set_ne oz).trans (ao hb)) rfl (.tmp rfl) rfl rfl T47 rfl rfl) ?_;refine gD ?_;refine ga (bZ fH (by unfold an;omega)) ?_;exact dt J2 ((zs.set j b).set (j-1) a) (j-1) ⟨by rw[aa0,aa0];exact sN,G2 lM ha hb,by omega,by rw[EX ha hb fH vM];exact ip⟩ (hw:=Wk.of aI (.cons rfl (.of (aa9 (Blk.row 6) (by rw[aaw,aaw];rfl))) .nil))
  have hs:=B1 u;refine ga aF ?_;exact dt J1 zs (i+1) ⟨sN,lM,by omega,by rw[Bt ha hb hs]at ip;exact ip⟩
 have ab:=m4 u;refine gR ?_;exact aM.own2 rfl (by rw[FA ab]at n6;rw[n6]) rfl
theorem KK(xs:List Ac)(hl:xs.length<=12)(f:FuncId)(hf:∀a∈xs,∀b∈xs,FP f [aS a,aS b] (i64 (asQ (bS a-bS b)))) :
  Con prog 165 [.ms 1000 6 0 xs.length,i64 xs.length,.cl f [] []] [pP 1000 (.row 6 (xs.map aS))] (.tup []) [pP 1000 (.row 6 ((ce bS xs).map aS))]:=by
 refine gF func165 (fun k z h=>ja h) ?_;refine tt [1,6,7,8] [1000] [pP 0 (.ms 1000 6 0 xs.length),pP 2 (.cl f [] [])] [] (True) (0) trivial ?_;rintro-K1 J1;refine gC (fun y=>?_) (fun y=>?_) (st1:=(77777,0));exact aa8 (aa4 (p:=(20:Int)<=(xs.length:Int)) y) oz;refine gt (bF (RE xs hl f hf) (.cons (.tmp rfl) (.cons (.tmp rfl) (.cons (.tmp rfl) (.cons (.tmp rfl) .nil)))) bW rfl rfl) ?_;refine tt [1,6] [1000] [pP 0 (.ms 1000 6 0 xs.length),pP 2 (.cl f [] [])] [] (True) (0) trivial ?_;rintro-K2 J2;refine gC (fun y=>?_) (fun y=>?_) (st1:=(77777,0));exact aa8 (aa4 (p:=(20:Int)<(xs.length:Int)) y) oz;refine gR ?_;exact aM.own2 rfl rfl rfl
theorem TU(xs:List Ac)(hl:xs.length<=12)(f:FuncId)(hf:∀a∈xs,∀b∈xs,FP f [aS a,aS b] (i64 (asQ (bS a-bS b)))) :
  Con prog 99 [.ms 1000 6 0 xs.length,.cl f [] []] [pP 1000 (.row 6 (xs.map aS))] (.tup []) [pP 1000 (.row 6 ((ce bS xs).map aS))]:=by
 refine gF func99 (fun k z h=>ja h) ?_;refine gt (bF (KK xs hl f hf) (xP rfl rfl rfl) bW rfl rfl) ?_;refine gR ?_;exact aM.own2 rfl rfl rfl
variable{P:abe}{N:Nat}{R:Array Oper}{s:AS}{pos:String}{after:Array Edge}
theorem SV{d n:Nat}{os:List abb}{es:List AV}{T E t:abd}{ti te:TI}{parts:Array (Nat×abb)}
  (hp:parts=(fR 0 os).toArray) (hx:EvL s os es) (hT:ak P T=some ti) (hk:ti.k=.slice E) (hE:ak P E=some te) (hz:te.zero.all Value.oneCell'=true)
  (bb:XK te.zero.length te.size=true) (ci:(es.all fun e=>XK e.cells.length te.size&&e.ok)=true) (hnm:AV.nms es=[])
  (hn:n=es.length) (hb:Nat.ble (n*te.size) 16777216=true) (hb':Nat.ble n 16777216=true) (hN:XU d N=true) :
  Step P N R s ⟨some d,.buildSlice T n parts,t,pos,after,none⟩ ⟨some (.ms d te.size 0 n),[(d,some (.row te.size es))],bO os,[]⟩ :=
 mY rfl rfl hN (by simp) fun s' aj hfr C m a w hr => by
  subst hp;rw[XS]at hb hb';have hx':=hx.agree aj (fun _ h=>h);obtain⟨c,h1,h2⟩:=sY (w:=w) hT hk hE hz bb (fun o x h=>h.rep hr) hx' ci hn oz;have a6:c.toList.length=es.length*te.size:=h2.1.trans (qO es (nr ci));have it:c.size=es.length*te.size:=by rw[<- ZI];exact a6
  have se:∀x∈cR es,x.nm=[]:=by
   have hh:=pt hnm;clear h2 h1 hx' hx ci hb hb' hnm aj a6 it hn
   induction es with
   |nil=>intro x hx;cases hx
   |cons e es ih =>
    intro x hx;simp only[cR,ZY]at hx;rcases hx with hx |hx
    ·have := hh e (by simp)
     cases e <;> simp only[AV.cells,Z3]at hx <;> first
      |(subst hx;exact this)
      |(exact pt this x hx)
    ·exact ih (fun e he=>hh e (by simp[he])) x hx
  refine⟨.slice (some ⟨w.heap.size,0,none⟩) n n,c,E,w.drawn,?_,fun h=>h,?_,?_⟩
  ·have : ((fR 0 os).toArray.map fun p => (p.1, a.eval p.2)) = ((fR 0 os).map fun p => (p.1, a.eval p.2)).toArray := by simp
   simp only[execOp,abh,this,h1,abg,abi]
  ·intro g S m' w' hg hS hm hw;have h3:bR g S bK c.toList (cR es):=h2.mono hg hS (fun x hx k b hk _=>by have:=hk.mem; rw [se x hx] at this; cases this);refine .row hw oz (by subst hn; unfold an; omega) (fun i e he=>nr ci e (ZR he)) ?_ ?_
   ·intro i j e x he hx;exact h3.2.1 _ x (rc es (nr ci) i j e x he hx)
   ·intro i j e u x he hx hu;refine h3.2.2 (i*te.size+j) u x ?_ (rc es (nr ci) i j e x he hx);rw[ZM];exact hu
  ·intro g S m' hm hS;have h:=Rep.ms (g:=g) (S:=S) (m:=m') (k:=d) (sz:=te.size) (off:=0) (len:=n) (cap:=n) hm (Z0 _) (by rw[XF,hn,<- it];exact hS);rw[Nat.zero_mul]at h;exact h
end Go.Lw
namespace Go.Lw
open Go.Proofs
theorem TV(n:Int)(d:Nat)(hd:d≠0):(n/(d:Int)).natAbs<=n.natAbs:=by
 have h1:=Int.mul_ediv_add_emod n d;have h2:=Int.emod_nonneg n (b:=d) oz;have h3:=Int.emod_lt_of_pos n (b:=d) oz;generalize n/(d:Int)=q at *;generalize n%(d:Int)=r at *
 by_cases hq:q<0
 ·have h4:(d:Int)*(q+1)<=1*(q+1):=Int.mul_le_mul_of_nonpos_right oz oz;rw[Int.mul_add]at h4;omega
 ·have h4:1*q<=(d:Int)*q:=Int.mul_le_mul_of_nonneg_right oz oz;omega
theorem uQ{e:Nat}{p:Rat}(h:Qb e p):Qb (e+1) ((p.floor:Int):Rat):=by
 refine⟨?_,?_⟩
 ·rw[Rat.num_intCast,Rat.floor_def];have h1:=TV p.num p.den p.den_nz;have h2:2^e<=2^(e+1):=Xt oz oz;exact aam h1 (Z9 h.1 h2)
 ·rw[Rat.den_intCast,X0];have:=Nat.one_le_two_pow (n:=e);omega
theorem mc{e:Nat}{p:Rat}(h:Qb e p):Qb (e+(e+1)+1) (fr p):=h.sub (uQ h)
theorem CE{e:Nat}{p:Rat}(h:Qb e p)(he:e<=1000000):Zs p.floor:=by
 have h1:=((uQ h).qs oz).num
 rwa [Rat.num_intCast]at h1
theorem Ei{n:Int}(hn:Zs n):FP 88 [zA n,zA 1] (.tup [qA (n:Rat),.v .nilIface]):=by
 have z1:Zs 1:=⟨2,by omega,by unfold Lz;simp⟩
 have h:=zN hn z1;rw[show Zd n 1=(n:Rat) by rw[Rat.divInt_eq_div,Zb];grind]at h;exact h
theorem HM:zA 1=.agg [.v (.bool false),.lst 1 [.v (.int .u32 1)]]:=by
 unfold zA ofInt;rw[show ofNat (Int.natAbs 1)=[1]from by decide +kernel];rfl
abbrev jZ(bs:List Rat)(ps:LL):AV:=.agg [nA bs,.lst 1 (ps.map nA)]
structure Lk(g e:Nat)(bs:List Rat)(ps:LL):Prop where
  lc:Lc bs
  len:ps.length=bs.length
  l7:bs.length<=7
  bq:∀b∈bs,Qb g b
  po:∀p∈ps,Po e p
  l9:∀p∈ps,p.length<=9
theorem z4:FP 42 [] (qA 1):=by
 refine ai func42 ?_;refine gc (pH 1 oz) ?_;refine af ?_;rfl
theorem wj:FP 47 [] (qA 1):=by
 refine ai func47 ?_;refine gc (pH 1 oz) ?_;refine af ?_;rfl
theorem UH:FP 90 [] (zA 1):=by
 refine ai func90 ?_;refine af ?_;rw[HM]
theorem EH{bs:List Rat}(L:Lc bs)(hl:bs.length<=7)(ps:LL){i:Nat}(hi:i<bs.length):FP 34 [jZ bs ps,i64 i] (qA (cq bs i)):=by
 refine ai func34 ?_;refine ga aF ?_;refine gl ?_;refine gC (fun z=>?_) (fun z=>?_)
 ·have h1:i+1<bs.length:=aW z;refine ga aF ?_;refine gi (ao (dD (l:=bs) h1)) ?_;refine af ?_;rw[jY L h1];rfl
 have h1:bs.length<=i+1:=m4 z;refine gc z4 ?_;refine af ?_;rw[oY L h1];rfl
theorem zh{e:Nat}{p:Rat}(hp:Qb e p)(he:e<=1000000):FP 35 [qA p] (.tup [qA (fr p),.v .nilIface]):=by
 have nZ:=hp.qs (show e<=4398046511104 by omega);refine ai func35 ?_;refine gc (DR nZ) ?_;refine gc UH ?_;refine gc (Ei (CE hp he)) ?_;refine gf ?_;refine gc (lW nZ ((uQ hp).qs oz)) ?_;refine bh ?_
 first |rfl |(simp;done)
theorem EO{e:Nat}{p:Rat}(hp:Qb e p)(he:e<=1000000):FP 46 [qA p] (.tup [qA (fr p),.v .nilIface]):=by
 have nZ:=hp.qs (show e<=4398046511104 by omega);have hF:=Ei (CE hp he);rw[HM]at hF;refine ai func46 ?_;refine gc (DR nZ) ?_;refine gc hF ?_;refine gf ?_;refine gc (lW nZ ((uQ hp).qs oz)) ?_;refine bh ?_
 first |rfl |(simp;done)
theorem G0{g:Nat}{bs:List Rat}(L:Lc bs)(hl:bs.length<=7)(hb:∀b∈bs,Qb g b)(hg:g<=1000000)(ps:LL){x:Rat}(hx:0<=x)(lL:Qs x):FP 40 [jZ bs ps,qA x] (i64 (pcx bs x)):=by
 have fZ:=L.pos;refine ai func40 ?_;refine gl ?_;refine ga (bZ fZ (by unfold an;omega)) ?_;refine aK [2,3] [2,3] (fun(i:Nat)=>[pP 5 (i64 i)]) (fun _=>[]) (fun i=>i<bs.length/\pcd bs x i=pcx bs x) (fun i=>i) (bs.length-1) ⟨by omega,rfl⟩ ?_;rintro i ⟨hi,I6⟩ K1 J1;have fI:=dD (l:=bs) hi;refine gi (ao fI) ?_;refine gc (eF ((hb _ (ZR fI)).qs oz) lL) ?_;refine gD ?_;refine gC (fun z=>?_) (fun z=>?_)
 ·have h1 : ¬ bs.getD i 0 <= x := by rw [qn] at z; have := aa4 z; grind
  have pW:0<i:=by
   rcases XC i with h |h
   ·subst h;rw[L.hd]at h1;exact aa8 hx h1
   ·exact h
  refine ga (bZ pW (by unfold an;omega)) ?_;exact aG J1 (i-1) ⟨by omega,by obtain⟨m,rfl⟩:∃m,i=m+1:=⟨i-1,by omega⟩;rw[<- I6];show pcd bs x m=if bs.getD (m+1) 0<=x then m+1 else pcd bs x m;rw[aa1 h1]⟩
 have h1:bs.getD i 0<=x:=by rw[qn]at z;have:=aa5 z;grind
 have h2:i=pcx bs x:=by
  rw[<- I6];cases i with
  |zero=>rfl
  |succ m=>show m+1=if bs.getD (m+1) 0<=x then m+1 else pcd bs x m;rw[aa2 h1]
 subst h2;refine af ?_
 first |rfl |(simp;done)
theorem DO{a b:Nat}(h0:0<a)(h1:b=a)(h:cond (aa .eql (a:Int) 0) true (aa .neq (a:Int) (b:Int))=true):False:=by
 subst h1;rw[show aa .eql (b:Int) 0=false from aa7 oz]at h;simp[aa]at h
theorem Sm{b:Rat}(h0:0<=b)(h1:b<1)(h:cond (cond false true (aa .lss (asQ b) 0)) true (aa .geq (asQ (b-1)) 0)=true):False:=by
 have h:cond (aa .lss (asQ b) 0) true (aa .geq (asQ (b-1)) 0)=true:=h;rw[lQ,oc,aa7 (by grind),aa7 (by grind)]at h;cases h
theorem SI{i:Nat}{b c:Rat}(h0:i=0->b=0)(h1:0<i->c<b)(h:cond (cond (aa .eql (i:Int) 0) (aa .neq (asQ b) 0) false) true (cond (aa .gtr (i:Int) 0) (aa .leq (asQ (b-c)) 0) false)=true):False:=by
 rcases XC i with h2 |h2
 ·subst h2;rw[h0 rfl]at h;cases h
 ·have h3:=h1 h2;rw[show aa .eql (i:Int) 0=false from aa7 oz,gP,aa7 (show ¬b-c<=0 by grind)]at h;cases h4:aa .gtr (i:Int) 0 <;> rw[h4]at h <;> cases h
theorem p7{g e:Nat}{bs:List Rat}{ps:LL}(h:Lk g e bs ps)(hg:g<=1000000)(he:e<=1000000000000):FP 31 [jZ bs ps] (be 0):=by
 have fZ:=h.lc.pos;have a6:=h.len;have h7:=h.l7;refine ai func31 ?_;refine gl ?_;refine cu ?_;refine cu ?_;refine gC (fun z=>?_) (fun z=>?_) (st1:=(2,0));exact(DO fZ a6 z).elim;refine gl ?_;refine gC (fun z=>?_) (fun z=>?_) (st1:=(4,0));exact aa8 (bG (b:=16) z) oz;refine gl ?_;refine aK [1,28,29] [1] (fun(i:Nat)=>[pP 30 (i64 i)]) (fun _=>[]) (fun i=>i<=bs.length) (fun i=>bs.length-i) 0 (aaf _) ?_;rintro i hi K1 J1;refine gC (fun z=>?_) (fun z=>?_)
 ·have ab:=aW z;have fI:=dD (l:=bs) ab;have lN:=dD (l:=bs) (show i-1<bs.length by omega);have iw:=(h.bq _ (ZR fI)).qs (show g<=4398046511104 by omega);have i3:=(h.bq _ (ZR lN)).qs (show g<=4398046511104 by omega);have WB:=h.lc.nn ab;have hlt:=h.lc.lt i ab;refine gi (ao fI) ?_;refine gc (jn iw) ?_;refine aO (fun _=>(jd iw)) ?_;refine aO (fun _=>z4) ?_;refine aO (fun _=>(eF iw (Qb.one.qs oz))) ?_;refine gD ?_;refine gC (fun z=>?_) (fun z=>?_) (st1:=(9,0));exact(Sm WB hlt z).elim;refine aO (fun _=>(jd iw)) ?_;refine fD (fun⟨h,h2⟩=>(bZ (bG (b:=0) h2) (by unfold an;omega))) ?_;refine fL (fun _=>(ao lN)) ?_;refine aO (fun _=>(eF iw i3)) ?_;refine gD ?_;refine gC (fun z=>?_) (fun z=>?_) (st1:=(11,0));exact(SI (fun h9=>by subst h9;exact h.lc.hd) (fun h9=>h.lc.smono oz ab) z).elim;refine ga aF ?_;exact aG J1 (i+1) ab
 refine gl ?_;refine aK [75,76] [] (fun(i:Nat)=>[pP 77 (i64 i)]) (fun _=>[]) (fun i=>i<=ps.length) (fun i=>ps.length-i) 0 (aaf _) ?_;rintro i sI K2 J2;refine gC (fun z=>?_) (fun z=>?_)
 ·have ab:=aW z;obtain⟨p,hp⟩:=aJ ab;have cc:=ZR hp;have I4:=h.l9 p cc;refine gi (ao hp) ?_;refine gc (rx (h.po p cc) he) ?_;refine gf ?_;refine gc (yE p oz) ?_;refine gC (fun z=>?_) (fun z=>?_) (st1:=(20,0));exact aa8 (aa4 (p:=(p.length:Int)-1>8) z) oz;refine ga aF ?_;exact aG J2 (i+1) ab
 refine af ?_
 first |rfl |(simp;done)
theorem kE{l:LL}{i:Nat}(h:i<l.length):l[i]?=some (l.getD i []):=by
 rw[ZS,ZV h];rfl
theorem HO{g e k:Nat}{bs:List Rat}{ps:LL}(h:Lk g e bs ps)(hg:g<=100000)(he:e<=100000){x:Rat}(hx:Qb k x)(hk:k<=100000) :
  FP 106 [jZ bs ps,qA x] (.tup [qA (au (ps.getD (pcx bs (fr x)) []) (fr x-bs.getD (pcx bs (fr x)) 0)),.v .nilIface]):=by
 have a6:=h.len;have h7:=h.l7;have lL:=hx.qs (show k<=4398046511104 by omega);have iy:=mc hx;have v8:=iy.qs oz;have fg:=h.lc.pcx_lt (fy x);have fI:=dD (l:=bs) fg;have fm:=kE (l:=ps) (show pcx bs (fr x)<ps.length by omega);have gH:=h.bq _ (ZR fI);refine ai func106 ?_;refine gc (p7 h oz oz) ?_;refine gf ?_;refine gc (jn lL) ?_;refine gf ?_;refine gc (zh hx oz) ?_;refine gf ?_;refine gc (G0 h.lc h.l7 h.bq oz ps (fy x) v8) ?_;refine gi (ao fm) ?_;refine gi (ao fI) ?_;refine gc (lW v8 (gH.qs oz)) ?_;refine gc (UG (h.po _ (ZR fm)) (iy.sub gH) oz) ?_;refine gD ?_;refine bh ?_
 first |rfl |(simp;done)
theorem KS{a b:Nat}:aa .eql (a:Int) (b:Int)=decide (a=b):=by
 show decide ((a:Int)=b)=_;exact decide_eq_decide.2 oz
theorem FR{a:Nat}:aa .eql (a:Int) 0=decide (a=0):=by
 show decide ((a:Int)=0)=_;exact decide_eq_decide.2 oz
theorem M4{e:Nat}{p q:List Rat}(hp:Pb e p)(hq:Pb e q)(he:e<=1000000000)(l1:p.length<=1000)(l2:q.length<=1000):FP 32 [nA p,nA q] (bl (oG p q)):=by
 refine ai func32 ?_;refine gl ?_;refine gl ?_;refine cu ?_;refine fL (fun⟨h,h2⟩=>(ao (dD (l:=p) (i:=0) (by have:=aa5 (p:=(p.length:Int)=0) h2;omega)))) ?_;refine fL (fun⟨h,h2⟩=>(ao (dD (l:=q) (i:=0) (by have:=aa4 (p:=(p.length:Int)=(q.length:Int)) (eq_of_beq h);have:=aa5 (p:=(p.length:Int)=0) h2;omega)))) ?_;refine aO (fun _=>(eF (uy hp oz 0) (uy hq oz 0))) ?_;refine gD ?_;refine af ?_;unfold oG;rw[q5,KS,FR,show decide (p.getD 0 0-q.getD 0 0=0)=decide (p.getD 0 0=q.getD 0 0)from decide_eq_decide.2 ⟨fun h=>by grind,fun h=>by grind⟩];cases decide (p.length=q.length) <;> cases decide (p.length=0) <;> rfl
theorem zo{α:Type}{l:List α}{b:α}:(l++[b]).length-1=l.length:=by simp
theorem Nu(bs:List Rat)(ps:LL)(n:Nat):dx bs ps (n+1)=iz bs ps (dx bs ps n) n:=rfl
theorem Fl{g e:Nat}{bs:List Rat}{ps:LL}(h:Lk g e bs ps)(hg:g<=1000000)(he:e<=1000000000):FP 9 [jZ bs ps] (.tup [.lst 6 ((eh bs ps).map aS),.v .nilIface]):=by
 have a6:=h.len;have h7:=h.l7
 have ki:∀i,i<bs.length->Qs (cq bs i):=fun i hi=>by
  by_cases h1:i+1<bs.length
  ·rw[jY h.lc h1];exact(h.bq _ (l0 h1)).qs oz
  ·rw[oY h.lc oz];exact Qb.one.qs oz
 refine ai func9 ?_;refine gc (p7 h oz oz) ?_;refine gf ?_;refine gl ?_;refine gW (Wk.virt 900 6 rfl) ?_;refine io [1,15,16] [1] (fun(n:Nat)(out:List Ac)(op:Bool)=>[pP 5 (.ms 900 6 0 out.length),pP 6 (bl op),pP 17 (i64 n)]) (fun _ out _=>[pP 900 (.row 6 (out.map aS))]) (fun n out op=>n<=ps.length/\dx bs ps n=(out,op)) (fun n _ _=>ps.length-n) 0 ([]) false ⟨aaf _,rfl⟩ ?_ (h1:=(.cons rfl (Sub.nM _ _ _) (.k (.k .nil))));rintro n out op ⟨hn,hd⟩ K1 J1;refine gC (fun z=>?_) (fun z=>?_) (st2:=(16,0))
 ·have ab:=aW z;have jx:=kE (l:=ps) ab;have cc:=kE (l:=ps) (show n - 1 < ps.length by omega);have nU:=dD (l:=bs) (show n < bs.length by omega);obtain ⟨k1,k2,k3⟩:=qt h.lc ps n oz;have kl:=x5 bs ps n;rw [hd] at k1 k2 k3 kl;have WC:=M4 (h.po _ (ZR cc)).b (h.po _ (ZR jx)).b he (by have:=h.l9 _ (ZR cc); omega) (by have:=h.l9 _ (ZR jx); omega);have gL:=Nu bs ps n;rw [hd] at gL;unfold iz at gL;dsimp only at gL k1 k2 k3 kl;refine gi (ao jx) ?_;refine gl ?_;refine gC (fun z=>?_) (fun z=>?_)
  ·have h1:1<(ps.getD n []).length:=bG (b:=1) z;rw[aa2 h1]at gL;refine ga aF ?_;exact fa J1 (n+1) out false ⟨ab,gL⟩
  have h1:¬1<(ps.getD n []).length:=by have:=jq (b:=1) z;omega
  rw[aa1 h1]at gL;refine fD (fun h=>(bZ (by obtain⟨_,_,_,_,h9⟩:=k2 h;exact h9) (by unfold an;omega))) ?_;refine fL (fun _=>(ao cc)) ?_;refine aO (fun _=>WC) ?_;refine gC (fun t35=>?_) (fun t35=>?_)
  ·have h2 : (op && oG (ps.getD (n - 1) []) (ps.getD n [])) = true := by cases op; cases t35; exact t35
   rw[aa2 h2]at gL;obtain⟨l,b,rfl,aH,d5⟩:=k2 (ZW _ _▸h2).1;have nQ:((l++[b]).map aS)[(l++[b]).length-1]?=some (aS b):=by rw[ZZ,zo];simp
   have WD:(l++[b]).getD ((l++[b]).length-1) (0,0)=b:=by rw[zo];simp
   rw[WD]at gL;refine ga (bZ (by simp) (by unfold an;omega)) ?_;refine gc (EH h.lc h7 ps (show n<bs.length by omega)) ?_;refine gc (jS (ki n oz)) ?_;refine gs (aP (n:=((l++[b]).length-1)) (.tmp rfl) (.tmp rfl) T36 rfl T47 rfl oz (by simp) rfl) ?_ (12,12);refine gs (gN (e:=aS b) (e':=aS (b.1,cq bs n)) (.tmp rfl) rfl nQ (.tmp rfl) rfl rfl T24 rfl rfl rfl) ?_ (14,0);refine gW (Wk.of (sl:=[pP 1 (.ptr 1 0),pP 15 (.lst 1 (ps.map nA)),pP 16 (i64 ps.length),pP 17 (i64 n),pP 5 (.ms 900 6 0 ((l++[b]).set ((l++[b]).length-1) (b.1,cq bs n)).length)]) (hp:=[pP 1 (.box [nA bs,.lst 1 (ps.map nA)]),pP 900 (.row 6 (((l++[b]).set ((l++[b]).length-1) (b.1,cq bs n)).map aS))]) (.k (.k (.k (.k (.cons rfl (.of (by rw[aa0])) .nil))))) (.k (.cons rfl (.of (by rw[aaw])) .nil))) ?_
   refine ga aF ?_;exact fa J1 (n+1) ((l++[b]).set ((l++[b]).length-1) (b.1,cq bs n)) true ⟨ab,gL⟩
  have h2:¬(op&&oG (ps.getD (n-1) []) (ps.getD n []))=true:=by
   intro h9;have h8:cond op (oG (ps.getD (n-1) []) (ps.getD n [])) false=true:=by cases op <;> exact h9
   rw[h8]at t35;cases t35
  rw[aa1 h2]at gL;refine gi (ao nU) ?_;refine gc (jS ((h.bq _ (ZR nU)).qs oz)) ?_;refine gc (EH h.lc h7 ps (show n<bs.length by omega)) ?_;refine gc (jS (ki n oz)) ?_;refine gs (cU (.tmp rfl) rfl (by rw[ZU]) (.tmp rfl) T36 rfl T47 rfl rfl (by simp only[Z7,aan];omega) rfl rfl) ?_;refine gD ?_ (14,0);refine gW (Wk.of (sl:=[pP 1 (.ptr 1 0),pP 15 (.lst 1 (ps.map nA)),pP 16 (i64 ps.length),pP 17 (i64 n),pP 5 (.ms 62 6 0 (out++[(bs.getD n 0,cq bs n)]).length)]) (hp:=[pP 1 (.box [nA bs,.lst 1 (ps.map nA)]),pP 62 (.row 6 ((out++[(bs.getD n 0,cq bs n)]).map aS))]) (.k (.k (.k (.k (.cons rfl (.of (by rw[aah];rfl)) .nil))))) (.k (.cons rfl (.of (by rw[aas];rfl)) .nil))) ?_ (14,0)
  refine gW (Wk.rk (k:=62) (d:=900) rfl rfl) ?_;refine ga aF ?_;exact fa J1 (n+1) (out++[(bs.getD n 0,cq bs n)]) true ⟨ab,gL⟩
 have ab:=bt hn z;subst ab;have p4:out=eh bs ps:=by unfold eh;rw[hd]
 subst p4;refine gW ((Wk.freeze (k:=900) rfl).trans<|Wk.of (sl:=[pP 5 (.lst 6 ((eh bs ps).map aS))]) (hp:=[]) (.cons rfl (.of (bH (by rw[ZU]))) .nil) .nil) ?_;refine bh ?_
 first |rfl |(simp;done)
theorem SE{g e:Nat}{bs:List Rat}{ps:LL}(h:Lk g e bs ps)(hg:g<=100000)(he:e<=100000):FP 107 [jZ bs ps] (.tup [jZ bs (ps.map dJ),.v .nilIface]):=by
 have a6:=h.len;have h7:=h.l7;refine ai func107 ?_;refine gc (p7 h oz oz) ?_;refine gf ?_;refine gl ?_;refine gW (Wk.virt 900 3 rfl) ?_;refine gW (Wk.virt 901 1 rfl) ?_;refine aK [1,2,5,17,18] [1,2] (fun(j:Nat)=>[pP 19 (i64 j)]) (fun j=>[pP 5 (.box [.ms 900 3 0 j,.ms 901 1 0 j]),pP 900 (.row 3 ((bs.take j).map qA)),pP 901 (.row 1 (((ps.map dJ).take j).map nA))]) (fun j=>j<=ps.length) (fun j=>ps.length-j) 0 (aaf _) ?_ (h2:=(.cons rfl (BlkSub.bL (.cons (Sub.nM _ _ _) (.cons (Sub.nM _ _ _) .nil)) rfl) (.k (.k .nil))));rintro j hj K1 J1;refine gC (fun z=>?_) (fun z=>?_) (st2:=(14,0))
 ·have ab:=aW z;have lJ:=kE (l:=ps) ab;have lN:=dD (l:=bs) (show j < bs.length by omega);have lg:(ps.map dJ)[j]? = some (dJ (ps.getD j [])):=by rw [ZZ,lJ]; rfl
  refine gi (ao lJ) ?_;refine gc (Mg (h.po _ (ZR lJ)) he) ?_;refine gf ?_;refine gi (ao lN) ?_;refine gc (jS ((h.bq _ (ZR lN)).qs oz)) ?_;refine gs (cU (.tmp rfl) rfl (by rw[ZU,aao];omega) (.tmp rfl) T25 rfl T24 rfl rfl (by simp only[Z7,aan];omega) rfl rfl) ?_;refine gD ?_ (12,0);refine gW (Wk.of (sl:=[pP 1 (.ptr 1 0),pP 2 (.ptr 2 0),pP 5 (.ptr 5 0),pP 8 (nA (dJ (ps.getD j []))),pP 17 (.lst 1 (ps.map nA)),pP 18 (i64 ps.length),pP 19 (i64 j)]) (hp:=[pP 1 (.box [nA bs,.lst 1 (ps.map nA)]),pP 2 (.box [nS,nS]),pP 5 (.box [.ms 43 3 0 (j+1),.ms 901 1 0 j]),pP 901 (.row 1 (((ps.map dJ).take j).map nA)),pP 43 (.row 3 ((bs.take (j+1)).map qA))]) aI (.k (.k (.k (.k (.cons rfl (.of (by rw[d7 lN,aas];rfl)) .nil)))))) ?_ (12,0)
  refine gW (Wk.rk (k:=43) (d:=900) rfl rfl) ?_;refine gs (cU (.tmp rfl) rfl (by rw[ZU,aao,ZU];omega) (.tmp rfl) T26 rfl T35 rfl rfl (by simp only[Z7,aan];omega) rfl rfl) ?_ (13,0);refine gW (Wk.of (sl:=[pP 1 (.ptr 1 0),pP 2 (.ptr 2 0),pP 5 (.ptr 5 0),pP 17 (.lst 1 (ps.map nA)),pP 18 (i64 ps.length),pP 19 (i64 j)]) (hp:=[pP 1 (.box [nA bs,.lst 1 (ps.map nA)]),pP 2 (.box [nS,nS]),pP 5 (.box [.ms 900 3 0 (j+1),.ms 49 1 0 (j+1)]),pP 900 (.row 3 ((bs.take (j+1)).map qA)),pP 49 (.row 1 (((ps.map dJ).take (j+1)).map nA))]) aI (.k (.k (.k (.k (.cons rfl (.of (by rw[d7 lg,aas];rfl)) .nil)))))) ?_ (13,0)
  refine gW (Wk.rk (k:=49) (d:=901) rfl rfl) ?_;refine ga aF ?_;exact aG J1 (j+1) ab
 have ab:=bt hj z;subst ab;refine gW ((Wk.freeze (k:=900) rfl).trans<|(Wk.freeze (k:=901) rfl).trans<|Wk.of (sl:=[pP 2 (.ptr 2 0),pP 5 (.ptr 5 0)]) (hp:=[pP 2 (.box [nS,nS]),pP 5 (.box [nA bs,.lst 1 ((ps.map dJ).map nA)])]) aI (.k (.cons rfl (BlkSub.bL (.cons (.of (by rw[a6,bH (by rw[ZU,aab]),aab];rfl)) (.cons (.of (by show AV.fz 901 1 _ (.ms 901 1 0 ps.length)=_;rw[bH (by rw[ZU,aao,ZU];omega),aag (by rw[ZU];omega)])) .nil)) rfl) .nil))) ?_
 refine bh ?_
 first |rfl |(simp;done)
theorem GZ{α:Type}(l:List α)(d:α)(p:α->Bool):(cg l.length fun i=>!p (l.getD i d)).isSome=l.any p:=by
 cases h:cg l.length fun i=>!p (l.getD i d)with
 |none =>
  have h1:=HQ h;refine(List.any_eq_false.2 fun x hx=>?_).symm;obtain⟨j,hj,rfl⟩:=Yv hx;have h2:=h1 j hj;rw[ZS,ZV hj]at h2;intro h3;rw[show(some l[j]).getD d=l[j]from rfl,h3]at h2;cases h2
 |some i =>
  obtain⟨h1,h2⟩:=iR h;rw[ZS,ZV h1]at h2;refine(Ys.2 ⟨l[i],Yy _,?_⟩).symm;cases h3:p l[i]with
  |true=>rfl
  |false=>rw[show(some l[i]).getD d=l[i]from rfl,h3]at h2;cases h2
theorem UJ(bs:List Rat)(hl:bs.length<=281474976710656)(f:FuncId)(pre caps:List AV)(ok:Nat->Bool)
  (hf:∀(i:Nat)(b:Rat),bs[i]?=some b->(∀j,j<i->ok j=true)->FP f (pre++[qA b]++caps) (bl (!ok i))) :
  FP 91 [.lst 3 (bs.map qA),.cl f pre caps] (i64 (jV (cg bs.length ok))):=by
 refine ai func91 ?_;refine gl ?_;refine aK [0,1,7] [] (fun(i:Nat)=>[pP 8 (i64 i)]) (fun _=>[]) (fun i=>i<=bs.length/\∀j,j<i->ok j=true) (fun i=>bs.length-i) 0 ⟨aaf _,fun j h=>by omega⟩ ?_;rintro i ⟨hi,hj⟩ K1 J1;refine gC (fun z=>?_) (fun z=>?_)
 ·have ab:=aW z;obtain⟨b,hb⟩:=aJ ab;refine gi (ao hb) ?_;refine gc (hf i b hb hj) ?_;refine gC (fun z=>?_) (fun z=>?_)
  ·have h2:=iN z;refine af ?_;rw[jE ab hj h2];rfl
  have h2:=iC z;refine ga aF ?_;exact aG J1 (i+1) ⟨ab,fun j h9=>by rcases Z2 j i with g |g;exact hj j g;(have:j=i:=by omega);subst this;exact h2⟩
 have ab:=bt hi z;subst ab;refine af ?_;rw[jB hj];rfl
theorem QO(o:Option Nat):aa .geq (jV o) 0=o.isSome:=by
 cases o with
 |none=>rfl
 |some i=>exact aa6 (by show(i:Int)>=0;omega)
theorem NF(bs:List Rat)(hl:bs.length<=281474976710656)(f:FuncId)(caps:List AV)(p:Rat->Bool)
  (hf:∀b∈bs,FP f ([qA b]++caps) (bl (p b))) :
  FP 36 [.lst 3 (bs.map qA),.cl f [] caps] (bl (bs.any p)):=by
 refine ai func36 ?_;refine gc (UJ bs hl f [] caps (fun i=>!p (bs.getD i 0)) (fun i b hb _=>by rw[Zt,cI hb];exact hf b (ZR hb))) ?_;refine af ?_;rw[<- GZ bs 0 p,<- QO];rfl
theorem UB(bs:List Ac)(hl:bs.length<=281474976710656)(f:FuncId)(pre caps:List AV)(ok:Nat->Bool)
  (hf:∀(i:Nat)(b:Ac),bs[i]?=some b->(∀j,j<i->ok j=true)->FP f (pre++[aS b]++caps) (bl (!ok i))) :
  FP 104 [.lst 6 (bs.map aS),.cl f pre caps] (i64 (jV (cg bs.length ok))):=by
 refine ai func104 ?_;refine gl ?_;refine aK [0,1,7] [] (fun(i:Nat)=>[pP 8 (i64 i)]) (fun _=>[]) (fun i=>i<=bs.length/\∀j,j<i->ok j=true) (fun i=>bs.length-i) 0 ⟨aaf _,fun j h=>by omega⟩ ?_;rintro i ⟨hi,hj⟩ K1 J1;refine gC (fun z=>?_) (fun z=>?_)
 ·have ab:=aW z;obtain⟨b,hb⟩:=aJ ab;refine gi (ao hb) ?_;refine gc (hf i b hb hj) ?_;refine gC (fun z=>?_) (fun z=>?_)
  ·have h2:=iN z;refine af ?_;rw[jE ab hj h2];rfl
  have h2:=iC z;refine ga aF ?_;exact aG J1 (i+1) ⟨ab,fun j h9=>by rcases Z2 j i with g |g;exact hj j g;(have:j=i:=by omega);subst this;exact h2⟩
 have ab:=bt hi z;subst ab;refine af ?_;rw[jB hj];rfl
theorem Oa(o:Option Nat):aa .geq (jV o) 0=o.isSome:=by
 cases o with
 |none=>rfl
 |some i=>exact aa6 (by show(i:Int)>=0;omega)
theorem KF(bs:List Ac)(hl:bs.length<=281474976710656)(f:FuncId)(caps:List AV)(p:Ac->Bool)
  (hf:∀b∈bs,FP f ([aS b]++caps) (bl (p b))) :
  FP 51 [.lst 6 (bs.map aS),.cl f [] caps] (bl (bs.any p)):=by
 refine ai func51 ?_;refine gc (UB bs hl f [] caps (fun i=>!p (bs.getD i (0,0))) (fun i b hb _=>by rw[Zt,cI hb];exact hf b (ZR hb))) ?_;refine af ?_;rw[<- GZ bs (0,0) p,<- Oa];rfl
theorem RX{x y:Rat}(hx:Qs x)(hy:Qs y):FP 37 [qA y,.iptr (qA x).cells] (bl (decide (x=y))):=by
 refine ai func37 ?_;refine gc (eF hx hy) ?_;refine af ?_;rw[q5,show decide (x-y=0)=decide (x=y)from decide_eq_decide.2 ⟨fun h=>by grind,fun h=>by grind⟩];rfl
section
variable{b:Rat}{bs:List Rat}(hb:Qb 32 b)(i5:∀x∈bs,Qb 32 x)
include hb i5
theorem wM:∀y∈br b bs,Qb 132 y:=fun y hy=>by
 rcases uw.1 hy with rfl |⟨x,hx,rfl⟩
 ·exact Qb.zero.mono oz
 ·exact(mc ((i5 x hx).add hb)).mono oz
theorem FY{u:Rat}(hu:Qb 132 u):Qb 332 (fr (u-b)):=by
 have _:=i5;exact(mc (hu.sub hb)).mono oz
end
theorem Gk{f:Nat}{c:Rat}(h:Qb f c)(h1:1<=f):Po f [c,1] :=
 ⟨FT c, by simp, fun x hx => by
  simp only[aai,aap,or_false]at hx;rcases hx with rfl |rfl
  ·exact h
  ·exact Qb.one.mono h1⟩
theorem Jw{b x:Rat}{bs:List Rat}{i:Nat}(hx:bs[i]?=some x):(bs.take (i+1)).foldl (eU b) [0]=eU b ((bs.take i).foldl (eU b) [0]) x:=by
 rw[d7 hx,Yw];rfl
theorem Lr{b x:Rat}{acc:List Rat}(h:acc.any (fun y=>decide (fr (x+b)=y))=true):eU b acc x=acc:=aa2 h
theorem SG{b x:Rat}{acc:List Rat}(h:acc.any (fun y=>decide (fr (x+b)=y))=false):eU b acc x=acc++[fr (x+b)]:=aa1 (by rw[h];exact fun h=>by cases h)
theorem PZ{e:Nat}{bs:List Rat}{ps:LL}{b:Rat}(h:Lk 32 e bs ps)(h6:bs.length<=6)(hb:Qb 32 b)(hB:er e 400 9<=1000000000):Lk 132 1000000000 (br b bs) (dS b bs ps) where
 lc:=xp b bs
 len:=by unfold dS;rw[ZU]
 l7:=by have:=AY (b:=b) (bs:=bs);omega
 bq:=wM hb h.bq
 po:=fun p hp=>by
  unfold dS at hp;obtain⟨u,hu,rfl⟩:=Yr.1 hp;have n7:=wM hb h.bq u hu;have fg:=h.lc.pcx_lt (fy (u-b));have pJ:ps.getD (pcx bs (fr (u-b))) []∈ps:=ZR (kE (by have:=h.len;omega));have h9:=h.l9 _ pJ;refine⟨HL _ _,?_,?_⟩
  ·unfold ot;have:=m6 (q:=[fr (u-b)-bs.getD (pcx bs (fr (u-b))) 0,1]) (Z0 _) (ps.getD (pcx bs (fr (u-b))) []);omega
  ·unfold ot;have hl:=(Gk (((FY hb h.bq n7).sub (h.bq _ (l0 fg))).mono (show 332+32+1<=400 by omega)) oz).b;exact(yp hl (Z0 _) (h.po _ pJ).b).mono (aaj (xr e 400 h9) hB)
 l9:=fun p hp=>by
  unfold dS at hp;obtain⟨u,hu,rfl⟩:=Yr.1 hp;have fg:=h.lc.pcx_lt (fy (u-b));have pJ:ps.getD (pcx bs (fr (u-b))) []∈ps:=ZR (kE (by have:=h.len;omega));have h9:=h.l9 _ pJ;have:=m6 (q:=[fr (u-b)-bs.getD (pcx bs (fr (u-b))) 0,1]) (Z0 _) (ps.getD (pcx bs (fr (u-b))) []);unfold ot;omega
theorem Re{e:Nat}{bs:List Rat}{ps:LL}{b:Rat}(h:Lk 32 e bs ps)(h6:bs.length<=6)(he:e<=1000000)(hb:Qb 32 b)(hB:er e 400 9<=1000000000):FP 10 [jZ bs ps,qA b] (.tup [jZ (br b bs) (dS b bs ps),.v .nilIface]):=by
 have a6:=h.len;have mG:=hb.qs (show 32<=4398046511104 by omega);have i4:=AY (b:=b) (bs:=bs);refine ai func10 ?_;refine gc (p7 h oz oz) ?_;refine gf ?_;refine gc (jn mG) ?_;refine gf ?_ (6,2);refine gs (SV rfl (gn rfl) T25 rfl T24 rfl rfl rfl rfl rfl rfl rfl rfl) ?_ (7,0);refine gW (Wk.of (sl:=[pP 2 (.ptr 2 0),pP 3 (.ptr 3 0),pP 4 (.ptr 4 0),pP 7 (.ms 32 3 0 1)]) (hp:=[pP 2 (.box [nA bs,.lst 1 (ps.map nA)]),pP 3 (.box (qA b).cells),pP 4 (.box [nS,nS]),pP 32 (.row 3 ([(0:Rat)].map qA))]) aI (.k (.k (.k (.cons rfl (FO 1) .nil))))) ?_ (7,0);refine gW (Wk.rk (k:=32) (d:=900) rfl rfl) ?_;refine gl ?_;refine ek [2,3,4,34,35] [2,3,4] (fun(i:Nat)(acc:List Rat)=>[pP 7 (.ms 900 3 0 acc.length),pP 36 (i64 i)]) (fun _ acc=>[pP 900 (.row 3 (acc.map qA))]) (fun i acc=>i<=bs.length/\acc=(bs.take i).foldl (eU b) [0]/\acc.length<=i+1/\∀y∈acc,Qb 132 y) (fun i _=>bs.length-i) 0 ([0]) ⟨aaf _,rfl,Z0 _,fun y hy=>by rw[Z3]at hy;subst hy;exact Qb.zero.mono oz⟩ ?_;rintro i acc ⟨hi,I7,aT,cF⟩ K1 J1;refine gC (fun z=>?_) (fun z=>?_)
 ·have ab:=aW z;obtain ⟨x,hx⟩:=aJ ab;have sO:=h.bq x (ZR hx);have sP:=sO.add hb;have iy:=(mc sP).mono (show 32 + 32 + 1 + (32 + 32 + 1 + 1) + 1 <= 132 by omega);have aZ:=Jw (b:=b) hx;rw [<- I7] at aZ
  have j7:Con prog 36 [.ms 900 3 0 acc.length,.cl 37 [] [.iptr (qA (fr (x+b))).cells]] [pP 900 (.row 3 (acc.map qA))] (bl (acc.any fun y=>decide (fr (x+b)=y))) [pP 900 (.row 3 (acc.map qA))]:=by
   refine Con.borrow (args:=[nA acc,.cl 37 [] [.iptr (qA (fr (x+b))).cells]]) 900 3 (acc.map qA) rfl rfl rfl (fun j x' hj=>?_) rfl (fun k x h=>by cases h) (NF acc oz 37 [.iptr (qA (fr (x+b))).cells] (fun y=>decide (fr (x+b)=y)) fun y hy=>RX (iy.qs oz) ((cF y hy).qs oz))
   match j,hj with
   |0,hj=>cases hj;exact .inr ⟨0,acc.length,rfl,by rw[ZU];omega,by rw[aax,aag (by rw[ZU];omega)];rfl⟩
   |1,hj=>cases hj;exact .inl rfl
  refine gi (ao hx) ?_;refine gc (kF (sO.qs oz) mG) ?_;refine gc (zh sP oz) ?_;refine gf ?_ (77777,0);refine gW ((Wk.freezeB (k:=10) rfl rfl).trans<|Wk.o (sl:=[pP 2 (.ptr 2 0),pP 3 (.ptr 3 0),pP 4 (.ptr 4 0),pP 7 (.ms 900 3 0 acc.length),pP 10 (.iptr (qA (fr (x+b))).cells),pP 34 (nA bs),pP 35 (i64 bs.length),pP 36 (i64 i)]) (hp:=[pP 2 (.box [nA bs,.lst 1 (ps.map nA)]),pP 3 (.box (qA b).cells),pP 4 (.box [nS,nS]),pP 900 (.row 3 (acc.map qA))])) ?_
  refine gt (bF (Con.sA (.cons (.refl _) (.cons (oF rfl) .nil)) j7) (fJ rfl rfl) bW rfl rfl) ?_;refine gC (fun z=>?_) (fun z=>?_) (st1:=(14,2))
  ·have AU : (acc.any fun y => decide (fr (x + b) = y)) = false := by cases h9 : (acc.any fun y => decide (fr (x + b) = y)); rfl; rw [h9] at z; cases z
   rw[SG AU]at aZ
   first | (refine gs (ay (.tmp rfl) rfl rfl T24 rfl rfl rfl) ?_; trace "@@linkwork/law.Shift 14.1 ay") | (refine go ?_; trace "@@linkwork/law.Shift 14.1 s_auto")
   refine gs (cU (.tmp rfl) rfl (by rw[ZU]) (.tmp rfl) T25 rfl T24 rfl rfl (by simp only[Z7,aan];omega) rfl rfl) ?_ (15,0);refine gW (Wk.of (sl:=[pP 2 (.ptr 2 0),pP 3 (.ptr 3 0),pP 4 (.ptr 4 0),pP 34 (nA bs),pP 35 (i64 bs.length),pP 36 (i64 i),pP 7 (.ms 58 3 0 (acc++[fr (x+b)]).length)]) (hp:=[pP 2 (.box [nA bs,.lst 1 (ps.map nA)]),pP 3 (.box (qA b).cells),pP 4 (.box [nS,nS]),pP 58 (.row 3 ((acc++[fr (x+b)]).map qA))]) (.k (.k (.k (.k (.k (.k (.cons rfl (.of (by rw[aah];rfl)) .nil))))))) (.k (.k (.k (.cons rfl (.of (by rw[aas];rfl)) .nil))))) ?_ (15,0)
   refine gW (Wk.rk (k:=58) (d:=900) rfl rfl) ?_;refine ga aF ?_;exact dt J1 (i+1) (acc++[fr (x+b)]) ⟨ab,aZ.symm,by rw[aah];show acc.length+1<=_;omega,fun y hy=>by rcases ZY.1 hy with hy |hy;exact cF y hy;rw[Z3]at hy;subst hy;exact iy⟩
  have AU:(acc.any fun y=>decide (fr (x+b)=y))=true:=by cases h9:(acc.any fun y=>decide (fr (x+b)=y));rw[h9]at z;cases z;rfl
  rw[Lr AU]at aZ;refine ga aF ?_;exact dt J1 (i+1) acc ⟨ab,aZ.symm,by omega,cF⟩
 have ab:=bt hi z;subst ab;have hk:acc=oq b bs:=by rw[I7,aab];rfl
 subst hk;refine gC (fun z=>?_) (fun z=>?_) (st1:=(17,0));exact aa8 (bG (b:=16) z) oz;refine gt (bF (Con.sA (.cons (.refl _) (.cons ((Sub.fn0 _).trans (oF rfl)) .nil)) (Con.rk 900 rfl rfl (S5 (oq b bs) oz 13 fun a ha c hc=>eF ((cF a ha).qs oz) ((cF c hc).qs oz)))) (.cons (.tmp rfl) (.cons (.func _) .nil)) bW rfl rfl) ?_ (19,0);refine gW ((Wk.freeze (k:=900) rfl).trans<|Wk.of (sl:=[pP 2 (.ptr 2 0),pP 3 (.ptr 3 0),pP 4 (.ptr 4 0),pP 7 (nA (br b bs))]) (hp:=[pP 2 (.box [nA bs,.lst 1 (ps.map nA)]),pP 3 (.box (qA b).cells),pP 4 (.box [nS,nS])]) (.k (.k (.k (.cons rfl (.of (by show AV.fz 900 3 _ (.ms 900 3 0 (oq b bs).length)=_;rw[bH (by rw[ZU,(je _ _).length_eq])];rfl)) .nil)))) (.k (.k (.k .nil)))) ?_
 refine gl ?_;refine gW (Wk.virt 901 1 rfl) ?_;refine aK [2,3,4,12,69,70] [2,3,4] (fun(j:Nat)=>[pP 71 (i64 j)]) (fun j=>[pP 12 (.box [nA (br b bs),.ms 901 1 0 j]),pP 901 (.row 1 (((dS b bs ps).take j).map nA))]) (fun j=>j<=(br b bs).length) (fun j=>(br b bs).length-j) 0 (aaf _) ?_ (h2:=(.cons rfl (BlkSub.bL (.cons (.refl _) (.cons (Sub.nM _ _ _) .nil)) rfl) (.k .nil)));rintro j hj K2 J2;refine gC (fun z=>?_) (fun z=>?_) (st2:=(33,0))
 ·have eR:=aW z;obtain ⟨u,hu⟩:=aJ eR;have n7:=wM hb h.bq u (ZR hu);have iy:=FY hb h.bq n7;have fg:=h.lc.pcx_lt (fy (u - b));have I8:=dD (l:=bs) fg;have n8:=kE (l:=ps) (show pcx bs (fr (u - b)) < ps.length by omega);have gy:=h.bq _ (ZR I8);have mD:=(iy.sub gy).mono (show 332 + 32 + 1 <= 400 by omega);have I9:=Gk mD oz
  have WE:FP 41 [nA [fr (u-b)-bs.getD (pcx bs (fr (u-b))) 0,1]] (nA [fr (u-b)-bs.getD (pcx bs (fr (u-b))) 0,1]):=by
   have h9:=qc [fr (u-b)-bs.getD (pcx bs (fr (u-b))) 0,1] (fun x hx=>(I9.b x hx).qs oz) (by simp)
   rwa [show ptr [fr (u-b)-bs.getD (pcx bs (fr (u-b))) 0,1]=[fr (u-b)-bs.getD (pcx bs (fr (u-b))) 0,1]from FT _]at h9
  have WF:(dS b bs ps)[j]?=some (ot b bs ps u):=by unfold dS;rw[ZZ,hu];rfl
  refine gi (ao hu) ?_;refine gc (lW (n7.qs oz) mG) ?_;refine gc (zh (n7.sub hb) oz) ?_;refine gf ?_;refine gc (G0 h.lc h.l7 h.bq oz ps (fy (u-b)) (iy.qs oz)) ?_;refine gi (ao I8) ?_;refine gc (lW (iy.qs oz) (gy.qs oz)) ?_;refine gc z4 ?_;refine gc WE ?_;refine gD ?_;refine gi (ao n8) ?_;refine gc (Tu (h.po _ (ZR n8)) I9 (h.l9 _ (ZR n8)) rfl he oz hB) ?_;refine gf ?_;refine gs (cU (.tmp rfl) rfl (by rw[ZU,aao];unfold dS;rw[ZU];omega) (.tmp rfl) T26 rfl T35 rfl rfl (by simp only[Z7,aan];omega) rfl rfl) ?_ (32,0);refine gW (Wk.of (sl:=[pP 2 (.ptr 2 0),pP 3 (.ptr 3 0),pP 4 (.ptr 4 0),pP 12 (.ptr 12 0),pP 69 (nA (br b bs)),pP 70 (i64 (br b bs).length),pP 71 (i64 j)]) (hp:=[pP 2 (.box [nA bs,.lst 1 (ps.map nA)]),pP 3 (.box (qA b).cells),pP 4 (.box [nS,nS]),pP 12 (.box [nA (br b bs),.ms 117 1 0 (j+1)]),pP 117 (.row 1 (((dS b bs ps).take (j+1)).map nA))]) aI (.k (.k (.k (.k (.cons rfl (.of (by rw[d7 WF,aas];rfl)) .nil)))))) ?_ (32,0)
  refine gW (Wk.rk (k:=117) (d:=901) rfl rfl) ?_;refine ga aF ?_;exact aG J2 (j+1) eR
 have eR:=bt hj z;subst eR;refine gW ((Wk.freeze (k:=901) rfl).trans<|Wk.of (sl:=[pP 4 (.ptr 4 0),pP 12 (.ptr 12 0)]) (hp:=[pP 4 (.box [nS,nS]),pP 12 (.box [nA (br b bs),.lst 1 ((dS b bs ps).map nA)])]) aI (.k (.cons rfl (BlkSub.bL (.cons (.refl _) (.cons (.of (by rw[bH (by rw[ZU,aao];unfold dS;rw[ZU];omega),aag (by unfold dS;rw[ZU];omega)])) .nil)) rfl) .nil))) ?_;refine bh ?_
 first |rfl |(simp;done)
structure Aq(e:Nat)(a:Ac):Prop where
  x:Qb e a.1
  y:Qb e a.2
theorem Aq.mono{e f:Nat}{a:Ac}(h:Aq e a)(hf:e<=f):Aq f a:=⟨h.x.mono hf,h.y.mono hf⟩
theorem O3{P:abe}{f:FuncId}{sz:Nat}{r:AV}{H H':Hp}(h:∀(a:Option Addr)(cap:Nat),Con P f [.v (.slice a 0 cap)] H r H'):Con P f [.lst sz []] H r H' :=
 ⟨(h none 0).ok,fun ext m w vs he hr hn hv=>by
  have gB:vs.size=1:=hn;have h0:=hv 0 vs[0] (.lst sz []) (by simp[gB]) rfl
  have hy:∃a cap,vs[0]=.slice a 0 cap:=by
   generalize vs[0]=y at h0;cases h0 with
   |lst0 a cap=>exact⟨_,_,rfl⟩
   |lst u hb hc hl hs h1 hu aE=>exact⟨_,_,rfl⟩
  obtain⟨a,cap,hy⟩:=hy;refine(h a cap).ret ext m w vs he hr hn (fun j v x fi hx=>?_)
  match j,hx with
  |0,hx =>
   cases hx;have:v=.slice a 0 cap:=by rw[<- hy];have:=Array.getElem?_eq_some_iff.1 fi;exact this.2.symm
   subst this;exact .v _⟩
theorem O9{p q:Rat}(h0:0<=p)(h1:q<=1)(h2:p<q)(h:cond (cond (cond (cond false true false) true (aa .lss (asQ p) 0)) true (aa .gtr (asQ (q-1)) 0)) true (aa .geq (asQ (p-q)) 0)=true):False:=by
 have h:cond (cond (aa .lss (asQ p) 0) true (aa .gtr (asQ (q-1)) 0)) true (aa .geq (asQ (p-q)) 0)=true:=h;rw[lQ,qn,oc,aa7 (show ¬p<0 by grind),aa7 (show ¬0<q-1 by grind),aa7 (show ¬0<=p-q by grind)]at h;cases h
abbrev dr(l:List Ac):AV:=.lst 6 (l.map aS)
theorem ya{e:Nat}(ls:List (List Ac))(hl:ls.length<=1000)(h:∀l∈ls,l.length<=64/\∀a∈l,fo a/\Aq e a)(he:e<=1000000):FP 44 [.lst 1 (ls.map dr)] (be 0):=by
 refine ai func44 ?_ (1,2)
 first | (refine go ?_; refine gl ?_; trace "@@linkwork/chart.check 1.1 oh") | (refine go ?_; refine ge rfl ?_; trace "@@linkwork/chart.check 1.1 k6") | (refine go ?_; trace "@@linkwork/chart.check 1.1 s_auto")
 refine aK [7,8] [] (fun(i:Nat)=>[pP 9 (i64 i)]) (fun _=>[]) (fun i=>i<=ls.length) (fun i=>ls.length-i) 0 (aaf _) ?_;rintro i hi K1 J1;refine gC (fun z=>?_) (fun z=>?_)
 ·have ab:=aW z;obtain⟨l,aw⟩:=aJ ab;obtain⟨Xo,gK⟩:=h l (ZR aw);refine gi (ao aw) ?_ (3,2)
  first | (refine gs (ay (.tmp rfl) rfl rfl T36 rfl rfl rfl) ?_ (4, 2); trace "@@linkwork/chart.check 3.1 ay") | (refine go ?_ (4, 2); trace "@@linkwork/chart.check 3.1 s_auto")
  first | (refine go ?_; refine gl ?_; trace "@@linkwork/chart.check 4.1 oh") | (refine go ?_; refine ge rfl ?_; trace "@@linkwork/chart.check 4.1 k6") | (refine go ?_; trace "@@linkwork/chart.check 4.1 s_auto")
  refine gC (fun z=>?_) (fun z=>?_) (st1:=(5,0)) (st2:=(6,2));exact aa8 (bG (b:=64) z) oz
  first | (refine go ?_; refine gl ?_; trace "@@linkwork/chart.check 6.1 oh") | (refine go ?_; refine ge rfl ?_; trace "@@linkwork/chart.check 6.1 k6") | (refine go ?_; trace "@@linkwork/chart.check 6.1 s_auto")
  refine aK [7,8,9,17,18] [] (fun(j:Nat)=>[pP 19 (i64 j)]) (fun _=>[]) (fun j=>j<=l.length) (fun j=>l.length-j) 0 (aaf _) ?_;rintro j hj K2 J2;refine gC (fun z=>?_) (fun z=>?_)
  ·have eR:=aW z;obtain ⟨a,ha⟩:=aJ eR;obtain ⟨ko,cF⟩:=gK a (ZR ha);have iw:=cF.x.qs (show e <= 4398046511104 by omega);have i3:=cF.y.qs (show e <= 4398046511104 by omega);refine gi (ao ha) ?_ (8,2)
   first | (refine gs (ay (.tmp rfl) rfl rfl T47 rfl rfl rfl) ?_ (8, 4); trace "@@linkwork/chart.check 8.1 ay") | (refine go ?_ (8, 4); trace "@@linkwork/chart.check 8.1 s_auto")
   first | (refine gs (bJ (.tmp rfl) rfl rfl rfl (.tmp rfl) rfl rfl T47 rfl rfl) ?_ (9, 2); trace "@@linkwork/chart.check 8.3 bJ") | (refine gs (gN (.tmp rfl) rfl rfl (.tmp rfl) rfl rfl T47 rfl rfl rfl) ?_ (9, 2); trace "@@linkwork/chart.check 8.3 gN") | (refine go ?_ (9, 2); trace "@@linkwork/chart.check 8.3 s_auto")
   first | (refine gs (ay (.tmp rfl) rfl rfl T24 rfl rfl rfl) ?_; trace "@@linkwork/chart.check 9.1 ay") | (refine go ?_; trace "@@linkwork/chart.check 9.1 s_auto")
   refine gc (jn iw) ?_ (9,7)
   first | (refine gs (bB rfl rfl rfl (fun h => ay (.opt rfl (o1 h)) rfl rfl T24 rfl rfl rfl)) ?_; trace "@@linkwork/chart.check 9.6 ay") | (refine go ?_; trace "@@linkwork/chart.check 9.6 s_auto")
   refine aO (fun _=>(jn i3)) ?_ (9,13)
   first | (refine gs (bB rfl rfl rfl (fun h => ay (.opt rfl (o1 h)) rfl rfl T24 rfl rfl rfl)) ?_; trace "@@linkwork/chart.check 9.12 ay") | (refine go ?_; trace "@@linkwork/chart.check 9.12 s_auto")
   refine aO (fun _=>(jd iw)) ?_ (9,19)
   first | (refine gs (bB rfl rfl rfl (fun h => ay (.opt rfl (o1 h)) rfl rfl T24 rfl rfl rfl)) ?_; trace "@@linkwork/chart.check 9.18 ay") | (refine go ?_; trace "@@linkwork/chart.check 9.18 s_auto")
   refine aO (fun _=>wj) ?_;refine aO (fun _=>(eF i3 (Qb.one.qs oz))) ?_ (9,26)
   first | (refine gs (bB rfl rfl rfl (fun h => ay (.opt rfl (o1 h)) rfl rfl T24 rfl rfl rfl)) ?_ (9, 28); trace "@@linkwork/chart.check 9.25 ay") | (refine go ?_ (9, 28); trace "@@linkwork/chart.check 9.25 s_auto")
   first | (refine gs (bB rfl rfl rfl (fun h => ay (.opt rfl (o1 h)) rfl rfl T24 rfl rfl rfl)) ?_; trace "@@linkwork/chart.check 9.27 ay") | (refine go ?_; trace "@@linkwork/chart.check 9.27 s_auto")
   refine aO (fun _=>(eF iw i3)) ?_;refine gD ?_;refine gC (fun z=>?_) (fun z=>?_) (st1:=(10,0));exact(O9 ko.1 ko.2.2 ko.2.1 z).elim;refine ga aF ?_;exact aG J2 (j+1) eR
  refine ga aF ?_;exact aG J1 (i+1) ab
 refine af ?_
 first |rfl |(simp;done)
theorem P8{p q:Rat}(hp:Qs p)(hq:Qs q):FP 102 [qA p,qA q] (aS (p,q)):=by
 refine ai func102 ?_ (1,1)
 first | (refine gs (ay (.tmp rfl) rfl rfl T24 rfl rfl rfl) ?_; trace "@@linkwork/chart.own 1.0 ay") | (refine go ?_; trace "@@linkwork/chart.own 1.0 s_auto")
 refine gc (jS hp) ?_ (1,4)
 first | (refine gs (ay (.tmp rfl) rfl rfl T24 rfl rfl rfl) ?_; trace "@@linkwork/chart.own 1.3 ay") | (refine go ?_; trace "@@linkwork/chart.own 1.3 s_auto")
 refine gc (jS hq) ?_ (1,8)
 first | (refine gs (bJ (.tmp rfl) rfl rfl rfl (.tmp rfl) rfl rfl T47 rfl rfl) ?_; trace "@@linkwork/chart.own 1.7 bJ") | (refine gs (gN (.tmp rfl) rfl rfl (.tmp rfl) rfl rfl T47 rfl rfl rfl) ?_; trace "@@linkwork/chart.own 1.7 gN") | (refine go ?_; trace "@@linkwork/chart.own 1.7 s_auto")
 refine gD ?_;refine af ?_
 first |rfl |(simp;done)
theorem LI{a b:Ac}(ha:Qs a.1)(hb:Qs b.1):FP 100 [aS a,aS b] (i64 (asQ (bS a-bS b))):=by
 refine ai func100 ?_ (1,2)
 first | (refine gs (ay (.tmp rfl) rfl rfl T24 rfl rfl rfl) ?_ (1, 4); trace "@@linkwork/chart.norm$1 1.1 ay") | (refine go ?_ (1, 4); trace "@@linkwork/chart.norm$1 1.1 s_auto")
 first | (refine gs (ay (.tmp rfl) rfl rfl T24 rfl rfl rfl) ?_; trace "@@linkwork/chart.norm$1 1.3 ay") | (refine go ?_; trace "@@linkwork/chart.norm$1 1.3 s_auto")
 refine gc (eF ha hb) ?_;refine af ?_;rfl
theorem OO(e:AV)(es:List AV)(hc:∀x∈e::es,x.cells.length=6)(hl:(e::es).length<=1000):Con prog 98 [.lst 6 (e::es)] [] (.ms 900 6 0 (e::es).length) [pP 900 (.row 6 (e::es))]:=by
 refine gF func98 (fun k z h=>by cases h) ?_;refine gs (Tm (.tmp rfl) (by kernel_rfl) rfl) ?_;refine gf ?_;refine gs (kP T36 rfl T47 rfl rfl rfl) ?_;refine gs (cU (.tmp rfl) rfl rfl (.tmp rfl) T36 rfl T47 rfl rfl (by simp only[];omega) rfl rfl) ?_ (77777,0);refine gW (Wk.of (sl:=[pP 2 (.ms 7 6 0 (e::es).length)]) (hp:=[pP 7 (.row 6 (e::es))]) (.cons rfl (.of (aa9 (AV.ms 7 6 0) (XF _))) .nil) (.k .nil)) ?_;refine gR ?_;exact aM.own1 rfl rfl rfl
theorem K8(a:Option Addr)(cap:Nat):Con prog 98 [.v (.slice a 0 cap)] [] (.ms 900 6 0 0) [pP 900 (.row 6 [])]:=by
 refine gF func98 (fun k z h=>by cases h) ?_;refine gs (Q2 (.tmp rfl) (by kernel_rfl) rfl) ?_;refine gC (fun y=>?_) (fun y=>?_) (st1:=(2,0)) (st2:=(77777,0))
 ·refine gW ((Wk.virt 900 6 rfl).trans<|Wk.o (sl:=[]) (hp:=[pP 900 (.row 6 [])])) ?_;refine gR ?_;exact(aM.keep (BT rfl)).sub (Sub.nM _ _ _)
 refine gW (Wk.of (sl:=[pP 0 (.lst 6 [])]) (hp:=[]) (.cons rfl (Sub.nil _ _ _) .nil) .nil) ?_;refine gs (kP T36 rfl T47 rfl rfl rfl) ?_;refine gs (cU (.tmp rfl) rfl rfl (.tmp rfl) T36 rfl T47 rfl rfl (by simp) rfl rfl) ?_ (77777,0);refine gW (Wk.o (sl:=[pP 2 (.ms 7 6 0 0)]) (hp:=[pP 7 (.row 6 [])])) ?_;refine gR ?_;exact aM.own1 rfl rfl rfl
theorem NE(l:List Ac)(hl:l.length<=1000):Con prog 98 [dr l] [] (.ms 900 6 0 l.length) [pP 900 (.row 6 (l.map aS))]:=by
 cases l with
 |nil=>exact O3 K8
 |cons a l =>
  have h:=OO (aS a) (l.map aS) (fun x hx=>by
   rcases aai.1 hx with rfl |hx
   ·rfl
   ·obtain⟨y,_,rfl⟩:=Yr.1 hx;rfl) (by rw[Z7,ZU];simpa using hl)
  rw[Z7,ZU]at h;exact h
theorem Ur{out:List Ac}{a b:Ac}(hb:out[out.length-1]?=some b)(h:a.1<=b.2):cO out a=out.set (out.length-1) (b.1,mxR b.2 a.2):=by
 unfold cO;rw[YF,hb];exact aa2 h
theorem QZ{out:List Ac}{a b:Ac}(hb:out[out.length-1]?=some b)(h:¬a.1<=b.2):cO out a=out++[a]:=by
 unfold cO;rw[YF,hb];exact aa1 h
theorem EW{out:List Ac}{a:Ac}(h:out.length=0):cO out a=out++[a]:=by
 rw[Yo.1 h];rfl
theorem QM{n:Nat}{p q:Rat}(h:cond (aa .gtr (n:Int) 0) (aa .leq (asQ (p-q)) 0) false=true):0<n/\p<=q:=by
 cases h1:aa .gtr (n:Int) 0 <;> rw[h1]at h
 ·cases h
 ·have h2:aa .leq (asQ (p-q)) 0=true:=h;rw[gP]at h2;have:=aa4 h2;exact⟨bG (b:=0) h1,by grind⟩
theorem Uo{n:Nat}{p q:Rat}(h:cond (aa .gtr (n:Int) 0) (aa .leq (asQ (p-q)) 0) false=false):n=0\/¬p<=q:=by
 cases h1:aa .gtr (n:Int) 0 <;> rw[h1]at h
 ·have:=jq (b:=0) h1;omega
 ·have h2:aa .leq (asQ (p-q)) 0=false:=h;rw[gP]at h2;have:=aa5 h2;exact .inr (by grind)
theorem Aq.mxR{e:Nat}{p q:Rat}(hp:Qb e p)(hq:Qb e q):Qb e (Lw.mxR p q):=by unfold Lw.mxR;split;exact hp;exact hq
theorem PF{s:List Ac}{a:Ac}{i:Nat}(hx:s[i]?=some a):(s.take (i+1)).foldl cO []=cO ((s.take i).foldl cO []) a:=by
 rw[d7 hx,Yw];rfl
theorem xi(l:List Ac):fM l=(ce bS l).foldl cO []:=rfl
theorem H7{e:Nat}(l:List Ac)(hl:l.length<=12)(hq:∀a∈l,Aq e a)(he:e<=1000000):FP 45 [dr l] (dr (fM l)):=by
 have iu:(ce bS l).length=l.length:=(je bS l).length_eq;have WG:∀a∈ce bS l,Aq e a:=fun a ha=>hq a ((je bS l).mem_iff.1 ha)
 refine ai func45 ?_;refine gt (bF (NE l oz) (gn rfl) bW rfl rfl) ?_;refine gt (bF (Con.sA (.cons (.refl _) (.cons ((Sub.fn0 _).trans (oF rfl)) .nil)) (Con.rk 900 rfl rfl (TU l hl 100 fun a ha b hb=>LI ((hq a ha).x.qs oz) ((hq b hb).x.qs oz)))) (.cons (.tmp rfl) (.cons (.func _) .nil)) bW rfl rfl) ?_ (3,0);refine gW ((Wk.freeze (k:=900) rfl).trans<|Wk.of (sl:=[pP 0 (dr (ce bS l))]) (hp:=[]) (.cons rfl (.of (by show AV.fz 900 6 _ (.ms 900 6 0 l.length)=_;rw[bH (by rw[ZU,iu])])) .nil) .nil) ?_ (4,2)
 first | (refine go ?_; refine gl ?_; trace "@@linkwork/chart.norm 4.1 oh") | (refine go ?_; refine ge rfl ?_; trace "@@linkwork/chart.norm 4.1 k6") | (refine go ?_; trace "@@linkwork/chart.norm 4.1 s_auto")
 refine gW (Wk.virt 901 6 rfl) ?_;refine ek [11,12] [] (fun(i:Nat)(out:List Ac)=>[pP 3 (.ms 901 6 0 out.length),pP 13 (i64 i)]) (fun _ out=>[pP 901 (.row 6 (out.map aS))]) (fun i out=>i<=(ce bS l).length/\out=((ce bS l).take i).foldl cO []/\out.length<=i/\∀a∈out,Aq e a) (fun i _=>(ce bS l).length-i) 0 ([]) ⟨aaf _,rfl,Z0 _,fun a ha=>by cases ha⟩ ?_ (h1:=(.cons rfl (Sub.nM _ _ _) (.k .nil)));rintro i out ⟨hi,ho,ir,oa⟩ K1 J1;refine gC (fun z=>?_) (fun z=>?_) (st2:=(12,0))
 ·have ab:=aW z;obtain⟨a,ha⟩:=aJ ab;have cF:=WG a (ZR ha);have aZ:=PF ha;rw[<- ho]at aZ
  obtain⟨b,hb,mG⟩:∃b:Ac,(0<out.length->out[out.length-1]?=some b)/\Aq (e+1) b:=by
   by_cases h0:0<out.length
   ·obtain⟨b,hb⟩:=aJ (l:=out) (i:=out.length-1) oz;exact⟨b,fun _=>hb,(oa b (ZR hb)).mono oz⟩
   ·exact⟨(0,0),fun h=>aa8 h h0,⟨Qb.zero.mono oz,Qb.zero.mono oz⟩⟩
  refine gi (ao ha) ?_ (6,2)
  first | (refine gs (ay (.tmp rfl) rfl rfl T47 rfl rfl rfl) ?_ (6, 4); trace "@@linkwork/chart.norm 6.1 ay") | (refine go ?_ (6, 4); trace "@@linkwork/chart.norm 6.1 s_auto")
  first | (refine gs (bJ (.tmp rfl) rfl rfl rfl (.tmp rfl) rfl rfl T47 rfl rfl) ?_ (7, 2); trace "@@linkwork/chart.norm 6.3 bJ") | (refine gs (gN (.tmp rfl) rfl rfl (.tmp rfl) rfl rfl T47 rfl rfl rfl) ?_ (7, 2); trace "@@linkwork/chart.norm 6.3 gN") | (refine go ?_ (7, 2); trace "@@linkwork/chart.norm 6.3 s_auto")
  first | (refine go ?_; refine gl ?_ (8, 5); trace "@@linkwork/chart.norm 7.1 oh") | (refine go ?_; refine ge rfl ?_ (8, 5); trace "@@linkwork/chart.norm 7.1 k6") | (refine go ?_ (8, 5); trace "@@linkwork/chart.norm 7.1 s_auto")
  first | (refine gs (bB rfl rfl rfl (fun h => ay (.opt rfl (o1 h)) rfl rfl T24 rfl rfl rfl)) ?_; trace "@@linkwork/chart.norm 8.4 ay") | (refine go ?_; trace "@@linkwork/chart.norm 8.4 s_auto")
  refine fD (fun h=>(bZ (bG (b:=0) h) (by unfold an;omega))) ?_ (8,9)
  first | (refine gs (bB rfl rfl rfl (fun h => aP (n := (out.length - 1)) (.opt rfl (o1 h)) (.opt rfl (o1 h)) T36 rfl T47 rfl oz (by have := bG (b := 0) h; omega) rfl)) ?_; trace "@@linkwork/chart.norm 8.8 aP") | (refine gs (bB rfl rfl rfl (fun h => f6 (n := (out.length - 1)) (.opt rfl (o1 h)) (.opt rfl (o1 h)) T36 rfl T47 rfl oz (by have := bG (b := 0) h; omega) rfl)) ?_; trace "@@linkwork/chart.norm 8.8 f6") | (refine go ?_; refine fL (fun h => (d9 (n := (out.length - 1)) oz (by have := bG (b := 0) h; omega))) ?_; trace "@@linkwork/chart.norm 8.8 rA")
  refine gs (bB rfl rfl rfl (fun h=>ay (.opt rfl (o1 h)) rfl (ao (hb (bG (b:=0) h))) T24 rfl rfl rfl)) ?_;refine aO (fun _=>(eF (cF.x.qs oz) (mG.y.qs oz))) ?_;refine gD ?_;refine gC (fun t32=>?_) (fun t32=>?_) (st2:=(10,3))
  ·obtain ⟨d5, aU⟩:=QM t32;have i4:=hb d5;have j7:=oa b (ZR i4);rw [Ur i4 aU] at aZ;refine ga (bZ d5 (by unfold an; omega)) ?_;refine ga (bZ d5 (by unfold an; omega)) ?_ (9,7)
   first | (refine gs (aP (n := (out.length - 1)) (.tmp rfl) (.tmp rfl) T36 rfl T47 rfl oz oz rfl) ?_; trace "@@linkwork/chart.norm 9.6 aP") | (refine gs (f6 (n := (out.length - 1)) (.tmp rfl) (.tmp rfl) T36 rfl T47 rfl oz oz rfl) ?_; trace "@@linkwork/chart.norm 9.6 f6") | (refine go ?_; refine gi (d9 (n := (out.length - 1)) oz oz) ?_; trace "@@linkwork/chart.norm 9.6 rA")
   refine gs (ay (.tmp rfl) rfl (ao i4) T24 rfl rfl rfl) ?_ (9,11)
   first | (refine gs (ay (.tmp rfl) rfl rfl T24 rfl rfl rfl) ?_; trace "@@linkwork/chart.norm 9.10 ay") | (refine go ?_; trace "@@linkwork/chart.norm 9.10 s_auto")
   refine gc (Dy (j7.y.qs oz) (cF.y.qs oz)) ?_ (9,13)
   first | (refine gs (aP (n := (out.length - 1)) (.tmp rfl) (.tmp rfl) T36 rfl T47 rfl oz oz rfl) ?_ (9, 15); trace "@@linkwork/chart.norm 9.12 aP") | (refine gs (f6 (n := (out.length - 1)) (.tmp rfl) (.tmp rfl) T36 rfl T47 rfl oz oz rfl) ?_ (9, 15); trace "@@linkwork/chart.norm 9.12 f6") | (refine go ?_; refine gi (d9 (n := (out.length - 1)) oz oz) ?_ (9, 15); trace "@@linkwork/chart.norm 9.12 rA")
   refine gs (gN (e:=aS b) (e':=aS (b.1,mxR b.2 a.2)) (.tmp rfl) rfl (ao i4) (.tmp rfl) rfl rfl T24 rfl rfl rfl) ?_;refine gD ?_ (77777,0);refine gW (Wk.of (sl:=[pP 3 (.ms 901 6 0 (out.set (out.length-1) (b.1,mxR b.2 a.2)).length),pP 11 (dr (ce bS l)),pP 12 (i64 (ce bS l).length),pP 13 (i64 i)]) (hp:=[pP 901 (.row 6 ((out.set (out.length-1) (b.1,mxR b.2 a.2)).map aS))]) (.cons rfl (.of (by rw[aa0])) (.k (.k (.k .nil)))) (.cons rfl (.of (by rw[aaw])) .nil)) ?_;refine ga aF ?_;exact dt J1 (i+1) (out.set (out.length-1) (b.1,mxR b.2 a.2)) ⟨ab,aZ.symm,by rw[aa0];omega,fun c hc=>by rcases Yi hc with hc |rfl;exact oa c hc;exact⟨j7.x,Aq.mxR j7.y cF.y⟩⟩
  have WH:cO out a=out++[a]:=by
   rcases Uo t32 with h9 |h9
   ·exact EW h9
   ·by_cases h0:0<out.length
    ·exact QZ (hb h0) h9
    ·exact EW oz
  rw[WH]at aZ
  first | (refine gs (ay (.tmp rfl) rfl rfl T24 rfl rfl rfl) ?_ (10, 5); trace "@@linkwork/chart.norm 10.2 ay") | (refine go ?_ (10, 5); trace "@@linkwork/chart.norm 10.2 s_auto")
  first | (refine gs (ay (.tmp rfl) rfl rfl T24 rfl rfl rfl) ?_; trace "@@linkwork/chart.norm 10.4 ay") | (refine go ?_; trace "@@linkwork/chart.norm 10.4 s_auto")
  refine gc (P8 (cF.x.qs oz) (cF.y.qs oz)) ?_;refine gs (cU (.tmp rfl) rfl (by rw[ZU]) (.tmp rfl) T36 rfl T47 rfl rfl (by simp only[Z7,aan];omega) rfl rfl) ?_ (11,0);refine gW (Wk.of (sl:=[pP 11 (dr (ce bS l)),pP 12 (i64 (ce bS l).length),pP 13 (i64 i),pP 3 (.ms 54 6 0 (out++[a]).length)]) (hp:=[pP 54 (.row 6 ((out++[a]).map aS))]) (.k (.k (.k (.cons rfl (.of (by rw[aah];rfl)) .nil)))) (.cons rfl (.of (by rw[aas];rfl)) .nil)) ?_ (11,0);refine gW (Wk.rk (k:=54) (d:=901) rfl rfl) ?_;refine ga aF ?_;exact dt J1 (i+1) (out++[a]) ⟨ab,aZ.symm,by rw[aah];show out.length+1<=_;omega,fun c hc=>by rcases ZY.1 hc with hc |hc;exact oa c hc;rw[Z3]at hc;subst hc;exact cF⟩
 have ab:=bt hi z;subst ab;have p4:out=fM l:=by rw[xi,ho,aab]
 subst p4;refine gW ((Wk.freeze (k:=901) rfl).trans<|Wk.of (sl:=[pP 3 (dr (fM l))]) (hp:=[]) (.cons rfl (.of (bH (by rw[ZU]))) .nil) .nil) ?_;refine af ?_;rfl
theorem ET:∀(l out:List Ac),(l.foldl cO out).length<=out.length+l.length
 |[],out=>Z0 _
 |a::l,out=>by
  have h1:=ET l (cO out a)
  have h2:(cO out a).length<=out.length+1:=by
   unfold cO;split
   ·split
    ·rw[aa0];omega
    ·rw[aah];exact Z0 _
   ·rw[aah];exact Z0 _
  rw[YQ,Z7];omega
theorem C6(l:List Ac):(fM l).length<=l.length:=by
 have h:=ET (ce bS l) [];rw[(je bS l).length_eq]at h;rw[xi];simpa using h
theorem CM{e:Nat}:∀(l out:List Ac),(∀a∈l,Aq e a)->(∀a∈out,Aq e a)->∀a∈l.foldl cO out,Aq e a
 |[],out,_,h=>h
 |a::l,out,hl,h=>CM l (cO out a) (fun c hc=>hl c (Z8 _ hc)) (fun c hc=>by
  have ha:=hl a (aaa ..);unfold cO at hc;split at hc
  ·rename_i b hb;have p5:=h b (List.mem_of_getLast? hb);split at hc
   ·rcases Yi hc with hc |rfl
    ·exact h c hc
    ·exact⟨p5.x,Aq.mxR p5.y ha.y⟩
   ·rcases ZY.1 hc with hc |hc
    ·exact h c hc
    ·rw[Z3]at hc;subst hc;exact ha
  ·rcases ZY.1 hc with hc |hc
   ·exact h c hc
   ·rw[Z3]at hc;subst hc;exact ha)
theorem MV{e:Nat}{l:List Ac}(h:∀a∈l,Aq e a):∀a∈fM l,Aq e a:=by
 rw[xi];exact CM _ [] (fun a ha=>h a ((je bS l).mem_iff.1 ha)) (fun a ha=>by cases ha)
theorem JY(l:List Ac)(hl:l.length<=64):FP 48 [dr l] (.tup [dr l,.v .nilIface]):=by
 refine ai func48 ?_ (1,2)
 first | (refine go ?_; refine gl ?_; trace "@@linkwork/chart.limited 1.1 oh") | (refine go ?_; refine ge rfl ?_; trace "@@linkwork/chart.limited 1.1 k6") | (refine go ?_; trace "@@linkwork/chart.limited 1.1 s_auto")
 refine gC (fun z=>?_) (fun z=>?_) (st1:=(2,0));exact aa8 (bG (b:=64) z) oz;refine bh ?_
 first |rfl |(simp;done)
theorem MK{e:Nat}(l:List Ac)(hl:l.length<=12)(hq:∀a∈l,fo a/\Aq e a)(he:e<=1000000):FP 11 [dr l] (.tup [dr (fM l),.v .nilIface]):=by
 have n5:FP 44 [.lst 1 [dr l]] (be 0):=ya [l] (by simp) (fun m hm=>by rw[Z3]at hm;subst hm;exact⟨by omega,hq⟩) he;refine ai func11 ?_;refine gc n5 ?_;refine gf ?_;refine gc (H7 l hl (fun a ha=>(hq a ha).2) he) ?_;refine bh ?_
 first |rfl |(simp;done)
theorem UM{a:Ac}{x:Rat}(h1:Qs a.1)(h2:Qs a.2)(hx:Qs x):FP 52 [aS a,.iptr (qA x).cells] (bl (decide (a.1<=x)&&decide (x<a.2))):=by
 refine ai func52 ?_ (1,2)
 first | (refine gs (ay (.tmp rfl) rfl rfl T24 rfl rfl rfl) ?_ (1, 3); trace "@@linkwork/chart.Has$1 1.1 ay") | (refine go ?_ (1, 3); trace "@@linkwork/chart.Has$1 1.1 s_auto")
 first | (refine gs (ay (.tmp rfl) rfl rfl T24 rfl rfl rfl) ?_; trace "@@linkwork/chart.Has$1 1.2 ay") | (refine go ?_; trace "@@linkwork/chart.Has$1 1.2 s_auto")
 refine gc (eF h1 hx) ?_ (1,7)
 first | (refine gs (bB rfl rfl rfl (fun h => ay (.tmp rfl) rfl rfl T24 rfl rfl rfl)) ?_ (1, 9); trace "@@linkwork/chart.Has$1 1.6 ay") | (refine go ?_ (1, 9); trace "@@linkwork/chart.Has$1 1.6 s_auto")
 first | (refine gs (bB rfl rfl rfl (fun h => ay (.opt rfl (o1 h)) rfl rfl T24 rfl rfl rfl)) ?_; trace "@@linkwork/chart.Has$1 1.8 ay") | (refine go ?_; trace "@@linkwork/chart.Has$1 1.8 s_auto")
 refine aO (fun h=>(eF hx h2)) ?_;refine af ?_;rw[gP,lQ,show decide (a.1-x<=0)=decide (a.1<=x)from decide_eq_decide.2 ⟨fun h=>by grind,fun h=>by grind⟩,show decide (x-a.2<0)=decide (x<a.2)from decide_eq_decide.2 ⟨fun h=>by grind,fun h=>by grind⟩];cases decide (a.1<=x) <;> rfl
theorem RW{e k:Nat}(l:List Ac)(hl:l.length<=64)(hq:∀a∈l,fo a/\Aq e a)(he:e<=1000000){x:Rat}(hx:Qb k x)(hk:k<=1000000):FP 14 [dr l,qA x] (.tup [bl (l.any fun a=>decide (a.1<=fr x)&&decide (fr x<a.2)),.v .nilIface]):=by
 have n5:FP 44 [.lst 1 [dr l]] (be 0):=ya [l] (by simp) (fun m hm=>by rw[Z3]at hm;subst hm;exact⟨by omega,hq⟩) he;have lL:=hx.qs (show k<=4398046511104 by omega);have v8:=(mc hx).qs oz;refine ai func14 ?_;refine gc n5 ?_;refine gf ?_ (4,1)
 first | (refine gs (ay (.tmp rfl) rfl rfl T24 rfl rfl rfl) ?_; trace "@@linkwork/chart.Has 4.0 ay") | (refine go ?_; trace "@@linkwork/chart.Has 4.0 s_auto")
 refine gc (jn lL) ?_;refine gf ?_ (6,1)
 first | (refine gs (ay (.tmp rfl) rfl rfl T24 rfl rfl rfl) ?_; trace "@@linkwork/chart.Has 6.0 ay") | (refine go ?_; trace "@@linkwork/chart.Has 6.0 s_auto")
 refine gc (EO hx hk) ?_ (6,6)
 first | (refine gs (bJ (.tmp rfl) rfl rfl rfl (.tmp rfl) rfl rfl T24 rfl rfl) ?_; trace "@@linkwork/chart.Has 6.5 bJ") | (refine gs (gN (.tmp rfl) rfl rfl (.tmp rfl) rfl rfl T24 rfl rfl rfl) ?_; trace "@@linkwork/chart.Has 6.5 gN") | (refine go ?_; trace "@@linkwork/chart.Has 6.5 s_auto")
 refine gf ?_ (77777,0);refine gW ((Wk.freezeB (k:=3) rfl rfl).trans<|Wk.o (sl:=[pP 0 (dr l),pP 3 (.iptr (qA (fr x)).cells)]) (hp:=[])) ?_;refine gc (Con.sA (.cons (.refl _) (.cons (oF rfl) .nil)) (KF l oz 52 [.iptr (qA (fr x)).cells] (fun a=>decide (a.1<=fr x)&&decide (fr x<a.2)) fun a ha=>UM ((hq a ha).2.x.qs oz) ((hq a ha).2.y.qs oz) v8)) ?_;refine bh ?_
 first |rfl |(simp;done)
theorem C9{a b:Rat}(ha:a≠0)(hb:b≠0):a*b≠0:=by grind
theorem CT(x:Rat):(0:Rat)/x=0:=by rw[Rat.div_def,Rat.zero_mul]
theorem SH:Sub (.agg [.v (.bool false),nS,nS,.v (.bool false),nS,nS]) (aS (0,0)):=.agg (.cons (.refl _) (.cons (.nil _ _ _) (.cons (.nil _ _ _) (.cons (.refl _) (.cons (.nil _ _ _) (.cons (.nil _ _ _) .nil)))))) rfl
theorem Mv(out:List Ac)(q:Rat):BlkSub (.row 6 (out.map aS++[.agg [.v (.bool false),nS,nS,bl (rt q).neg,ws (rt q).num,ws (rt q).den]])) (.row 6 ((out++[((0:Rat),q)]).map aS)):=by
 refine .row (by simp) ?_;intro i e e' he he';rw[aas]at he'
 by_cases hi:i<out.length
 ·rw [aae (by rw [ZU]; exact hi)] at he he';rw [he] at he';cases he';rw [ZZ,ZV hi] at he;cases he;refine ⟨rfl,?_⟩;intro j x y hx hy;rw [hx] at hy;cases hy
  match j,hx with
  |0,hx=>cases hx;exact⟨rfl,.refl _⟩
  |1,hx=>cases hx;exact⟨rfl,.refl _⟩
  |2,hx=>cases hx;exact⟨rfl,.refl _⟩
  |3,hx=>cases hx;exact⟨rfl,.refl _⟩
  |4,hx=>cases hx;exact⟨rfl,.refl _⟩
  |5,hx=>cases hx;exact⟨rfl,.refl _⟩
 ·rw [aac (by rw [ZU]; omega), ZU] at he he'
  match h9:i-out.length,he,he' with
  |0,he,he' =>
   cases he;cases he'
   refine⟨rfl,?_⟩;intro j x y hx hy
   match j,hx,hy with
   |0,hx,hy=>cases hx;cases hy;exact⟨rfl,.refl _⟩
   |1,hx,hy=>cases hx;cases hy;exact⟨rfl,.nil _ _ _⟩
   |2,hx,hy=>cases hx;cases hy;exact⟨rfl,.nil _ _ _⟩
   |3,hx,hy=>cases hx;cases hy;exact⟨rfl,.refl _⟩
   |4,hx,hy=>cases hx;cases hy;exact⟨rfl,.refl _⟩
   |5,hx,hy=>cases hx;cases hy;exact⟨rfl,.refl _⟩
  |n+1,he,he'=>simp at he
theorem UW{b:Rat}{a:Ac}(h:0<fr (a.1+b)+(a.2-a.1)-1):cK b a=[(0,fr (a.1+b)+(a.2-a.1)-1)]++[(fr (a.1+b),1)]:=by
 unfold cK;exact aa2 h
theorem JQ{b:Rat}{a:Ac}(h:¬0<fr (a.1+b)+(a.2-a.1)-1):cK b a=[(fr (a.1+b),fr (a.1+b)+(a.2-a.1))]:=by
 unfold cK;exact aa1 h
theorem KJ{b:Rat}{a:Ac}{e:Nat}(hb:Qb 32 b)(ha:Aq e a):∀c∈cK b a,Aq (4*e+80) c:=fun c hc=>by
 have hf:=mc (ha.x.add hb);have hd:=ha.y.sub ha.x;have ht:=hf.add hd;have ho:=ht.sub Qb.one;unfold cK at hc;simp only at hc;split at hc
 ·simp only[aai,aap,or_false]at hc;rcases hc with rfl |rfl
  ·exact⟨Qb.zero.mono oz,ho.mono oz⟩
  ·exact⟨hf.mono oz,Qb.one.mono oz⟩
 ·simp only[aai,aap,or_false]at hc;subst hc;exact⟨hf.mono oz,ht.mono oz⟩
theorem Rp{b:Rat}{a:Ac}:(cK b a).length<=2:=by
 unfold cK;simp only;split <;> simp
theorem L5{b:Rat}{l:List Ac}{a:Ac}{i:Nat}(hx:l[i]?=some a):(l.take (i+1)).flatMap (cK b)=(l.take i).flatMap (cK b)++cK b a:=by
 rw[d7 hx,List.flatMap_append];simp
theorem LT{e:Nat}(l:List Ac)(hl:l.length<=6)(hq:∀a∈l,fo a/\Aq e a)(he:e<=10000){b:Rat}(hb:Qb 32 b):FP 12 [dr l,qA b] (.tup [dr (fM (l.flatMap (cK b))),.v .nilIface]):=by
 have n5:FP 44 [.lst 1 [dr l]] (be 0):=ya [l] (by simp) (fun m hm=>by rw[Z3]at hm;subst hm;exact⟨by omega,hq⟩) oz;have mG:=hb.qs (show 32<=4398046511104 by omega);refine ai func12 ?_;refine gc n5 ?_;refine gf ?_;refine gc (jn mG) ?_;refine gf ?_;refine gl ?_;refine gW (Wk.virt 900 6 rfl) ?_;refine ek [3,24,25] [3] (fun(i:Nat)(out:List Ac)=>[pP 7 (.ms 900 6 0 out.length),pP 26 (i64 i)]) (fun _ out=>[pP 900 (.row 6 (out.map aS))]) (fun i out=>i<=l.length/\out=(l.take i).flatMap (cK b)/\out.length<=2*i/\∀a∈out,Aq (4*e+80) a) (fun i _=>l.length-i) 0 ([]) ⟨aaf _,rfl,Z0 _,fun a ha=>by cases ha⟩ ?_ (h1:=(.cons rfl (Sub.nM _ _ _) (.k .nil)));rintro i out ⟨hi,ho,ir,oa⟩ K1 J1;refine gC (fun z=>?_) (fun z=>?_) (st2:=(21,0))
 ·have ab:=aW z;obtain ⟨a,ha⟩:=aJ ab;obtain ⟨ko,cF⟩:=hq a (ZR ha);have sP:=cF.x.add hb;have iy:=mc sP;have Ja:=cF.y.sub cF.x;have AW:=iy.add Ja;have n7:=AW.sub Qb.one;have aZ:=L5 (b:=b) ha;rw [<- ho] at aZ;have WI:=ml (a.1 + b);have hlt:fr (a.1 + b) < fr (a.1 + b) + (a.2 - a.1):=by have:=ko.2.1; grind
  refine gi (ao ha) ?_;refine gc (kF (cF.x.qs oz) mG) ?_;refine gc (EO sP oz) ?_;refine gf ?_;refine gc (lW (cF.y.qs oz) (cF.x.qs oz)) ?_;refine gc (kF (iy.qs oz) (Ja.qs oz)) ?_;refine gD ?_;refine gc wj ?_;refine gc (lW (AW.qs oz) (Qb.one.qs oz)) ?_;refine gD ?_;refine gc (jd (n7.qs oz)) ?_;refine xX [3,10,12,24,25,26] [3,10] (fun(o1:List Ac)(c:Rat)=>[pP 7 (.ms 900 6 0 o1.length)]) (fun o1 c=>[pP 12 (.box (qA c).cells),pP 900 (.row 6 (o1.map aS))]) (fun o1 c=>o1++[(fr (a.1+b),c)]=out++cK b a/\fr (a.1+b)<c/\Qb (4*e+80) c/\o1.length<=13) ?_ ?_
  ·intro K2 J2;refine gC (fun z=>?_) (fun z=>?_)
   ·have mu : 0 < fr (a.1 + b) + (a.2 - a.1) - 1 := by rw [qn] at z; exact aa4 z
    refine gs (cU (.tmp rfl) rfl (by rw[ZU]) (.tmp rfl) T36 rfl T47 rfl rfl (by simp only[Z7,aan];omega) rfl rfl) ?_ (17,0);refine gW (Wk.of (sl:=[pP 3 (.ptr 3 0),pP 10 (.ptr 10 0),pP 12 (.ptr 12 0),pP 24 (dr l),pP 25 (i64 l.length),pP 26 (i64 i),pP 7 (.ms 58 6 0 (out++[((0:Rat),fr (a.1+b)+(a.2-a.1)-1)]).length)]) (hp:=[pP 3 (.box (qA b).cells),pP 10 (.box (qA (fr (a.1+b))).cells),pP 12 (.box (qA (fr (a.1+b)+(a.2-a.1))).cells),pP 58 (.row 6 ((out++[((0:Rat),fr (a.1+b)+(a.2-a.1)-1)]).map aS))]) (.k (.k (.k (.k (.k (.k (.cons rfl (.of (by rw[aah];rfl)) .nil))))))) (.k (.k (.k (.cons rfl (Mv _ _) .nil))))) ?_ (17,0)
    refine gW (Wk.rk (k:=58) (d:=900) rfl rfl) ?_;refine gc wj ?_;exact oE J2 (out++[(0,fr (a.1+b)+(a.2-a.1)-1)]) 1 ⟨by rw[UW mu,aay],WI,Qb.one.mono oz,by rw[aah];show out.length+1<=13;omega⟩
   have mu:¬0<fr (a.1+b)+(a.2-a.1)-1:=by rw[qn]at z;exact aa5 z
   exact oE J2 out (fr (a.1+b)+(a.2-a.1)) ⟨by rw[JQ mu],hlt,AW.mono oz,by omega⟩
  rintro o1 c ⟨j1,j2,j3,j4⟩;refine gc (eF (iy.qs oz) (j3.qs oz)) ?_;refine gC (fun z=>?_) (fun z=>?_) (st2:=(77777,0))
  ·refine gs (cU (.tmp rfl) rfl (by rw[ZU]) (.tmp rfl) T36 rfl T47 rfl rfl (by simp only[Z7,aan];omega) rfl rfl) ?_ (20,0);refine gW (Wk.of (sl:=[pP 3 (.ptr 3 0),pP 24 (dr l),pP 25 (i64 l.length),pP 26 (i64 i),pP 7 (.ms 69 6 0 (o1++[(fr (a.1+b),c)]).length)]) (hp:=[pP 3 (.box (qA b).cells),pP 69 (.row 6 ((o1++[(fr (a.1+b),c)]).map aS))]) (.k (.k (.k (.k (.cons rfl (.of (by rw[aah];rfl)) .nil))))) (.k (.cons rfl (.of (by rw[aas];rfl)) .nil))) ?_ (20,0);refine gW (Wk.rk (k:=69) (d:=900) rfl rfl) ?_;refine ga aF ?_;exact dt J1 (i+1) (o1++[(fr (a.1+b),c)]) ⟨ab,by rw[j1,aZ],by rw[j1,aah];have:=Rp (b:=b) (a:=a);omega,by rw[j1];exact fun y hy=>(ZY.1 hy).elim (oa y) (KJ hb cF y)⟩
  exact aa8 j2 (by rw[lQ]at z;have:=aa5 z;grind)
 have ab:=bt hi z;subst ab;have p4:out=l.flatMap (cK b):=by rw[ho,aab]
 subst p4;refine gW ((Wk.freeze (k:=900) rfl).trans<|Wk.of (sl:=[pP 7 (dr (l.flatMap (cK b)))]) (hp:=[]) (.cons rfl (.of (bH (by rw[ZU]))) .nil) .nil) ?_;refine gc (H7 (l.flatMap (cK b)) oz oa oz) ?_;refine gc (JY (fM (l.flatMap (cK b))) (by have:=C6 (l.flatMap (cK b));omega)) ?_;refine bh ?_
 first |rfl |(simp;done)
theorem GG{a b:Int}(ha:-9223372036854775808<=a/\a<=9223372036854775807)(hb:-9223372036854775808<=b/\b<=9223372036854775807):FP 108 [i64 a,i64 b] (qA (Zd a b)):=by
 refine ai func108 ?_;refine gc (Tl ha hb) ?_;refine af ?_
 first |rfl |(simp;done)
theorem UK:FP 57 [] (qA (Zd 355 113)):=by
 refine ai func57 ?_;refine gc (GG (a:=355) (b:=113) oz oz) ?_;refine af ?_
 first |rfl |(simp;done)
theorem SS:FP 58 [] (qA (Zd 333 106)):=by
 refine ai func58 ?_;refine gc (GG (a:=333) (b:=106) oz oz) ?_;refine af ?_
 first |rfl |(simp;done)
theorem S9:FP 59 [qA 0,qA 0] (aS (0,0)):=by
 refine ai func59 ?_;refine gc (EF Qs.zero) ?_;refine gc (EF Qs.zero) ?_;refine gc (RY Qs.zero Qs.zero Qs.zero Qs.zero Zf Zf) ?_;refine gD ?_;refine af ?_;rfl
abbrev rQ(r:Rat)(bs:List Rat)(ps:LL):AV:=.agg [bl (rt r).neg,ws (rt r).num,ws (rt r).den,nA bs,.lst 1 (ps.map nA)]
theorem RH{r:Rat}(h:0<r)(h1:cond false true (aa .leq (asQ r) 0)=true):False:=by
 have h1:aa .leq (asQ r) 0=true:=h1;rw[gP]at h1;have:=aa4 h1;grind
theorem Kp{g e:Nat}{bs:List Rat}{ps:LL}(h:Lk g e bs ps)(hg:g<=1000000)(he:e<=1000000000000){r:Rat}(hr:Qs r)(h0:0<r):FP 166 [rQ r bs ps] (be 0):=by
 refine ai func166 ?_;refine gc (p7 h hg he) ?_;refine gf ?_;refine gc (jn hr) ?_;refine aO (fun _=>(jd hr)) ?_;refine gC (fun z=>?_) (fun z=>?_) (st1:=(5,0));exact(RH h0 z).elim;refine af ?_
 first |rfl |(simp;done)
theorem MZ{g e:Nat}{bs:List Rat}{ps:LL}(h:Lk g e bs ps)(hg:g<=1000000)(he:e<=1000000000000){r:Rat}(hr:Qs r)(h0:0<r){x:Rat}(hx:Qs x):FP 105 [rQ r bs ps,qA x] (be 0):=by
 refine ai func105 ?_;refine gc (Kp h hg he hr h0) ?_;refine gf ?_;refine gc (jn hx) ?_;refine gf ?_;refine af ?_
 first |rfl |(simp;done)
def jA(bs:List Rat)(ps:LL)(x:Rat):Rat:=au (ps.getD (pcx bs (fr x)) []) (fr x-bs.getD (pcx bs (fr x)) 0)
theorem DP{g e k:Nat}{bs:List Rat}{ps:LL}(h:Lk g e bs ps){x:Rat}(hx:Qb k x):Qb (9*(e+(k+(k+1)+1+g+1)+4)+1) (jA bs ps x):=by
 have fg:=h.lc.pcx_lt (fy x);have fI:=dD (l:=bs) fg;have fm:=kE (l:=ps) (show pcx bs (fr x)<ps.length by have:=h.len;omega);have hm:=ZR fm;have h1:=Em (h.po _ hm).b ((mc hx).sub (h.bq _ (ZR fI))) 0 (aaf _);rw[aax]at h1;have h9:=h.l9 _ hm;refine h1.mono ?_;have h2:((ps.getD (pcx bs (fr x)) []).length-0)*(e+(k+(k+1)+1+g+1)+4)<=9*(e+(k+(k+1)+1+g+1)+4):=aad _ oz;omega
theorem OI{g e k:Nat}{bs:List Rat}{ps:LL}(h:Lk g e bs ps)(hg:g<=100000)(he:e<=100000){r:Rat}(hr:Qb 32 r)(h0:0<r){x:Rat}(hx:Qb k x)(hk:k<=100000):FP 53 [rQ r bs ps,qA x] (.tup [qA (r+jA bs ps x),.v .nilIface]):=by
 have Jb:=hr.qs (show 32<=4398046511104 by omega);have hV:=DP h hx;refine ai func53 ?_;refine gc (MZ h oz oz Jb h0 (hx.qs oz)) ?_;refine gf ?_;refine gc (HO h hg he hx hk) ?_;refine gf ?_;refine gc (kF Jb (hV.qs oz)) ?_;refine bh ?_
 first |rfl |(simp;done)
theorem OX{g e:Nat}{bs:List Rat}{ps:LL}(h:Lk g e bs ps):Lk g (8+e) bs (ps.map dJ) where
 lc:=h.lc
 len:=by rw[ZU];exact h.len
 l7:=h.l7
 bq:=h.bq
 po:=fun p hp=>by
  obtain⟨q,hq,rfl⟩:=Yr.1 hp;have h1:=h.po q hq;exact⟨Oh q,by have:=DV q;have:=h1.len;omega,Jp h1.b h1.len⟩
 l9:=fun p hp=>by
  obtain⟨q,hq,rfl⟩:=Yr.1 hp;have:=DV q;have:=h.l9 q hq;omega
theorem Pg{g e k:Nat}{bs:List Rat}{ps:LL}(h:Lk g e bs ps)(hg:g<=10000)(he:e<=10000){x:Rat}(hx:Qb k x)(hk:k<=100000):FP 54 [jZ bs ps,i64 1,qA x] (.tup [qA (jA bs (ps.map dJ) x),.v .nilIface]):=by
 refine ai func54 ?_;refine aK [3,5,6,10] [5,6] (fun(i:Nat)=>[pP 11 (i64 i)]) (fun i=>[pP 3 (.box [nA bs,.lst 1 ((if i=0 then ps else ps.map dJ).map nA)])]) (fun i=>i<=1) (fun i=>1-i) 0 oz ?_ (h2:=(.cons rfl (.of (by rw[aa2 rfl])) .nil));rintro i hi K1 J1;refine gC (fun z=>?_) (fun z=>?_) (st1:=(77777,0)) (st2:=(8,0))
 ·have pW : i = 0 := by have := aa4 (p := (i : Int) < 1) z; omega
  subst pW;refine gW (Wk.of (sl:=[pP 3 (.ptr 3 0),pP 5 (.ptr 5 0),pP 6 (.ptr 6 0),pP 10 (i64 1),pP 11 (i64 (0:Nat))]) (hp:=[pP 3 (.box [nA bs,.lst 1 (ps.map nA)]),pP 5 (.box (qA x).cells),pP 6 (.box [.v (.bool false),nS,nS])]) aI (.cons rfl (.of (by rw[aa2 rfl])) (.k (.k .nil)))) ?_;refine gc (SE h oz oz) ?_;refine gf ?_;refine ga (Gm (x:=0) (by unfold an;omega)) ?_;exact aG J1 1 oz (hw:=Wk.of aI (.cons rfl (.of (by rw[aa1 oz])) (.k (.k .nil))))
 have AT:i=1:=by have:=aa5 (p:=(i:Int)<1) z;omega
 subst AT;refine gW (Wk.of (sl:=[pP 3 (.ptr 3 0),pP 5 (.ptr 5 0),pP 6 (.ptr 6 0)]) (hp:=[pP 3 (.box [nA bs,.lst 1 ((ps.map dJ).map nA)]),pP 5 (.box (qA x).cells),pP 6 (.box [.v (.bool false),nS,nS])]) aI (.cons rfl (.of (by rw[aa1 oz])) (.k (.k .nil)))) ?_;refine gc (HO (OX h) oz oz hx hk) ?_;refine bh ?_
 first |rfl |(simp;done)
theorem Sd{g e:Nat}{bs:List Rat}{ps:LL}(h:Lk g e bs ps){x:Rat}(hs:(ps.getD (pcx bs (fr x)) []).length<=1):jA bs (ps.map dJ) x=0:=by
 have fg:=h.lc.pcx_lt (fy x);have fm:=kE (l:=ps) (show pcx bs (fr x)<ps.length by have:=h.len;omega)
 have h1:(ps.map dJ).getD (pcx bs (fr x)) []=[]:=by
  rw[ZS,ZZ,fm];exact OK hs
 unfold jA;rw[h1];rfl
theorem Kn{g e k:Nat}{bs:List Rat}{ps:LL}(h:Lk g e bs ps)(hg:g<=10000)(he:e<=10000){r:Rat}(hr:Qb 32 r)(h0:0<r){x:Rat}(hx:Qb k x)(hk:k<=10000)(hs:(ps.getD (pcx bs (fr x)) []).length<=1) :
  FP 15 [rQ r bs ps,qA x] (.tup [aS (0,0),be (if r+jA bs ps x<=0 then 8 else 0)]):=by
 have hV:=hr.add (DP h hx);have Jc:=hV.qs oz;have hD:=Pg h hg he hx oz;rw[Sd h hs]at hD;have b1:Qb 10 (Zd 355 113):=⟨by decide +kernel,by decide +kernel⟩
 have b2:Qb 10 (Zd 333 106):=⟨by decide +kernel,by decide +kernel⟩
 have b3:Qb 10 (((2:Int)):Rat):=⟨by decide +kernel,by decide +kernel⟩
 refine ai func15 ?_;refine gc (OI h oz oz hr h0 hx oz) ?_;refine gf ?_;refine gc (jd Jc) ?_;refine gC (fun z=>?_) (fun z=>?_)
 ·have hz : r + jA bs ps x <= 0 := by rw [gP] at z; exact aa4 z
  refine gR ?_;exact Dc SH (.of (by rw[aa2 hz];rfl))
 have hz:¬r+jA bs ps x<=0:=by rw[gP]at z;exact aa5 z
 have v9:=zu (p:=0) Qs.zero (((b3.mul hV).mul b1).qs oz);have wa:=zu (p:=0) Qs.zero (((b3.mul hV).mul b2).qs oz);have n0:(((2:Int)):Rat)*(r+jA bs ps x)≠0:=by rw[show(((2:Int)):Rat)=2 from rfl];grind
 have n1:Zd 355 113≠0:=by decide +kernel
 have n2:Zd 333 106≠0:=by decide +kernel
 rw[aa1 (C9 n0 n1),CT]at v9;rw[aa1 (C9 n0 n2),CT]at wa;refine gc hD ?_;refine gf ?_;refine gc (pH 2 oz) ?_;refine gc (lU (b3.qs oz) Jc) ?_;refine gD ?_;refine gc UK ?_;refine gc (lU ((b3.mul hV).qs oz) (b1.qs oz)) ?_;refine gc v9 ?_;refine gD ?_;refine gf ?_;refine gc SS ?_;refine gc (lU ((b3.mul hV).qs oz) (b2.qs oz)) ?_;refine gc wa ?_;refine gD ?_;refine gf ?_;refine gc S9 ?_;refine bh ?_;rw[aa1 hz];rfl
theorem OC:FP 111 [.v .nilIface] (i64 0):=by
 refine ai func111 ?_;refine gC (fun z=>?_) (fun z=>?_) (st2:=(77777,0))
 ·refine af ?_
  first |rfl |(simp;done)
 cases z
theorem Mq(n:Int):FP 111 [.v (.iface 55 (.int .i64 n))] (i64 n):=by
 refine ai func111 ?_;refine gf ?_;refine gs (QU (.tmp rfl) T55 rfl rfl) ?_;refine gf ?_;refine af ?_;rfl
theorem Qj(e:Nat):FP 111 [be e] (i64 e):=by
 cases e with
 |zero=>exact OC
 |succ e=>exact Mq _
structure Rw(r:Rt):Prop where
  ok:r.ok
  b:Qb 40000000 r.q
def di:Rt:=⟨false,[],[]⟩
def kN(rs:List Rt):Bool:=rs.any fun r=>decide (2<r.num.length+r.den.length)
def uI(rs:List Rt):Bool:=rs.all fun r=>r.valid&&(!kN [r]&&decide (0<r.q))
theorem Ug{α:Type}{p:α->Bool}{l:List α}{i:Nat}{x:α}(hx:l[i]?=some x)(h:(l.take i).any p=false)(h2:p x=false):(l.take (i+1)).any p=false:=by
 rw[d7 hx,List.any_append,h,List.any_cons,List.any_nil,h2];rfl
theorem UA{α:Type}{p:α->Bool}{l:List α}{i:Nat}{x:α}(hx:l[i]?=some x)(h2:p x=true):l.any p=true:=Ys.2 ⟨x,ZR hx,h2⟩
theorem DK{α:Type}{p:α->Bool}{l:List α}{i:Nat}{x:α}(hx:l[i]?=some x)(h:(l.take i).all p=true)(h2:p x=true):(l.take (i+1)).all p=true:=by
 rw[d7 hx,Yp,h,all_cons,List.all_nil,h2];rfl
theorem G1{α:Type}{p:α->Bool}{l:List α}{i:Nat}{x:α}(hx:l[i]?=some x)(h2:p x=false):l.all p=false:=by
 cases h:l.all p with
 |false=>rfl
 |true=>rw[Z6.1 h x (ZR hx)]at h2;cases h2
theorem ud(rs:List Rt)(hl:rs.length<=281474976710656)(hr:∀r∈rs,r.ok):FP 8 [nR rs] (bl (kN rs)):=by
 refine ai func8 ?_;refine aK [0] [] (fun(i:Nat)=>[pP 3 (i64 i)]) (fun _=>[]) (fun i=>i<=rs.length/\kN (rs.take i)=false) (fun i=>rs.length-i) 0 ⟨aaf _,rfl⟩ ?_;rintro i ⟨hi,hn⟩ K1 J1;refine gl ?_;refine gC (fun z=>?_) (fun z=>?_)
 ·have ab:=aW z;obtain ⟨r,hq⟩:=aJ ab;have dZ:=hr r (ZR hq);have h1:=dZ.2.2.1;have h2:=dZ.2.2.2;unfold dj at h1 h2;refine gi (ao hq) ?_;refine gl ?_;refine gi (ao hq) ?_;refine gl ?_;refine ga (eY (by unfold an; omega) (by unfold an; omega)) ?_;refine gD ?_;refine gC (fun z=>?_) (fun z=>?_)
  ·have h3 : 2 < r.num.length + r.den.length := by have := aa4 (p := ((r.num.length + r.den.length : Nat) : Int) > 2) z; omega
   refine af ?_;rw[show kN rs=true from UA hq (aa6 h3)];rfl
  have h3:¬2<r.num.length+r.den.length:=by have:=aa5 (p:=((r.num.length+r.den.length:Nat):Int)>2) z;omega
  refine ga aF ?_;exact aG J1 (i+1) ⟨ab,Ug hq hn (aa7 h3)⟩
 have ab:=bt hi z;subst ab;rw[aab]at hn;refine af ?_;rw[hn];rfl
theorem NV{v g:Bool}{q:Rat}(h:cond (cond (!v) true g) true (aa .leq (asQ q) 0)=true):(v&&(!g&&decide (0<q)))=false:=by
 rw[gP]at h;cases v <;> cases g <;> try rfl
 have:=aa4 h;rw[aa7 (show ¬0<q by grind)];rfl
theorem Ms{v g:Bool}{q:Rat}(h:cond (cond (!v) true g) true (aa .leq (asQ q) 0)=false):(v&&(!g&&decide (0<q)))=true:=by
 rw[gP]at h;cases v <;> cases g <;> try cases h
 have:=aa5 h;rw[aa6 (show 0<q by grind)];rfl
theorem Uq(rs:List Rt)(hl:rs.length<=281474976710656)(hr:∀r∈rs,r.ok):FP 5 [nR rs] (bl (uI rs)):=by
 refine ai func5 ?_;refine aK [0] [] (fun(i:Nat)=>[pP 3 (i64 i)]) (fun _=>[]) (fun i=>i<=rs.length/\uI (rs.take i)=true) (fun i=>rs.length-i) 0 ⟨aaf _,rfl⟩ ?_;rintro i ⟨hi,hn⟩ K1 J1;refine gl ?_;refine gC (fun z=>?_) (fun z=>?_)
 ·have ab:=aW z;obtain ⟨r,hq⟩:=aJ ab;have dZ:=hr r (ZR hq);refine gi (ao hq) ?_;refine gc (tO r dZ) ?_;refine fL (fun _=>(ao hq)) ?_;refine aO (fun _=>(ud [r] (by simp) (fun x hx=>by rw [Z3] at hx; subst hx; exact dZ))) ?_;refine fL (fun _=>(ao hq)) ?_;refine aO (fun _=>(qv r dZ)) ?_;refine gC (fun z=>?_) (fun z=>?_)
  ·have h3:=NV z;refine af ?_;rw[show uI rs=false from G1 hq h3];rfl
  have h3:=Ms z;refine ga aF ?_;exact aG J1 (i+1) ⟨ab,DK hq hn h3⟩
 have ab:=bt hi z;subst ab;rw[aab]at hn;refine af ?_;rw[hn];rfl
def jh(p:List Rt):Nat:=if 65<p.length then 4 else if p.all Rt.valid=true then(if 0<p.length/\(p.getD (p.length-1) di).q=0 then 8 else 0)else 2
theorem qr{l:List Rt}{i:Nat}(h:i<l.length):l[i]?=some (l.getD i di):=by
 rw[ZS,ZV h];rfl
theorem Lv(p:List Rt)(hl:p.length<=281474976710656)(hp:∀r∈p,r.ok):FP 26 [nR p] (i64 (jh p:Nat)):=by
 refine ai func26 ?_;refine gl ?_;refine gC (fun z=>?_) (fun z=>?_)
 ·have h0:65<p.length:=bG (b:=65) z;refine af ?_;unfold jh;rw[aa2 h0];rfl
 have h0:¬65<p.length:=by have:=jq (b:=65) z;omega
 refine gl ?_;refine aK [0,8,9] [] (fun(i:Nat)=>[pP 10 (i64 i)]) (fun _=>[]) (fun i=>i<=p.length/\(p.take i).all Rt.valid=true) (fun i=>p.length-i) 0 ⟨aaf _,rfl⟩ ?_;rintro i ⟨hi,hn⟩ K1 J1;refine gC (fun z=>?_) (fun z=>?_)
 ·have ab:=aW z;obtain⟨r,hq⟩:=aJ ab;have dZ:=hp r (ZR hq);refine gi (ao hq) ?_;refine gc (tO r dZ) ?_;refine gC (fun z=>?_) (fun z=>?_)
  ·have h3 : r.valid = false := by cases h9 : r.valid; rfl; rw [h9] at z; cases z
   refine af ?_;unfold jh;rw[aa1 h0,G1 hq h3];rfl
  have h3:r.valid=true:=by cases h9:r.valid;rw[h9]at z;cases z;rfl
  refine ga aF ?_;exact aG J1 (i+1) ⟨ab,DK hq hn h3⟩
 have ab:=bt hi z;subst ab;rw[aab]at hn;have nQ:0<p.length->p[p.length-1]?=some (p.getD (p.length-1) di):=fun h=>qr oz
 have pS:(p.getD (p.length-1) di).ok:=by
  by_cases h:0<p.length
  ·exact hp _ (ZR (nQ h))
  ·rw[show p=[]from YG oz];exact Qs.zero.ok
 refine gl ?_;refine cu ?_;refine fD (fun h=>(bZ (bG (b:=0) h) (by unfold an;omega))) ?_;refine fL (fun h=>(ao (nQ (bG (b:=0) h)))) ?_;refine aO (fun _=>(qv _ pS)) ?_;refine gC (fun z=>?_) (fun z=>?_)
 ·obtain⟨h1,h2⟩:=wG z;refine af ?_;unfold jh;rw[aa1 h0,aa2 hn,aa2 ⟨h1,h2⟩];rfl
 have h1:¬(0<p.length/\(p.getD (p.length-1) di).q=0):=fun⟨h1,h2⟩=>Ek z h1 h2
 refine af ?_;unfold jh;rw[aa1 h0,aa2 hn,aa1 h1];rfl
def jb(bs:List Rt)(i:Nat):Nat :=
  if(bs.getD i di).valid&&(!decide ((bs.getD i di).q<0)&&!decide (1<=(bs.getD i di).q))then
    (if(decide (i=0)&&!decide ((bs.getD i di).q=0))||(decide (0<i)&&decide ((bs.getD i di).q<=(bs.getD (i-1) di).q))then 12 else 0)
  else 3
def gj(p:List Rt):Nat:=if jh p=0 then(if 9<p.length then 4 else 0)else jh p
def kG(n:Nat)(c:Nat->Nat):Nat:=match cg n fun i=>decide (c i=0)with
  |some i=>c i
  |none=>0
theorem vh{n i:Nat}{c:Nat->Nat}(hi:i<n)(h:∀j,j<i->c j=0)(he:c i≠0):kG n c=c i:=by
 unfold kG;rw[jE hi (fun j hj=>aa6 (h j hj)) (aa7 he)]
theorem FM{n:Nat}{c:Nat->Nat}(h:∀j,j<n->c j=0):kG n c=0:=by
 unfold kG;rw[jB fun j hj=>aa6 (h j hj)]
theorem Dg{n:Nat}{c:Nat->Nat}(h:kG n c=0):∀j,j<n->c j=0:=by
 unfold kG at h;cases h1:cg n fun i=>decide (c i=0)with
 |none=>exact fun j hj=>aa4 (HQ h1 j hj)
 |some i =>
  rw[h1]at h;have h2:=(iR h1).2;exact aa8 h (aa5 h2)
def ji(bs:List Rt)(ps:List (List Rt)):Nat :=
  if bs.length=0\/bs.length≠ps.length then 10 else if 16<bs.length then 4 else
  if kG bs.length (jb bs)=0 then kG ps.length (fun i=>gj (ps.getD i []))else kG bs.length (jb bs)
theorem PB{v:Bool}{q:Rat}(h:cond (cond (!v) true (aa .lss (asQ q) 0)) true (aa .geq (asQ (q-1)) 0)=true):(v&&(!decide (q<0)&&!decide (1<=q)))=false:=by
 rw[lQ,oc,show decide (0<=q-1)=decide (1<=q)from decide_eq_decide.2 ⟨fun h=>by grind,fun h=>by grind⟩]at h;cases v <;> cases h1:decide (q<0) <;> rw[h1]at h <;> cases h2:decide (1<=q) <;> rw[h2]at h <;> first |rfl |cases h
theorem OA{v:Bool}{q:Rat}(h:cond (cond (!v) true (aa .lss (asQ q) 0)) true (aa .geq (asQ (q-1)) 0)=false):(v&&(!decide (q<0)&&!decide (1<=q)))=true:=by
 rw[lQ,oc,show decide (0<=q-1)=decide (1<=q)from decide_eq_decide.2 ⟨fun h=>by grind,fun h=>by grind⟩]at h;cases v <;> cases h1:decide (q<0) <;> rw[h1]at h <;> cases h2:decide (1<=q) <;> rw[h2]at h <;> first |rfl |cases h
theorem Cc{i:Nat}{q p:Rat}{z:Bool}(h:cond (cond (aa .eql (i:Int) 0) (aa .neq (asQ q) 0) false) true (cond (aa .gtr (i:Int) 0) (aa .leq (asQ (q-p)) 0) false)=z):((decide (i=0)&&!decide (q=0))||(decide (0<i)&&decide (q<=p)))=z:=by
 have e1:aa .eql (i:Int) 0=decide (i=0):=FR
 have e2:aa .neq (asQ q) 0=!decide (q=0):=by
  rw[<- q5];rcases ow q with h |h |h <;> rw[h.1] <;> rfl
 have e3:aa .gtr (i:Int) 0=decide (0<i):=by
  show decide ((i:Int)>0)=_;exact decide_eq_decide.2 oz
 rw[e1,e2,e3,gP,show decide (q-p<=0)=decide (q<=p)from decide_eq_decide.2 ⟨fun h=>by grind,fun h=>by grind⟩]at h;rw[<- h];cases decide (i=0) <;> cases decide (q=0) <;> cases decide (0<i) <;> cases decide (q<=p) <;> rfl
theorem Oi{a b:Nat}(h:cond (aa .eql (a:Int) 0) true (aa .neq (a:Int) (b:Int))=true):a=0\/a≠b:=by
 by_cases h1:a=0
 ·exact .inl h1
 ·refine .inr fun h2=>?_
  exact DO oz h2.symm h
theorem NU{a b:Nat}(h:cond (aa .eql (a:Int) 0) true (aa .neq (a:Int) (b:Int))=false):¬(a=0\/a≠b):=by
 rintro(h1 |h1)
 ·subst h1;cases h
 ·have h2 : aa .neq (a : Int) (b : Int) = true := by simp [aa]; omega
  rw[h2]at h;cases h3:aa .eql (a:Int) 0 <;> rw[h3]at h <;> cases h
theorem Kz(bs:List Rt)(ps:List (List Rt))(hb:bs.length<=281474976710656)(Jd:∀r∈bs,Rw r)(fg:ps.length<=281474976710656)(hp:∀p∈ps,p.length<=281474976710656/\∀r∈p,r.ok):FP 6 [.agg [nR bs,.lst 1 (ps.map nR)]] (i64 (ji bs ps:Nat)):=by
 refine ai func6 ?_;refine gl ?_;refine cu ?_;refine cu ?_;refine gC (fun z=>?_) (fun z=>?_)
 ·have h0:bs.length=0\/bs.length≠ps.length:=Oi z;refine af ?_;unfold ji;rw[aa2 h0];rfl
 have h0:¬(bs.length=0\/bs.length≠ps.length):=NU z;refine gl ?_;refine gC (fun z=>?_) (fun z=>?_)
 ·have h1:16<bs.length:=bG (b:=16) z;refine af ?_;unfold ji;rw[aa1 h0,aa2 h1];rfl
 have h1:¬16<bs.length:=by have:=jq (b:=16) z;omega
 refine aK [1] [1] (fun(i:Nat)=>[pP 3 (i64 i)]) (fun _=>[]) (fun i=>i<=bs.length/\∀j,j<i->jb bs j=0) (fun i=>bs.length-i) 0 ⟨aaf _,fun j h=>by omega⟩ ?_;rintro i ⟨hi,hn⟩ K1 J1;refine gl ?_;refine gC (fun z=>?_) (fun z=>?_)
 ·have ab:=aW z;have fI:=qr ab;have lN:=qr (l:=bs) (show i - 1 < bs.length by omega);have r1:=Jd _ (ZR fI);have r2:=Jd _ (ZR lN)
  have WJ:FP 24 [(bs.getD i di).av,qA ((1:Int):Rat)] (i64 (asQ ((bs.getD i di).q-1))):=by
   have h9:=Cw (bs.getD i di) (rt ((1:Int):Rat)) r1.ok (zL oz).ok (by rw[bQ];exact(r1.b.sub Qb.one).qs oz);rw[bQ]at h9;exact h9
  refine gi (ao fI) ?_;refine gc (tO _ r1.ok) ?_;refine aO (fun _=>(qv _ r1.ok)) ?_;refine aO (fun _=>(AZ 1 oz)) ?_;refine aO (fun _=>WJ) ?_;refine gD ?_;refine gC (fun z=>?_) (fun z=>?_)
  ·have h2 : jb bs i = 3 := by unfold jb; rw [aa1 (by rw [PB z]; exact fun h => by cases h)]
   refine af ?_;unfold ji;rw[aa1 h0,aa1 h1,vh ab hn oz,aa1 oz,h2];rfl
  have h2:=OA z;refine aO (fun _=>(qv _ r1.ok)) ?_;refine fD (fun⟨h,h2⟩=>(bZ (bG (b:=0) h2) (by unfold an;omega))) ?_;refine fL (fun _=>(ao lN)) ?_;refine aO (fun _=>(Cw _ _ r1.ok r2.ok ((r1.b.sub r2.b).qs oz))) ?_;refine gD ?_;refine gC (fun z=>?_) (fun z=>?_)
  ·have h3 : jb bs i = 12 := by unfold jb; rw [aa2 h2, aa2 (Cc z)]
   refine af ?_;unfold ji;rw[aa1 h0,aa1 h1,vh ab hn oz,aa1 oz,h3];rfl
  have h3:jb bs i=0:=by unfold jb;rw[aa2 h2,aa1 (by rw[Cc z];exact fun h=>by cases h)]
  refine ga aF ?_;exact aG J1 (i+1) ⟨ab,fun j hj=>by rcases Z2 j i with g |g;exact hn j g;(have e9:j=i:=by omega);rw[e9];exact h3⟩
 have ab:=bt hi z;subst ab;have eQ:=FM hn;refine aK [1] [1] (fun(i:Nat)=>[pP 5 (i64 i)]) (fun _=>[]) (fun i=>i<=ps.length/\∀j,j<i->gj (ps.getD j [])=0) (fun i=>ps.length-i) 0 ⟨aaf _,fun j h=>by omega⟩ ?_;rintro i ⟨sI,lB⟩ K2 J2;refine gl ?_;refine gC (fun z=>?_) (fun z=>?_)
 ·have ab:=aW z;have fm:ps[i]? = some (ps.getD i []):=by rw [ZS,ZV ab]; rfl
  obtain⟨WK,nX⟩:=hp _ (ZR fm);refine gi (ao fm) ?_;refine gc (Lv _ WK nX) ?_;refine gC (fun z=>?_) (fun z=>?_)
  ·have h2:jh (ps.getD i []) ≠ 0:=Kq z;have h3:gj (ps.getD i []) = jh (ps.getD i []):=by unfold gj; rw [aa1 h2]
   refine af ?_;unfold ji;rw[aa1 h0,aa1 h1,aa2 eQ,vh (c:=fun i=>gj (ps.getD i [])) ab lB (by rw[h3];exact h2),h3]
  have h2:jh (ps.getD i [])=0:=Dt z;refine gi (ao fm) ?_;refine gl ?_;refine gC (fun z=>?_) (fun z=>?_)
  ·have h3:9 < (ps.getD i []).length:=bG (b:=9) z;have h4:gj (ps.getD i []) = 4:=by unfold gj; rw [aa2 h2,aa2 h3]
   refine af ?_;unfold ji;rw[aa1 h0,aa1 h1,aa2 eQ,vh (c:=fun i=>gj (ps.getD i [])) ab lB (by rw[h4];omega),h4];rfl
  have h3:¬9<(ps.getD i []).length:=by have:=jq (b:=9) z;omega
  have h4:gj (ps.getD i [])=0:=by unfold gj;rw[aa2 h2,aa1 h3]
  refine ga aF ?_;exact aG J2 (i+1) ⟨ab,fun j hj=>by rcases Z2 j i with g |g;exact lB j g;(have e9:j=i:=by omega);rw[e9];exact h4⟩
 have ab:=bt sI z;subst ab;refine af ?_;unfold ji;rw[aa1 h0,aa1 h1,aa2 eQ,FM (c:=fun i=>gj (ps.getD i [])) lB];rfl
theorem L8:FP 60 [be 8,i64 8] (bl true):=by
 refine ai func60 ?_;refine gc (Qj 8) ?_;refine af ?_;rfl
theorem MA:FP 16 [be 8,.lst 1 [i64 8]] (bl true):=by
 refine ai func16 ?_;refine tt [0,1,5] [] [] [] (True) (0) trivial ?_;rintro-K1 J1;refine ge rfl ?_;refine gC (fun z=>?_) (fun z=>?_) (st2:=(77777,0))
 ·refine gi (rfl) ?_;refine gc L8 ?_;refine gC (fun z=>?_) (fun z=>?_) (st2:=(77777,0))
  ·refine af ?_
   first |rfl |(simp;done)
  cases z
 exact aa8 z (by decide)
theorem rO{r:Rt}(h:r.ok)(hv:r.valid=true)(hs:r.num.length+r.den.length<=2):Qb 32 r.q:=by
 by_cases h0:r.num=[]
 ·rw[Rt.zero fun h9=>h9.2 h0];exact Qb.zero.mono oz
 ·have h1:r.den≠[]:=fun h1=>by
   unfold Rt.valid at hv;rw[aa1 (fun h'=>h0 h'.1),aa2 (.inr h1)]at hv;cases hv
  have h2:=YL.2 h0;have h3:=YL.2 h1;exact Rt.qb h (Z0 1) oz oz
theorem JP{rs:List Rt}(h:∀r∈rs,r.ok/\r.valid=true):(rs.map Rt.q).map rt=rs:=by
 rw[map_map]
 conv=>rhs;rw[<- map_id rs]
 exact YD fun r hr=>(Rt.eq_rt (h r hr).1 (h r hr).2).symm
theorem Cp{rs:List Rt}(h:∀r∈rs,r.ok/\r.valid=true):nR rs=nA (rs.map Rt.q):=by
 rw[<- fS,JP h]
theorem JN{ps:List (List Rt)}(h:∀p∈ps,∀r∈p,r.ok/\r.valid=true):ps.map nR=(ps.map fun p=>p.map Rt.q).map nA:=by
 rw[map_map];exact YD fun p hp=>Cp (h p hp)
theorem BJ:∀(l:List Rat)(c:Rat),l[l.length-1]?=some c->c≠0->cS l
 |[],c,h,_=>by simp at h
 |[d],c,h,az=>by
  simp at h;subst h;exact ol rfl (fun _=>az)
 |d::d2::l,c,h,az=>ol (BJ (d2::l) c (by simpa using h) az) (fun e=>by cases e)
theorem s8{l:List Rt}{i:Nat}(h:i<l.length):(l.map Rt.q).getD i 0=(l.getD i di).q:=by
 rw[ZS,ZZ,qr h];rfl
theorem vf{bs:List Rt}{i:Nat}(h:jb bs i=0):(bs.getD i di).valid=true/\0<=(bs.getD i di).q/\(bs.getD i di).q<1/\(i=0->(bs.getD i di).q=0)/\(0<i->(bs.getD (i-1) di).q<(bs.getD i di).q):=by
 unfold jb at h;split at h
 ·rename_i h1;split at h
  ·cases h
  ·rename_i h2;simp only [ZW,Zw,decide_eq_false_iff_not] at h1;simp only [aav,ZW,Zw,aa3,decide_eq_false_iff_not,not_or,not_and] at h2;refine ⟨h1.1,by have:=h1.2.1; grind,by have:=h1.2.2; grind,fun h3=>?_,fun h3=>?_⟩
   ·have:=h2.1 h3;exact ZQ.1 this
   ·have:=h2.2 h3;grind
 ·cases h
theorem xJ{p:List Rt}(h:gj p=0):p.length<=9/\(∀r∈p,r.valid=true)/\(0<p.length->(p.getD (p.length-1) di).q≠0):=by
 unfold gj at h;split at h
 ·rename_i h1;split at h
  ·cases h
  ·rename_i h2;unfold jh at h1;split at h1
   ·cases h1
   ·split at h1
    ·rename_i h3;split at h1
     ·cases h1
     ·rename_i h4;exact⟨by omega,Z6.1 h3,fun h5 h6=>h4 ⟨h5,h6⟩⟩
    ·cases h1
 ·rename_i h1;exact aa8 h h1
theorem qM{rs:List Rt}(h:kN rs=false):∀r∈rs,r.num.length+r.den.length<=2:=fun r hr=>by
 have h1:=List.any_eq_false.1 h r hr;simp only[aa3]at h1;omega
theorem Th{bs:List Rt}{ps:List (List Rt)}(hE:ji bs ps=0)(hb:∀r∈bs,Rw r)(hp:∀p∈ps,∀r∈p,Rw r)(h6:bs.length<=6)(hl:kN bs=false)(WL:∀p∈ps,kN p=false) :
  Lk 32 32 (bs.map Rt.q) (ps.map fun p=>p.map Rt.q)/\(∀r∈bs,r.ok/\r.valid=true)/\∀p∈ps,∀r∈p,r.ok/\r.valid=true:=by
 unfold ji at hE;split at hE
 ·cases hE
 rename_i h0;split at hE
 ·cases hE
 rename_i h1;split at hE
 ·rename_i h2;have k1:=Dg h2;have k2:=Dg hE
  have hv:∀r∈bs,r.ok/\r.valid=true:=fun r hr=>by
   obtain⟨i,hi,rfl⟩:=Yv hr;have h3:=(vf (k1 i hi)).1;rw[ZS,ZV hi]at h3;exact⟨(hb _ hr).ok,h3⟩
  have n8:∀p∈ps,gj p=0:=fun p cc=>by
   obtain⟨i,hi,rfl⟩:=Yv cc;have h3:=k2 i hi;rw[ZS,ZV hi]at h3;exact h3
  have sQ:∀p∈ps,∀r∈p,r.ok/\r.valid=true:=fun p cc r hr=>⟨(hp p cc r hr).ok,(xJ (n8 p cc)).2.1 r hr⟩
  refine⟨⟨⟨?_,?_,fun i hi=>?_,fun i hi=>?_⟩,?_,?_,fun c hc=>?_,fun p cc=>?_,fun p cc=>?_⟩,hv,sQ⟩
  ·rw[ZU];omega
  ·rw[s8 oz];exact(vf (k1 0 oz)).2.2.2.1 rfl
  ·rw[ZU]at hi;rw[s8 oz,s8 hi];have:=(vf (k1 (i+1) hi)).2.2.2.2 oz
   rwa [show i+1-1=i by omega]at this
  ·rw[ZU]at hi;rw[s8 hi];exact(vf (k1 i hi)).2.2.1
  ·rw[ZU,ZU];omega
  ·rw[ZU];omega
  ·obtain⟨r,hr,rfl⟩:=Yr.1 hc;exact rO (hv r hr).1 (hv r hr).2 (qM hl r hr)
  ·obtain ⟨q, hq, rfl⟩:=Yr.1 cc;obtain ⟨c1,c2,c3⟩:=xJ (n8 q hq);refine ⟨?_,by rw [ZU]; omega,fun c hc=>?_⟩
   ·by_cases WM:0<q.length
    ·refine BJ _ (q.getD (q.length-1) di).q ?_ (c3 WM);rw[ZU,ZZ,qr oz];rfl
    ·rw[show q=[]from YG oz];rfl
   ·obtain⟨r,hr,rfl⟩:=Yr.1 hc;exact rO (sQ q hq r hr).1 (sQ q hq r hr).2 (qM (WL q hq) r hr)
  ·obtain⟨q,hq,rfl⟩:=Yr.1 cc;rw[ZU];exact(xJ (n8 q hq)).1
 ·rename_i h2;exact aa8 hE h2
theorem OB{g:Nat}{bs:List Rat}(L:Lc bs)(hb:∀b∈bs,Qb g b)(hg:1<=g)(i:Nat):Qb g (cq bs i):=by
 by_cases h1:i+1<bs.length
 ·rw[jY L h1];exact hb _ (l0 h1)
 ·rw[oY L oz];exact Qb.one.mono hg
theorem HW{g:Nat}{bs:List Rat}{ps:LL}(L:Lc bs)(hb:∀b∈bs,Qb g b)(hg:1<=g):∀n,n<=bs.length->∀a∈(dx bs ps n).1,Aq g a
 |0,_,a,h=>by cases h
 |n+1,hn,a,h=>by
  have ih:=HW (ps:=ps) L hb hg n oz;have he:=OB L hb hg n;have nU:=hb _ (l0 (show n<bs.length by omega));obtain⟨k1,k2,k3⟩:=qt L ps n oz;have h:a∈(iz bs ps (dx bs ps n) n).1:=h;unfold iz at h;split at h
  ·exact ih a h
  ·split at h
   ·rename_i hm;rw [ZW] at hm;obtain ⟨l,b,e1,e2,e3⟩:=k2 hm.1;have p5:=ih b (by rw [e1]; simp);have e5:(l ++ [b]).getD ((l ++ [b]).length - 1) (0,0) = b:=by rw [zo]; simp
    rw[e1,e5]at h;rcases Yi h with h |rfl
    ·exact ih a (by rw[e1];exact h)
    ·exact⟨p5.x,he⟩
   ·rcases ZY.1 h with h |h
    ·exact ih a h
    ·rw[Z3]at h;subst h;exact⟨nU,he⟩
theorem Gp{g e:Nat}{bs:List Rat}{ps:LL}(h:Lk g e bs ps)(hg:1<=g):∀a∈eh bs ps,fo a/\Aq g a:=fun a ha =>
 ⟨yi h.lc h.len a ha,HW h.lc h.bq hg ps.length (by have:=h.len;omega) a ha⟩
theorem Ck{g e:Nat}{bs:List Rat}{ps:LL}(h:Lk g e bs ps):(eh bs ps).length<=bs.length:=by
 have:=x5 bs ps ps.length;rw[h.len]at this;unfold eh;rw[h.len];exact this
theorem Qe{a b c d e f g:Bool}(h:cond (cond (cond (cond (cond (cond (cond false true (!a)) true b) true c) true (!d)) true (!e)) true f) true g=false):a=true/\b=false/\c=false/\d=true/\e=true/\f=false/\g=false:=by
 cases a <;> cases b <;> cases c <;> cases d <;> cases e <;> cases f <;> cases g <;> first |exact⟨rfl,rfl,rfl,rfl,rfl,rfl,rfl⟩ |cases h
theorem Rv{a:Nat}(h:cond (cond (cond (cond (cond (cond false true false) true false) true false) true false) true false) true (aa .neq (a:Int) (a:Int))=true):False:=by
 have h1:aa .neq (a:Int) (a:Int)=true:=h;simp[aa]at h1
theorem Fx(p:Rat):asQ (p-p)=0:=by
 rw[show p-p=0 by grind];decide
theorem JX{p q:Rat}(h:cond (aa .neq (asQ (p-p)) 0) true (aa .neq (asQ (q-q)) 0)=true):False:=by
 rw[Fx,Fx]at h;cases h
theorem RZ{l:List Ac}{y:Rat}(h:(l.any fun a=>decide (a.1<=y)&&decide (y<a.2))=true):bC l y:=by
 obtain⟨a,ha,h⟩:=Ys.1 h;rw[ZW]at h;exact⟨a,ha,aa4 h.1,aa4 h.2⟩
abbrev xZ(r:Rt)(bs:List Rt)(ps:List (List Rt)):List AV:=[bl r.neg,ws r.num,ws r.den,nR bs,.lst 1 (ps.map nR)]
theorem OL{r:Rt}{bs:List Rt}{ps:List (List Rt)}(h:r.ok/\r.valid=true)(hb:∀r∈bs,r.ok/\r.valid=true)(hp:∀p∈ps,∀r∈p,r.ok/\r.valid=true) :
  xZ r bs ps=[bl (rt r.q).neg,ws (rt r.q).num,ws (rt r.q).den,nA (bs.map Rt.q),.lst 1 ((ps.map fun p=>p.map Rt.q).map nA)]:=by
 rw[<- Rt.eq_rt h.1 h.2,<- Cp hb,<- JN hp]
theorem DZ{r:Rt}(h:r.ok)(hv:r.valid=true):r.av.cells=(qA r.q).cells:=by
 unfold qA;rw[<- Rt.eq_rt h hv]
theorem RP(hA:FP 4 [] (bl true))(r:Rt)(hr:Rw r)(bs:List Rt)(i4:bs.length<=281474976710656)(hb:∀r∈bs,Rw r)(ps:List (List Rt))(fg:ps.length<=281474976710656)
  (hp:∀p∈ps,p.length<=281474976710656/\∀r∈p,Rw r) (b:Rt) (aN:Rw b) (x:Rt) (iU:Rw x):FP 3 [.agg (xZ r bs ps),b.av,x.av] (bl true):=by
 have sF:∀z∈[r],z.ok:=fun z hz=>by rw[Z3]at hz;subst hz;exact hr.ok
 have WN:∀z∈[b,x],z.ok:=fun z hz=>by
  simp only[aai,aap,or_false]at hz;rcases hz with rfl |rfl
  ·exact aN.ok
  ·exact iU.ok
 refine ai func3 ?_;refine gc hA ?_;refine aO (fun _=>(Uq [r] (by simp) sF)) ?_;refine cu ?_;refine aO (fun _=>(Kz bs ps i4 hb fg fun p cc=>⟨(hp p cc).1,fun z hz=>((hp p cc).2 z hz).ok⟩)) ?_;refine aO (fun _=>(kD b aN.ok)) ?_;refine aO (fun _=>(kD x iU.ok)) ?_;refine aO (fun _=>(ud [b,x] (by simp) WN)) ?_;refine aO (fun _=>(ud bs i4 fun z hz=>(hb z hz).ok)) ?_;refine gC (fun t=>?_) (fun t=>?_)
 ·refine gc hA ?_;refine af ?_
  first |rfl |(simp;done)
 obtain⟨w1,w2,w3,w4,w5,w6,w7⟩:=Qe t;have h6:bs.length<=6:=by have:=jq (b:=6) w2;omega
 have hE:ji bs ps=0:=Dt w3;refine aK [3,4,5] [3,4,5] (fun(i:Nat)=>[pP 7 (i64 i)]) (fun _=>[]) (fun i=>i<=ps.length/\∀p∈ps.take i,kN p=false) (fun i=>ps.length-i) 0 ⟨aaf _,fun p cc=>by cases cc⟩ ?_;rintro i ⟨hi,hn⟩ K1 J1;refine gl ?_;refine gC (fun t=>?_) (fun t=>?_) (st2:=(8,0))
 ·have ab:=aW t;obtain⟨p,fm⟩:=aJ ab;have cc:=ZR fm;refine gi (ao fm) ?_;refine gc (ud p (hp p cc).1 fun z hz=>((hp p cc).2 z hz).ok) ?_;refine gC (fun t=>?_) (fun t=>?_)
  ·refine af ?_
   first |rfl |(simp;done)
  refine ga aF ?_;exact aG J1 (i+1) ⟨ab,fun q hq=>by rw[d7 fm]at hq;rcases ZY.1 hq with hq |hq;exact hn q hq;rw[Z3]at hq;rw[hq];exact t⟩
 have ab:=bt hi t;subst ab;rw[aab]at hn;obtain⟨hL,WO,sQ⟩:=Th hE hb (fun p cc=>(hp p cc).2) h6 w7 hn;have w1:(r.valid&&(!kN [r]&&decide (0<r.q)))=true:=by unfold uI at w1;rw[all_cons,List.all_nil,Bool.and_true]at w1;exact w1
 simp only[ZW,Zw,aa3]at w1;obtain⟨v1,v2,v3⟩:=w1;have WP:=rO hr.ok v1 (qM v2 r (aaa ..));have gH:=rO aN.ok w4 (qM w6 b (aaa ..));have sO:=rO iU.ok w5 (qM w6 x (Z8 _ (aaa ..)));have eC:=OL ⟨hr.ok,v1⟩ WO sQ;have eB:=DZ aN.ok w4;have eX:=DZ iU.ok w5;obtain⟨B,hB⟩:∃B,B=bs.map Rt.q:=⟨_,rfl⟩
 obtain⟨P,hP⟩:∃P,P=ps.map fun p=>p.map Rt.q:=⟨_,rfl⟩
 have Je:B.length<=6:=by rw[hB,ZU];exact h6
 rw[<- hB,<- hP]at hL eC;have Jf:er 32 400 9<=1000000000:=by decide +kernel
 have hS:=PZ hL Je gH Jf;have WQ:=Re hL Je oz gH Jf;have v9:=Fl hL oz oz;have wa:=Fl hS oz oz;have q1:=Gp hL oz;have q2:=Gp hS oz;have l1:=Ck hL;have l2:=Ck hS;have l3:=hS.l7;have hN:=MK (eh (br b.q B) (dS b.q B P)) oz q2 oz;have hC:=LT (eh B P) oz q1 oz gH;have hH:=RW (eh B P) oz q1 oz sO oz;have nq:=MV (l:=eh (br b.q B) (dS b.q B P)) fun a ha=>(q2 a ha).2
 have nl:=C6 (eh (br b.q B) (dS b.q B P));rw[Qa hL.lc hL.len (fun p cc=>(hL.po p cc).td) b.q]at hN nq nl;obtain⟨M,hM⟩:∃M,M=fM ((eh B P).flatMap (cK b.q)):=⟨_,rfl⟩
 rw[<- hM]at hN hC nq nl;refine gW (Wk.of (sl:=[pP 3 (.ptr 3 0),pP 4 (.ptr 4 0),pP 5 (.ptr 5 0)]) (hp:=[pP 3 (.box (rQ r.q B P).cells),pP 4 (.box (qA b.q).cells),pP 5 (.box (qA x.q).cells)]) aI (.cons rfl (.of (aa9 Blk.box eC)) (.cons rfl (.of (aa9 Blk.box eB)) (.cons rfl (.of (aa9 Blk.box eX)) .nil)))) ?_;refine gc v9 ?_;refine gc WQ ?_;refine gc wa ?_;refine gc hN ?_;refine gc hC ?_;refine cu ?_;refine cu ?_;refine gC (fun t=>?_) (fun t=>?_) (st1:=(14,0));exact(Rv t).elim;refine aK [3,5,8,14,16] [3,5] (fun(i:Nat)=>[pP 18 (i64 i)]) (fun _=>[]) (fun i=>i<=M.length) (fun i=>M.length-i) 0 (aaf _) ?_;rintro i sI K2 J2;refine gl ?_;refine gC (fun t=>?_) (fun t=>?_)
 ·have ab:=aW t;obtain⟨a,ha⟩:=aJ ab;have cF:=nq a (ZR ha);refine gi (ao ha) ?_;refine gi (ao ha) ?_;refine gc (eF (cF.x.qs oz) (cF.x.qs oz)) ?_;refine fL (fun _=>(ao ha)) ?_;refine fL (fun _=>(ao ha)) ?_;refine aO (fun _=>(eF (cF.y.qs oz) (cF.y.qs oz))) ?_;refine gD ?_;refine gC (fun t=>?_) (fun t=>?_) (st1:=(19,0));exact(JX t).elim;refine ga aF ?_;exact aG J2 (i+1) ab
 refine gc hH ?_;refine gC (fun t179=>?_) (fun t179=>?_)
 ·refine af ?_
  first |rfl |(simp;done)
 have WR:((eh B P).any fun a=>decide (a.1<=fr x.q)&&decide (fr x.q<a.2))=true:=by
  cases h9:((eh B P).any fun a=>decide (a.1<=fr x.q)&&decide (fr x.q<a.2))with
  |true=>rfl
  |false=>rw[h9]at t179;cases t179
 have hs:=((xa hL.lc hL.len (fr x.q)).1 (RZ WR)).2.2;have Jg:=Kn hL oz oz WP v3 sO oz hs;obtain⟨E,Jh⟩:∃E,E=if r.q+jA B P x.q<=0 then 8 else 0:=⟨_,rfl⟩
 rw[<- Jh]at Jg;refine gc Jg ?_;refine gC (fun t189=>?_) (fun t189=>?_)
 ·have WS:E=8:=by
   have h9:=fX t189;rw[Jh]at h9 ⊢;split
   ·rfl
   ·rename_i h8;rw[aa1 h8]at h9;exact aa8 rfl h9
  subst WS;refine gc MA ?_;refine af ?_
  first |rfl |(simp;done)
 refine gc (jd Qs.zero) ?_;refine aO (fun _=>(jd Qs.zero)) ?_;refine af ?_
 first |rfl |(simp;done)
section
variable{ts:LL}{u k:Nat}{a b a2 b2:List Rat}{x y x2 y2:Et ts}{w v w' v' w2 v2 w3 v3:Nat}
theorem zi(c:Ct ts u k)(h:w+v+(w'+v')<=10000):w*u+v*k+(w'*u+v'*k)+1<=lm ts.length:=by
 have h1:=zy c (w:=w+w') (v:=v+v') (m:=10000) oz;have h2:=ui ts.length;rw[uD];omega
theorem AX(c:Ct ts u k)(h:w+v<=10000):w*u+v*k<=lm ts.length:=Q8 c h
theorem TN [c : Ct ts u k] [ha : Zl ts u k a x w v] [hb : Zl ts u k b y w' v'] (h : w + v + (w' + v') <= 10000 := by decide) : FP 335 [cX ts, nA a, nA b] (.tup [nA (sX (x + y)), .v .nilIface]) := by
 obtain⟨R,tw,hk⟩:=c.ex;have h0:=zi c h;have h1:=BB tw ha.nm hb.nm oz;rw[ha.eq,hb.eq]at h1;exact h1
theorem Jl [c : Ct ts u k] [ha : Zl ts u k a x w v] [hb : Zl ts u k b y w' v'] (h : w + v + (w' + v') <= 10000 := by decide) : FP 331 [cX ts, nA a, nA b] (.tup [nA (sX (x - y)), .v .nilIface]) := by
 obtain⟨R,tw,hk⟩:=c.ex;have h0:=zi c h;have h1:=EZ tw ha.nm hb.nm oz;rw[ha.eq,hb.eq]at h1;exact h1
theorem Ry [c : Ct ts u k] [ha : Zl ts u k a x w v] [hb : Zl ts u k b y w' v'] (h : w + v + (w' + v') <= 10000 := by decide) : FP 336 [cX ts, nA a, nA b] (.tup [nA (sX (x * y)), .v .nilIface]) := by
 obtain⟨R,tw,hk⟩:=c.ex;have h0:=zi c h;have h1:=A0 tw ha.nm hb.nm oz;rw[ha.eq,hb.eq]at h1;exact h1
theorem N3 [c : Ct ts u k] [ha : Zl ts u k a x w v] (h : w + v <= 10000 := by decide) : FP 221 [cX ts, nA a] (.tup [nA (sX (-x)), .v .nilIface]) := by
 obtain⟨R,tw,hk⟩:=c.ex;have h0:=AX c h;have h1:=FU tw ha.nm oz;rw[ha.eq]at h1;exact h1
theorem UN [c : Ct ts u k] [ha : Zl ts u k a x w v] (h : w + v <= 10000 := by decide) : FP 258 [cX ts, nA a] (.tup [i64 (pu x), .v .nilIface]) := by
 obtain⟨R,tw,hk⟩:=c.ex;have h0:=AX c h;have h1:=GX tw ha.nm oz;rw[ha.eq]at h1;exact h1
def atXE(c s X:Et ts)(p q:Rat):Et ts:=(c*qE p-s*qE q)+X
def atYE(c s Y:Et ts)(p q:Rat):Et ts:=(s*qE p+c*qE q)+Y
instance Zu.atXE[c:Ct ts u k]{x y z:Et ts}{p q:Rat}{w1 v1 w2 v2 w3 v3 w4 w5:Nat}[Zu u k x w1 v1][Zu u k y w2 v2][Zu u k z w3 v3][Qz u p w4][Qz u q w5]:Zu u k (atXE x y z p q) (w1+w4+(w2+w5)+w3) (v1+0+1+(v2+0+1)+1+v3+1) :=
  (aba:Zu u k ((x*Lw.qE p-y*Lw.qE q)+z) _ _)
instance Zu.atYE[c:Ct ts u k]{x y z:Et ts}{p q:Rat}{w1 v1 w2 v2 w3 v3 w4 w5:Nat}[Zu u k x w1 v1][Zu u k y w2 v2][Zu u k z w3 v3][Qz u p w4][Qz u q w5]:Zu u k (atYE x y z p q) (w2+w4+(w1+w5)+w3) (v2+0+1+(v1+0+1)+1+v3+1) :=
  (aba:Zu u k ((y*Lw.qE p+x*Lw.qE q)+z) _ _)
end
def dL(x:AV):List Rat:=match x with
  | .lst _ es=>es.map dQ
  |_=>[]
def q9:Nat->Nat->Bool
  |0,l=>XK l 1
  |n+1,l=>XK l (2^(n+1))||q9 n l
def dy(n:Nat)(l:List Rat):Bool:=l.all bT&&(XK l.length 0||q9 n l.length)
theorem Ch:∀{n l:Nat},q9 n l=true->∃j,j<=n/\l=2^j
 |0,l,h=>⟨0,Z0 _,by unfold q9 at h;exact ZT h⟩
 |n+1,l,h=>by
  unfold q9 at h;rw[aav]at h;rcases h with h |h
  ·exact⟨n+1,Z0 _,ZT h⟩
  ·obtain⟨j,h1,h2⟩:=Ch h;exact⟨j,by omega,h2⟩
theorem xY{n:Nat}(h5:n<=5){l:List Rat}(h:dy n l=true):Nm n 4000 l:=by
 unfold dy at h;rw[ZW,aav,Z6]at h;obtain⟨h1,h2⟩:=h
 have hl:Nl n l:=by
  rcases h2 with h2 |h2
  ·exact .inl (YG (ZT h2))
  ·exact .inr (Ch h2)
 have h3:=hl.le;have h4:l.length<=32:=aaj h3 (cV (b:=5) h5);obtain⟨D,N,a1,a2,a3⟩:=H4 (e:=64) (l:=l) (fun q hq=>yx (h1 q hq));obtain⟨k,hk⟩:∃k,k=4000:=⟨_,rfl⟩
 rw[<- hk];exact⟨h5,hl,D,N,a1,aaj a2 (cV oz),aaj a3 (cV oz)⟩
structure TE where
  ts:LL
  R:Nat
  tw:Tw ts R
  kb:eB R ts.length<=300000
theorem TE.ct(t:TE):Ct t.ts 4000 300000:=⟨⟨t.R,t.tw,t.kb⟩,by omega,by omega,by omega,by omega⟩
def TE.A(t:TE):AV:=cX t.ts
abbrev TE.N(t:TE):Type:=Et t.ts
section
variable(t:TE)
def v2(f:FuncId)(g:t.N->t.N->AV)(h:∀a b,dy t.ts.length a=true->dy t.ts.length b=true->FP f [t.A,nA a,nA b] (g (dE t.ts a) (dE t.ts b)))(a b:List Rat):En :=
  match hh:dy t.ts.length a&&dy t.ts.length b with
  |true=>some ⟨f,[t.A,nA a,nA b],g (dE t.ts a) (dE t.ts b),[],h a b (by rw[ZW]at hh;exact hh.1) (by rw[ZW]at hh;exact hh.2)⟩
  |false=>none
def ra(f:FuncId)(g:t.N->t.N->AV)(h:∀a b,dy t.ts.length a=true->dy t.ts.length b=true->FP f [t.A,nA a,nA b] (g (dE t.ts a) (dE t.ts b)))(xs:List AV):En:=match xs with
  |[_,a,b]=>v2 t f g h (dL a) (dL b)
  |_=>none
def v1(f:FuncId)(g:t.N->AV)(h:∀a,dy t.ts.length a=true->FP f [t.A,nA a] (g (dE t.ts a)))(a:List Rat):En :=
  match hh:dy t.ts.length a with
  |true=>some ⟨f,[t.A,nA a],g (dE t.ts a),[],h a hh⟩
  |false=>none
def Hz(f:FuncId)(g:t.N->AV)(h:∀a,dy t.ts.length a=true->FP f [t.A,nA a] (g (dE t.ts a)))(xs:List AV):En:=match xs with
  |[_,a]=>v1 t f g h (dL a)
  |_=>none
theorem TE.zl{a:List Rat}(h:dy t.ts.length a=true):Zl t.ts 4000 300000 a (dE t.ts a) 1 0:=Zl.at (xY t.tw.five h) (Z0 _)
theorem M6(a b:List Rat)(ha:dy t.ts.length a=true)(hb:dy t.ts.length b=true):FP 335 [t.A,nA a,nA b] (.tup [nA (sX (dE t.ts a+dE t.ts b)),.v .nilIface]):=by
 haveI:=t.ct;haveI:=t.zl ha;haveI:=t.zl hb;exact TN
theorem PR(a b:List Rat)(ha:dy t.ts.length a=true)(hb:dy t.ts.length b=true):FP 331 [t.A,nA a,nA b] (.tup [nA (sX (dE t.ts a-dE t.ts b)),.v .nilIface]):=by
 haveI:=t.ct;haveI:=t.zl ha;haveI:=t.zl hb;exact Jl
theorem UC(a b:List Rat)(ha:dy t.ts.length a=true)(hb:dy t.ts.length b=true):FP 336 [t.A,nA a,nA b] (.tup [nA (sX (dE t.ts a*dE t.ts b)),.v .nilIface]):=by
 haveI:=t.ct;haveI:=t.zl ha;haveI:=t.zl hb;exact Ry
theorem LS(a:List Rat)(ha:dy t.ts.length a=true):FP 221 [t.A,nA a] (.tup [nA (sX (-dE t.ts a)),.v .nilIface]):=by
 haveI:=t.ct;haveI:=t.zl ha;exact N3
theorem JL(a:List Rat)(ha:dy t.ts.length a=true):FP 258 [t.A,nA a] (.tup [i64 (pu (dE t.ts a)),.v .nilIface]):=by
 haveI:=t.ct;haveI:=t.zl ha;exact UN
theorem DC(a b:List Rat)(ha:dy t.ts.length a=true)(hb:dy t.ts.length b=true):FP 253 [t.A,nA a,nA b] (.tup [i64 (pu (dE t.ts a-dE t.ts b)),.v .nilIface]):=by
 have h1:=ui t.ts.length;exact QW t.tw (xY t.tw.five ha) (xY t.tw.five hb) oz
end
def rg(l:List Rat):Bool:=l.all bT&&Nat.ble l.length 1000000
theorem pl{l:List Rat}(h:rg l=true):(∀q∈l,Qs q)/\l.length<=1000000:=by
 unfold rg at h;rw[ZW,Z6,XS]at h;exact⟨fun q hq=>ia (h.1 q hq),h.2⟩
def Se(a:List Rat)(n:Nat):En:=match hh:Nat.ble a.length n&&Nat.ble n 1000000 with
  |true=>some ⟨337,[nA a,i64 n],nA (a9 a n),[],wW a n (by rw[ZW,XS]at hh;exact hh.1) (by rw[ZW,XS,XS]at hh;omega)⟩
  |false=>none
def Oj(xs:List AV):En:=match xs with
  |[a,n]=>Se (dL a) (dI n).toNat
  |_=>none
def Sk(a b:List Rat):En:=match hh:rg a&&rg b with
  |true=>some ⟨308,[nA a,nA b],nA (cJ a b),[],by
      rw[ZW]at hh;exact nj a b (pl hh.1).1 (pl hh.2).1 (by have:=(pl hh.1).2;omega) (by have:=(pl hh.2).2;omega)⟩
  |false=>none
def U3(xs:List AV):En:=match xs with
  |[a,b]=>Sk (dL a) (dL b)
  |_=>none
def Sv(a:List Rat):En:=match hh:rg a with
  |true=>some ⟨270,[nA a],nA (dU a),[],rq a (pl hh).1 (by have:=(pl hh).2;omega)⟩
  |false=>none
def Ll(xs:List AV):En:=match xs with
  |[a]=>Sv (dL a)
  |_=>none
def Qi(a b:List Rat)(n:Nat):En:=match hh:Nat.ble a.length n&&Nat.ble b.length n&&Nat.ble n 1000000 with
  |true=>some ⟨341,[nA a,nA b,i64 n],nA (fu a b n),[],by
      rw[ZW,ZW,XS,XS,XS]at hh;exact z5 a b n hh.1.1 hh.1.2 oz⟩
  |false=>none
def QB(xs:List AV):En:=match xs with
  |[a,b,n]=>Qi (dL a) (dL b) (dI n).toNat
  |_=>none
def UY:List AV->Bool
  | .agg (.lst _ []::_)::_=>true
  | .agg (.v _::_)::_=>true
  |_=>false
def m7(o o':List AV->En)(xs:List AV):En:=match UY xs with
  |true=>o xs
  |false=>o' xs
def Hd:TE:=⟨[],1,lZ,by decide⟩
def R5(t:TE)(o:FuncId->Option (List AV->En)):FuncId->Option (List AV->En)
  |335=>some (m7 (pa 335 _ Dl) (ra t 335 (fun x y=>.tup [nA (sX (x+y)),.v .nilIface]) (M6 t)))
  |331=>some (m7 (pa 331 _ Ca) (ra t 331 (fun x y=>.tup [nA (sX (x-y)),.v .nilIface]) (PR t)))
  |336=>some (m7 (pa 336 _ DD) (ra t 336 (fun x y=>.tup [nA (sX (x*y)),.v .nilIface]) (UC t)))
  |221=>some (m7 (ue 221 _ Br) (Hz t 221 (fun x=>.tup [nA (sX (-x)),.v .nilIface]) (LS t)))
  |258=>some (m7 (ue 258 _ B6) (Hz t 258 (fun x=>.tup [i64 (pu x),.v .nilIface]) (JL t)))
  |125=>some (m7 (oC 125 [z0] (.v .nilIface) (wL lZ)) (oC 125 [t.A] (.v .nilIface) (wL t.tw)))
  |337=>some Oj
  |308=>some U3
  |270=>some Ll
  |341=>some QB
  |253=>some (m7 (ra Hd 253 (fun x y=>.tup [i64 (pu (x-y)),.v .nilIface]) (DC Hd)) (ra t 253 (fun x y=>.tup [i64 (pu (x-y)),.v .nilIface]) (DC t)))
  |f=>o f
def mw(c:UInt8)(n:Int):Mk:=⟨⟨#[c]⟩,rt (n:Rat),rt ((0:Int):Rat)⟩
def wb:Li:=⟨⟨#[102,111,117,114,98,97,114]⟩,[⟨⟨#[102,114,97,109,101]⟩,[mw 79 0,mw 81 4]⟩,⟨⟨#[99,114,97,110,107]⟩,[mw 79 0,mw 65 1]⟩,⟨⟨#[99,111,117,112,108,101,114]⟩,[mw 65 0,mw 66 3,mw 80 0]⟩,⟨⟨#[114,111,99,107,101,114]⟩,[mw 81 0,mw 66 3]⟩],
  [⟨⟨#[111]⟩,0,1,0,0,0,0⟩,⟨⟨#[97]⟩,0,2,0,1,1,0⟩,⟨⟨#[98]⟩,0,3,1,2,1,0⟩,⟨⟨#[113]⟩,0,3,0,0,1,0⟩],[⟨⟨#[100]⟩,1⟩]⟩
theorem Tk:a5 wb=0:=by
 have h1:kX wb=0:=by
  unfold kX fP fx g9 iS;simp only[xw];decide +kernel
 have h2:gb wb=0:=by
  unfold gb fP i9 g9;simp only[xw];decide +kernel
 have h3:jG wb=0:=by
  unfold jG fP eT g9;simp only[xw];decide +kernel
 unfold a5;rw[h1,h2,h3];decide +kernel
theorem uN{c:UInt8}{n:Int}(hn:-9223372036854775808<=n/\n<=9223372036854775807):(mw c n).name.size<=281474976710656/\(mw c n).x.wok/\(mw c n).y.wok:=by
 have h0:(rt ((0:Int):Rat)).ok:=(zL oz).ok;have h1:(rt (n:Rat)).ok:=(zL hn).ok;exact⟨by show 1<=_;omega,h1.wok,h0.wok⟩
theorem J8:wb.okw:=by
 refine⟨by decide,fun b hb=>?_,fun j hj=>?_,fun d hd=>?_,by decide,by decide,by decide⟩
 ·simp only[wb,aai,aap,or_false]at hb;rcases hb with rfl |rfl |rfl |rfl
  ·refine⟨by decide,by show 2<=_;omega,fun m hm => ?_⟩;simp only[aai,aap,or_false]at hm;rcases hm with rfl |rfl <;> exact uN oz
  ·refine⟨by decide,by show 2<=_;omega,fun m hm => ?_⟩;simp only[aai,aap,or_false]at hm;rcases hm with rfl |rfl <;> exact uN oz
  ·refine⟨by decide,by show 3<=_;omega,fun m hm => ?_⟩;simp only[aai,aap,or_false]at hm;rcases hm with rfl |rfl |rfl <;> exact uN oz
  ·refine⟨by decide,by show 2<=_;omega,fun m hm => ?_⟩;simp only[aai,aap,or_false]at hm;rcases hm with rfl |rfl <;> exact uN oz
 ·simp only[wb,aai,aap,or_false]at hj;rcases hj with rfl |rfl |rfl |rfl <;> decide
 ·simp only[wb,aai,aap,or_false]at hd;rcases hd with rfl;decide
theorem LY:wb.ok:=Ui (by decide +kernel) J8
theorem S7:Tw [[(323:Rat)]] 10 where
 three:=by decide
 len:=fun j hj=>by
  obtain rfl:j=0:=by have:j<1:=hj;omega
  rfl
 pos:=fun j hj=>by
  obtain rfl:j=0:=by have:j<1:=hj;omega
  decide +kernel
 rb := ⟨1, 323, by omega, fun d hd => by
  rw[Z3.1 hd];exact⟨by omega,fun q hq=>⟨323,by rw[Z3.1 hq];decide +kernel,by decide⟩⟩,by decide,by decide⟩
 le:=by decide
def PI:TE:=⟨[[(323:Rat)]],10,S7,by decide⟩
def dw:FuncId->Option (List AV->En):=R5 PI (Ld wb LY Tk)
end Go.Lw
