/- DyadSolves: for any linkage, any group and turn, any assembly the law returns true and leaves its arguments as they were. No other condition. Part 8 of 8: the statement -/
import Derived.Test.YtnhbhlcebbmdoaaGreatYg
set_option linter.unusedVariables false
open List (all_eq_true)
open Int (toNat_natCast)
open Go.Proofs.Tryz
namespace Go.Lw
open Go.Proofs
theorem bik {l:Li} (hl:l.ok) {k:Int} {x:Tn} (hq:Qb 1000 x.t.q) {a:As} (al:AL a) (hn:aer a.rs = 0 -> (llq a.rs).length <= 1):∃ S:List Sv, (a6a l k x a).1 = S.map Sv.av /\ S.length <= 2 /\ ∀ s ∈ S, SvOk s:=by
 unfold a6a
 by_cases h0:dyE l k a false = 0
 ·obtain ⟨n, g, ok⟩:=beb h0;have hgA:gAt l k = g:=by unfold gAt; rw [ok.hk,toNat_natCast]; exact aah ok.hg
  obtain ⟨Z,hZ,hP⟩:=bh4 ⟨hl,ok.li,al,ok.chk⟩ (hn ok.chk) ok hq;rw [if_pos h0,hgA];exact ⟨Z,hZ,hP.two,hP.ok⟩
 ·rw [if_neg h0];exact ⟨[],rfl,by simp,by simp⟩
theorem bmo {l:Li} {k:Int} {a:As} {own:Bool} (h:liE l ≠ 0):dyE l k a own = liE l:=by unfold dyE; rw [if_pos h]
theorem ata (l:Li) (hw:l.okw) (k:Int) (x:Tn) (hxw:x.t.wok) (a:As) (ha:a.ok):FnC prog 3 [l.av, .agg [i64 k, bl x.t.neg, ws x.t.num, ws x.t.den, bl x.half], a.av] (bl true):=by
 have hrr:apq [[x.t]]:=fun y hy=>by rw [List.mem_singleton.1 hy]; exact ⟨fun z hz=>by rw [List.mem_singleton.1 hz]; exact hxw,by show 1 <= _; omega⟩
 refine gF0 func3 ?_;refine gc ary ?_;refine gcG (fun _=>(a1s l hw)) ?_;refine gcG (fun _=>(axs a ha)) ?_;refine gcG (fun _=>(Con.subA (.cons (.agg (.cons (.nil _ _ _) .nil) rfl) (.cons (.refl _) .nil)) (amf [] [[x.t]] a3v hrr (by show 0 <= _; omega) (by show 1 <= _; omega)))) ?_;refine gC (fun ht33=>?_) (fun ht33=>?_)
 ·refine gc ary ?_;refine gE1 ?_
  first | rfl | (simp; done)
 ·obtain ⟨h1, h2, h3⟩:=bpz ht33;have hl:=bll h1 hw;have al:=bf6 h2 ha;obtain ⟨hxo,hxq⟩:=bpv h3 hxw;have hn:=bi3 h2;obtain ⟨Z,hZ,hz2,hzo⟩:=bik (k:=k) hl hxq al hn
  obtain ⟨E, hE, hSE, hli⟩:∃ E:Nat, (a6a l k x a).2 = E /\ FnC prog 9 [l.av, i64 k, x.av, a.av] (.tup [.lst 3 (Z.map Sv.av), ai2 E]) /\ (liE l ≠ 0 -> Z.map Sv.av = [] /\ E = liE l):=by
   have h9:=at6 l hl k hxo hxq a al hn;unfold rsA at h9;rw [hZ] at h9;refine ⟨_,rfl,h9,fun h=>?_⟩;rw [<- hZ];unfold a6a;rw [bmo h,if_neg h];exact ⟨rfl,rfl⟩
  refine gc hSE ?_;refine gc (a1a l hl) ?_;refine gC (fun ht48=>?_) (fun ht48=>?_)
  ·have h4:liE l ≠ 0:=ahv ht48;obtain ⟨k1,k2⟩:=hli h4;rw [k1];subst k2;refine ge rfl ?_;refine gcG (fun _=>(aua (liE l))) ?_;refine gE1 ?_;simp [aaa]; rfl
  ·have h4:liE l = 0:=aho ht48;have hR:=a1h hl h4 k hxo hxq a al hn;rw [hZ,hE] at hR;refine gc hR ?_;refine gc (aua E) ?_;refine gcG (fun _=>(a0c hzo hz2)) ?_;refine gE1 ?_;simp [aaa]; rfl
end Go.Lw
namespace Go.Lw
open Go.Proofs Go.Proofs.YtnhbhlcebbmdoaaGreat
open Go.ChangeShapes Go.WideShapes Go.ChangeAt Go.RowKit
abbrev brr (q:Int × Tn):List AV:=[i64 q.1,bl q.2.t.neg,ws q.2.t.num,ws q.2.t.den,bl q.2.half]
theorem bex {W:World} {H:Type} {enc:TypeId × Value -> H}:adz prog W enc 33 (fun q:Int × Tn=>.agg (brr q)) (fun q=>q.2.t.wok) :=
 (acd (n := 5) Tryz.underlying33 (by kernel_rfl)
  (.cons rfl (n:=1) (by kernel_rfl) anx (fun _=>rfl) (.cons rfl (n:=4) (by kernel_rfl) bha (fun _=>rfl) (.nil _))) (fun _=>rfl)).map
  (fun z=>(z.1,z.2.1)) _ _ (fun z h=>⟨h.2.1,rfl⟩)
set_option maxRecDepth 100000 in
theorem aos (os:Os) (started:os.Started) (H:Type) (enc:TypeId × Value -> H) :
  ReturnsInHanded {} Tryz.checked os 3 .any (Rows.dyadSolvesSpec.pre6 enc prog Tryz.f3 Rows.dyadSolvesRow.domain false) (Rows.dyadSolvesSpec.post enc prog Tryz.f3 false true false false):=by
 refine returnsInHanded_of_change_sized (C := Tryz.checked) own started (by kernel_rfl) func3
  (ChangeSpec.witness6 (enc:=enc) (C:=Tryz.checked) false ⟨#[],#[.agg #[.string ⟨#[]⟩,.slice none 0 0,.slice none 0 0,.slice none 0 0],.agg #[.int .i64 0,.bool false,.slice none 0 0,.slice none 0 0,.bool false],.agg #[.slice none 0 0,.slice none 0 0,.slice none 0 0]],[]⟩ 8 (by kernel_rfl) (by kernel_rfl) (by kernel_rfl) (by kernel_rfl)) ?_
 intro W base args ds gs before hval0 hW hcnd hwt0 _;have hval:∀ (j:Nat) t v,Tryz.f3.params[j]? = some t -> args[j]? = some v -> Value.okWide prog W .any base t v:=hval0;have hwt:(DataW.weightsEach prog (Tryz.f3.params.toList ++ Rows.dyadSolvesSpec.plain.varTypes prog) (ds ++ gs)).all (· <= reachBytes) = true:=hwt0;have hW':=hW;obtain ⟨p,q,hA0,hV,rfl,hfz,hnd⟩:=hW;have hA:DataW.TrodAll enc prog W 0 (fun _=>true) true Tryz.f3.params.toList args.toList ds p:=hA0;rw [Tryz.params3] at hA hval hwt;obtain ⟨v0,v1,v2,d0,d1,d2,p0,p1,p2,rfl,rfl,rfl,h0,h1,h2⟩:=trodAll_three hA;obtain ⟨rfl,rfl⟩:=trodVars_none hV;clear hA0 hval0 hwt0;have hlt:∀ x ∈ p0 ++ p1 ++ p2,x.block < W.heap.size:=fun x hx=>hW'.lt x (by simpa using hx)
 have hw0:∀ n ∈ d0.weights prog 26, n <= reachBytes:=fun n hn=>by
  have:=List.all_eq_true.1 hwt n (DataW.weights_mem_each (j:=0) rfl rfl n hn);simpa using this
 have hw1:∀ n ∈ d1.weights prog 33, n <= reachBytes:=fun n hn=>by
  have:=List.all_eq_true.1 hwt n (DataW.weights_mem_each (j:=1) rfl rfl n hn);simpa using this
 have hw2:∀ n ∈ d2.weights prog 40, n <= reachBytes:=fun n hn=>by
  have:=List.all_eq_true.1 hwt n (DataW.weights_mem_each (j:=2) rfl rfl n hn);simpa using this
 obtain ⟨x0,q0,r0⟩:=a1j Tryz.underlying26 biq (hval 0 26 v0 rfl rfl) h0 hw0;obtain ⟨x1,q1,r1⟩:=a1j Tryz.underlying33 bex (hval 1 33 v1 rfl rfl) h1 hw1;obtain ⟨x2,q2,r2⟩:=a1j Tryz.underlying40 bm9 (hval 2 40 v2 rfl rfl) h2 hw2
 have hc:=FnC.calls (W:=W) (vs:=#[v0, v1, v2]) (ata x0 q0 x1.1 x1.2 q1 x2 q2) rfl (fun j v x hv hx=>by
  match j,hv,hx with
  | 0,hv,hx=>cases hv; cases hx; exact r0
  | 1,hv,hx=>cases hv; cases hx; exact r1
  | 2,hv,hx=>cases hv; cases hx; exact r2)
 refine hc.mono fun e W' ⟨he,hb⟩=>?_
 subst he;refine ⟨_,rfl,avp hW' rfl rfl (fun _ _ _=>trodAll_mk1 (shut_bool Tryz.underlying4 _)) (fun sp hsp=>?_) rfl hb (ok_one (by kernel_rfl) rfl (okWide_bool_mk Tryz.underlying4 _))⟩;rw [Tryz.params3];have hs:∀ x ∈ p0 ++ p1 ++ p2,sp x.block = true:=fun x hx=>hsp x (by simpa using hx)
 have g0:=avw (sp':=sp) (by kernel_rfl) (of_decide_eq_true (by kernel_rfl)) h0 hb (fun x hx=>hlt x (by simp [hx])) (fun x hx=>hs x (by simp [hx]));have g1:=avw (sp':=sp) (by kernel_rfl) (of_decide_eq_true (by kernel_rfl)) h1 hb (fun x hx=>hlt x (by simp [hx])) (fun x hx=>hs x (by simp [hx]));have g2:=avw (sp':=sp) (by kernel_rfl) (of_decide_eq_true (by kernel_rfl)) h2 hb (fun x hx=>hlt x (by simp [hx])) (fun x hx=>hs x (by simp [hx]));have g:=trodAll_mk3 g0 g1 g2;rw [show p0 ++ p1 ++ p2 ++ [] = p0 ++ (p1 ++ p2) from by simp];exact g
set_option maxRecDepth 100000 in
theorem atc:prog.closure 3 = [3,5,16,52,133,15,50,132,228,51,49,128,222,285,223,129,130,224,286,290,288,279,287,226,131,225,289,227,17,35,104,208,103,206,207,278,209,105,210,280,9,23,69,155,159,245,300,324,325,341,246,243,298,266,310,312,316,315,329,330,259,331,332,335,333,334,268,170,169,299,264,311,247,301,302,326,269,271,317,248,240,295,319,336,321,339,340,338,296,320,337,323,322,297,156,241,70,157,242,158,164,194,261,175,244,234,292,236,168,265,267,313,314,293,275,233,172,270,165,262,71,160,249,72,162,260,161,250,256,308,251,303,252,304,305,253,306,307,327,254,255,257,258,73,163,24,74,166,167,77,177,263,309,328,75,76,140,141,230,196,79,134,171,197,148,276,231,147,235,274,143,291,142,78,138,176,64,145,232,149,55,89,198,277,61,146,59,62,80,25,54,135,82,81,173,272,174,57,83,136,187,188,189,192,137,229,144,190,185,181,191,182,178,179,180,273,183,184,186,87,193,195,84,90,26,58,139,85,27,65,150,60,66,63,86,88,18,53,56,19,67,151,123,219,238,152,237,294,239,216,282,106,153,154,212,21,20,68,6,7,8,22,10,28,91,200,199,201,29,92,30,93,94,202,108,31,11,12,32,14,47,124,48,125,220,126,221,284,127,95,203,96,33,97,98,204,205,39,111,214,110,213,112,215,120,99,100,38,101,102,34,36,109,107,211,281,37,40,113,122,114,217,115,116,117,218,283,318,118,44,41,119,121,42,43,13,45,46]:=by kernel_rfl
theorem ao1:joinedFacts prog 3 Tryz.f3 Rows.dyadSolvesSpec Rows.dyadSolvesRow = true:=by
 unfold joinedFacts Program.recurses Program.inPlace Program.unfollowed Program.varsNamed;rw [atc,baf,bc5,bfc,bjj,bda,bdi]
 kernel_rfl
theorem dyadSolves_holds:Rows.DyadSolvesSaid :=
 OpenClaim.holds_of_wide 3 Tryz.f3 rfl rfl rfl rfl rfl rfl rfl ⟨rfl, rfl, rfl, rfl, rfl⟩ rfl rfl rfl rfl rfl (by kernel_rfl) func3 ao1
  (of_decide_eq_true (by kernel_rfl)) (by unfold Func.isWrapper; first | (rw [if_pos (by decide +kernel)]; kernel_rfl) | (rw [if_neg (by decide +kernel)]; exact ⟨rfl,rfl⟩))
  (fun os started H enc _=>aos os started H enc)
end Go.Lw
namespace Go.Proofs.YtnhbhlcebbmdoaaGreat
theorem dyadSolves_proved:Rows.DyadSolvesSaid:=Go.Lw.dyadSolves_holds
end Go.Proofs.YtnhbhlcebbmdoaaGreat
