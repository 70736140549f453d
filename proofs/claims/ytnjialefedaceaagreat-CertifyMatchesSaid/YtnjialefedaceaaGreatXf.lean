/- CertifyMatches: for any assembly and any poses the law returns true and leaves its arguments as they were. No condition. Part 6 of 7: what the later parts need -/
import Derived.Test.YtnjialefedaceaaGreatXe
set_option linter.unusedVariables false
namespace Go.Lw
open Go.Proofs
theorem c_sum_less {ts : List (List Rat)} {r e : Nat} (tw : Tw ts r) {a b c d : List Rat} (ha : Nm ts.length e a) (hb : Nm ts.length e b) (hc : Nm ts.length e c) (hd : Nm ts.length e d) (he : 2 * e ≤ 1000000000) :
  Con Tryz.prog 234 [.ptr 1000 0, ptA a b, ptA c d] [(1000, some (sumB ts))] (ptA (sh ts.length (subT ts (dec ts.length a) (dec ts.length c))) (sh ts.length (subT ts (dec ts.length b) (dec ts.length d)))) [(1000, some (sumB ts))] := by
 refine con_of (N := 20) (rs := [.cell 6 151]) Tryz.func234 rfl rfl rfl rfl (fun k z h => lk1000 h) ?_
 refine sr fun K1 hK1=>?_
 refine bX ?_
 refine bX ?_
 refine al T151 ?_
 refine hK1 _ ?_
 refine awp_seq ?_; intro K2 hK2
 refine awp_region_draw mixedP ?_
 refine mT ?_
 refine fP T151 ?_
 refine lP T60 ?_
 refine fP T151 ?_
 refine lP T60 ?_
 refine ar (s_callH (c_sum_sub tw ha hc (by omega)) (.cons (.tmp rfl) (.cons (.tmp rfl) (.cons (.tmp rfl) .nil))) (by first | exact hH0 | exact hH1 rfl | exact hH2 rfl rfl) rfl rfl) (newOk_of rfl) ?_
 refine mT ?_
 refine fP T151 ?_
 refine lP T60 ?_
 refine fP T151 ?_
 refine lP T60 ?_
 refine ar (s_callH (c_sum_sub tw hb hd (by omega)) (.cons (.tmp rfl) (.cons (.tmp rfl) (.cons (.tmp rfl) .nil))) (by first | exact hH0 | exact hH1 rfl | exact hH2 rfl rfl) rfl rfl) (newOk_of rfl) ?_
 refine ar0 (s_build (.cons (.tmp rfl) (.cons (.tmp rfl) .nil)) T151 rfl rfl rfl rfl rfl) ?_
 refine sP T151 ?_
 refine ⟨by kernel_rfl, ?_⟩
 refine hK2 _ ?_
 refine awp_ret ⟨_, (.cons (.cell rfl rfl T151 rfl rfl) .nil), ?_⟩
 exact Fin.keep (keep1 rfl)
theorem c_sum_num (R : List AV) (a : List Rat) : Con Tryz.prog 194 [.ptr 1000 0, nA a] [(1000, some (.box [.lst 1 R, .v .nilIface]))] (.tup [nA a, .v .nilIface]) [(1000, some (.box [.lst 1 R, .v .nilIface]))] := by
 refine con_of (N := 16) (rs := [.tmp 4, .tmp 5]) Tryz.func194 rfl rfl rfl rfl (fun k z h => lk1000 h) ?_
 refine sr fun K1 hK1=>?_
 refine aC ?_
 refine aC ?_
 refine hK1 _ ?_
 refine awp_seq ?_; intro K2 hK2
 refine sr fun K3 hK3=>?_
 refine mT ?_
 refine ar0 (s_nilChk (.tmp rfl) rfl) ?_
 refine fP T234 ?_
 refine lP T41 ?_
 refine ar0 (s_errNe (.tmp rfl) (by first | exact .inl rfl | exact .inr ⟨_, _, rfl⟩ | exact errV_or _) T41 rfl rfl) ?_
 refine hK3 _ ?_
 refine awp_cond (.tmp rfl) (fun ht10 => ?_) (fun ht10 => ?_)
 ·cases ht10
 ·skip
  refine awp_skip (hK2 _ ?_)
  refine sr fun K4 hK4=>?_
  refine mT ?_
  refine aT ?_
  refine aC ?_
  refine hK4 _ ?_
  refine awp_ret ⟨_, (.cons (.tmp rfl) (.cons (.tmp rfl) .nil)), ?_⟩
  show Fin _ (AV.tup [nA a, .v .nilIface]) _ _
  exact Fin.keep (keep1 rfl)
theorem c_sum_point (R : List AV) (a b : List Rat) : Con Tryz.prog 252 [.ptr 1000 0, ptA a b] [(1000, some (.box [.lst 1 R, .v .nilIface]))] (.tup [ptA a b, .v .nilIface]) [(1000, some (.box [.lst 1 R, .v .nilIface]))] := by
 refine con_of (N := 17) (rs := [.cell 4 151, .tmp 5]) Tryz.func252 rfl rfl rfl rfl (fun k z h => lk1000 h) ?_
 refine sr fun K1 hK1=>?_
 refine bX ?_
 refine al T151 ?_
 refine aC ?_
 refine hK1 _ ?_
 refine awp_seq ?_; intro K2 hK2
 refine sr fun K3 hK3=>?_
 refine mT ?_
 refine ar0 (s_nilChk (.tmp rfl) rfl) ?_
 refine fP T234 ?_
 refine lP T41 ?_
 refine ar0 (s_errNe (.tmp rfl) (by first | exact .inl rfl | exact .inr ⟨_, _, rfl⟩ | exact errV_or _) T41 rfl rfl) ?_
 refine hK3 _ ?_
 refine awp_cond (.tmp rfl) (fun ht10 => ?_) (fun ht10 => ?_)
 ·cases ht10
 ·skip
  refine awp_skip (hK2 _ ?_)
  refine sr fun K4 hK4=>?_
  refine lP T151 ?_
  refine sP T151 ?_
  refine aC ?_
  refine hK4 _ ?_
  refine awp_ret ⟨_, (.cons (.cell rfl rfl T151 rfl rfl) (.cons (.tmp rfl) .nil)), ?_⟩
  show Fin _ (AV.tup [ptA a b, .v .nilIface]) _ _
  exact Fin.keep (keep1 rfl)
theorem c_sum_orient {ts : List (List Rat)} {r e : Nat} (tw : Tw ts r) {a b c d p q : List Rat} (ha : Nm ts.length e a) (hb : Nm ts.length e b) (hc : Nm ts.length e c) (hd : Nm ts.length e d) (hp : Nm ts.length e p) (hq : Nm ts.length e q)
  (he : 8 * e + 4 + 2 * kB r ≤ 1000000000) :
  Con Tryz.prog 195 [.ptr 1000 0, ptA a b, ptA c d, ptA p q] [(1000, some (sumB ts))] (nA (sh ts.length (orientT ts (dec ts.length a) (dec ts.length b) (dec ts.length c) (dec ts.length d) (dec ts.length p) (dec ts.length q)))) [(1000, some (sumB ts))] := by
 refine con_of (N := 19) (rs := [.tmp 8]) Tryz.func195 rfl rfl rfl rfl (fun k z h => lk1000 h) ?_
 refine sr fun K1 hK1=>?_
 refine bX ?_
 refine bX ?_
 refine bX ?_
 refine aC ?_
 refine hK1 _ ?_
 refine awp_seq ?_; intro K2 hK2
 refine awp_region_draw mixedP ?_
 refine mT ?_
 refine mT ?_
 refine lP T151 ?_
 refine lP T151 ?_
 refine ar (s_callH (c_sum_less tw hc hd ha hb (by omega)) (.cons (.tmp rfl) (.cons (.tmp rfl) (.cons (.tmp rfl) .nil))) (by first | exact hH0 | exact hH1 rfl | exact hH2 rfl rfl) rfl rfl) (newOk_of rfl) ?_
 refine mT ?_
 refine lP T151 ?_
 refine lP T151 ?_
 refine ar (s_callH (c_sum_less tw hp hq ha hb (by omega)) (.cons (.tmp rfl) (.cons (.tmp rfl) (.cons (.tmp rfl) .nil))) (by first | exact hH0 | exact hH1 rfl | exact hH2 rfl rfl) rfl rfl) (newOk_of rfl) ?_
 refine ar (s_callH (orient_ap ▸ c_sum_cross tw (hc.sub ha) (hd.sub hb) (hp.sub ha) (hq.sub hb) (by omega)) (.cons (.tmp rfl) (.cons (.tmp rfl) (.cons (.tmp rfl) .nil))) (by first | exact hH0 | exact hH1 rfl | exact hH2 rfl rfl) rfl rfl) (newOk_of rfl) ?_
 refine aT ?_
 refine ⟨by kernel_rfl, ?_⟩
 refine hK2 _ ?_
 refine awp_ret ⟨_, (.cons (.tmp rfl) .nil), ?_⟩
 exact Fin.keep (keep1 rfl)
theorem c_point_product {ts : List (List Rat)} {r e : Nat} (tw : Tw ts r) {a b c d : List Rat} (ha : Nm ts.length e a) (hb : Nm ts.length e b) (hc : Nm ts.length e c) (hd : Nm ts.length e d) (he : e ≤ 1000000000) (f : FuncId) (v : List Rat)
  (hf : Con Tryz.prog f [.ptr 1000 0, ptA a b, ptA c d] [(1000, some (sumB ts))] (nA v) [(1000, some (sumB ts))]) :
  FnC Tryz.prog 189 [towA ts, ptA a b, ptA c d, .fn f []] (.tup [nA v, .v .nilIface]) := by
 refine con_of0 (N := 32) (rs := [.tmp 8, .tmp 9]) Tryz.func189 rfl rfl rfl rfl ?_
 refine sr fun K1 hK1=>?_
 refine bX ?_
 refine bX ?_
 refine bX ?_
 refine aC ?_
 refine aC ?_
 refine hK1 _ ?_
 refine awp_seq ?_; intro K2 hK2
 refine sr fun K3 hK3=>?_
 refine lP T30 ?_
 refine lP T151 ?_
 refine lP T151 ?_
 refine ar0 (s_buildLst rfl (.cons (.tmp rfl) (.cons (.tmp rfl) .nil)) T256 rfl T151 rfl rfl rfl rfl rfl rfl rfl rfl) ?_
 refine ar0 (s_call (c_point_checkAll (e := e) tw [(a, b), (c, d)] (by simp only [List.mem_cons, List.not_mem_nil, or_false]; rintro p (rfl | rfl); exact ⟨ha, hb⟩; exact ⟨hc, hd⟩) he (by simp)) (.cons (.tmp rfl) (.cons (.tmp rfl) .nil)) rfl rfl) ?_
 refine aT ?_
 refine hK3 _ ?_
 refine sr fun K4 hK4=>?_
 refine mT ?_
 refine ar0 (s_errNe (.tmp rfl) (by first | exact .inl rfl | exact .inr ⟨_, _, rfl⟩ | exact errV_or _) T41 rfl rfl) ?_
 refine hK4 _ ?_
 refine awp_cond (.tmp rfl) (fun ht18 => ?_) (fun ht18 => ?_)
 ·cases ht18
 ·skip
  refine awp_skip (hK2 _ ?_)
  refine sr fun K5 hK5=>?_
  refine lP T30 ?_
  refine ar0 (s_build (.cons (.tmp rfl) .nil) T234 rfl rfl rfl rfl rfl) ?_
  refine bX ?_
  refine aT ?_
  refine hK5 _ ?_
  refine sr fun K6 hK6=>?_
  refine mT ?_
  refine mT ?_
  refine mT ?_
  refine lP T151 ?_
  refine lP T151 ?_
  refine ar (s_callV (.tmp rfl) (show Con Tryz.prog f ([.ptr 22 0, ptA a b, ptA c d] ++ []) [(22, some (sumB ts))] (nA v) [(22, some (sumB ts))] from Con.rekeyB 22 rfl rfl rfl rfl hf) (.cons (.tmp rfl) (.cons (.tmp rfl) (.cons (.tmp rfl) .nil))) (by first | exact hH0 | exact hH1 rfl | exact hH2 rfl rfl) rfl rfl) (newOk_of rfl) ?_
  refine ar (s_callH (Con.rekeyB 22 rfl rfl rfl rfl (c_sum_num _ _)) (.cons (.tmp rfl) (.cons (.tmp rfl) .nil)) (by first | exact hH0 | exact hH1 rfl | exact hH2 rfl rfl) rfl rfl) (newOk_of rfl) ?_
  refine ar0 (s_extract (.tmp rfl) rfl rfl) ?_
  refine ar0 (s_extract (.tmp rfl) rfl rfl) ?_
  refine aT ?_
  refine aT ?_
  refine hK6 _ ?_
  refine awp_ret ⟨_, (.cons (.tmp rfl) (.cons (.tmp rfl) .nil)), ?_⟩
  exact fin_eq2 (by rfl)
theorem c_point_Dot {ts : List (List Rat)} {r e : Nat} (tw : Tw ts r) {a b c d : List Rat} (ha : Nm ts.length e a) (hb : Nm ts.length e b) (hc : Nm ts.length e c) (hd : Nm ts.length e d) (he : 2 * (e + e + kB r) ≤ 1000000000) :
  FnC Tryz.prog 135 [towA ts, ptA a b, ptA c d] (.tup [nA (sh ts.length (dotT ts (dec ts.length a) (dec ts.length b) (dec ts.length c) (dec ts.length d))), .v .nilIface]) := by
 refine con_of0 (N := 14) (rs := [.tmp 6, .tmp 7]) Tryz.func135 rfl rfl rfl rfl ?_
 refine sr fun K1 hK1=>?_
 refine bX ?_
 refine bX ?_
 refine bX ?_
 refine aC ?_
 refine aC ?_
 refine hK1 _ ?_
 refine sr fun K2 hK2=>?_
 refine lP T30 ?_
 refine lP T151 ?_
 refine lP T151 ?_
 refine ar0 (s_call (Con.subA (.cons (.refl _) (.cons (.refl _) (.cons (.refl _) (.cons (Sub.fn0 _) .nil)))) (c_point_product tw ha hb hc hd (by omega) _ _ (c_sum_dot tw ha hb hc hd he))) (.cons (.tmp rfl) (.cons (.tmp rfl) (.cons (.tmp rfl) (.cons (.func _) .nil)))) rfl rfl) ?_
 refine ar0 (s_extract (.tmp rfl) rfl rfl) ?_
 refine ar0 (s_extract (.tmp rfl) rfl rfl) ?_
 refine aT ?_
 refine aT ?_
 refine hK2 _ ?_
 refine awp_ret ⟨_, (.cons (.tmp rfl) (.cons (.tmp rfl) .nil)), ?_⟩
 exact fin_eq2 (by first | rfl | (simp; done))
theorem c_point_Orient {ts : List (List Rat)} {r e : Nat} (tw : Tw ts r) {a b c d p q : List Rat} (ha : Nm ts.length e a) (hb : Nm ts.length e b) (hc : Nm ts.length e c) (hd : Nm ts.length e d) (hp : Nm ts.length e p) (hq : Nm ts.length e q)
  (he : 8 * e + 10 + 2 * kB r ≤ 1000000000) :
  FnC Tryz.prog 140 [towA ts, ptA a b, ptA c d, ptA p q] (.tup [i64 (T.sgn (rtsOf ts) ts.length (orientT ts (dec ts.length a) (dec ts.length b) (dec ts.length c) (dec ts.length d) (dec ts.length p) (dec ts.length q))), .v .nilIface]) := by
 have ho := orient_nm tw ha hb hc hd hp hq
 refine con_of0 (N := 44) (rs := [.tmp 8, .tmp 9]) Tryz.func140 rfl rfl rfl rfl ?_
 refine sr fun K1 hK1=>?_
 refine bX ?_
 refine bX ?_
 refine bX ?_
 refine bX ?_
 refine aC ?_
 refine aC ?_
 refine hK1 _ ?_
 refine awp_seq ?_; intro K2 hK2
 refine sr fun K3 hK3=>?_
 refine lP T30 ?_
 refine lP T151 ?_
 refine lP T151 ?_
 refine lP T151 ?_
 refine ar0 (s_buildLst rfl (.cons (.tmp rfl) (.cons (.tmp rfl) (.cons (.tmp rfl) .nil))) T256 rfl T151 rfl rfl rfl rfl rfl rfl rfl rfl) ?_
 refine ar0 (s_call (c_point_checkAll (e := e) tw [(a, b), (c, d), (p, q)] (by simp only [List.mem_cons, List.not_mem_nil, or_false]; rintro x (rfl | rfl | rfl); exact ⟨ha, hb⟩; exact ⟨hc, hd⟩; exact ⟨hp, hq⟩) (by omega) (by simp)) (.cons (.tmp rfl) (.cons (.tmp rfl) .nil)) rfl rfl) ?_
 refine aT ?_
 refine hK3 _ ?_
 refine sr fun K4 hK4=>?_
 refine mT ?_
 refine ar0 (s_errNe (.tmp rfl) (by first | exact .inl rfl | exact .inr ⟨_, _, rfl⟩ | exact errV_or _) T41 rfl rfl) ?_
 refine hK4 _ ?_
 refine awp_cond (.tmp rfl) (fun ht21 => ?_) (fun ht21 => ?_)
 ·cases ht21
 ·skip
  refine awp_skip (hK2 _ ?_)
  refine sr fun K5 hK5=>?_
  refine lP T30 ?_
  refine ar0 (s_build (.cons (.tmp rfl) .nil) T234 rfl rfl rfl rfl rfl) ?_
  refine bX ?_
  refine aT ?_
  refine hK5 _ ?_
  refine sr fun K6 hK6=>?_
  refine mT ?_
  refine mT ?_
  refine lP T151 ?_
  refine lP T151 ?_
  refine lP T151 ?_
  refine ar (s_callH (Con.rekeyB 25 rfl rfl rfl rfl (c_sum_orient tw ha hb hc hd hp hq (by omega))) (.cons (.tmp rfl) (.cons (.tmp rfl) (.cons (.tmp rfl) (.cons (.tmp rfl) .nil)))) (by first | exact hH0 | exact hH1 rfl | exact hH2 rfl rfl) rfl rfl) (newOk_of rfl) ?_
  refine ar (s_callH (Con.rekeyB 25 rfl rfl rfl rfl (c_sum_num _ _)) (.cons (.tmp rfl) (.cons (.tmp rfl) .nil)) (by first | exact hH0 | exact hH1 rfl | exact hH2 rfl rfl) rfl rfl) (newOk_of rfl) ?_
  refine mT ?_
  refine ar0 (s_extract (.tmp rfl) rfl rfl) ?_
  refine ar0 (s_extract (.tmp rfl) rfl rfl) ?_
  refine aT ?_
  refine aT ?_
  refine hK6 _ ?_
  refine awp_seq ?_; intro K7 hK7
  refine sr fun K8 hK8=>?_
  refine mT ?_
  refine ar0 (s_errNe (.tmp rfl) (by first | exact .inl rfl | exact .inr ⟨_, _, rfl⟩ | exact errV_or _) T41 rfl rfl) ?_
  refine hK8 _ ?_
  refine awp_cond (.tmp rfl) (fun ht37 => ?_) (fun ht37 => ?_)
  ·cases ht37
  ·skip
   refine awp_skip (hK7 _ ?_)
   refine sr fun K9 hK9=>?_
   refine lP T30 ?_
   refine mT ?_
   refine ar0 (s_call (tw_Sign tw ho (by omega)) (.cons (.tmp rfl) (.cons (.tmp rfl) .nil)) rfl rfl) ?_
   refine ar0 (s_extract (.tmp rfl) rfl rfl) ?_
   refine ar0 (s_extract (.tmp rfl) rfl rfl) ?_
   refine aT ?_
   refine aT ?_
   refine hK9 _ ?_
   refine awp_ret ⟨_, (.cons (.tmp rfl) (.cons (.tmp rfl) .nil)), ?_⟩
   exact fin_eq2 (by rw [dec_sh])
theorem c_point_Same {ts : List (List Rat)} {r e : Nat} (tw : Tw ts r) {a b c d : List Rat} (ha : Nm ts.length e a) (hb : Nm ts.length e b) (hc : Nm ts.length e c) (hd : Nm ts.length e d) (he : 2 * e ≤ 900000000) :
  FnC Tryz.prog 139 [towA ts, ptA a b, ptA c d] (.tup [bl (decide (T.sgn (rtsOf ts) ts.length (subT ts (dec ts.length a) (dec ts.length c)) = 0 ∧ T.sgn (rtsOf ts) ts.length (subT ts (dec ts.length b) (dec ts.length d)) = 0)), .v .nilIface]) := by
 refine con_of0 (N := 52) (rs := [.tmp 6, .tmp 7]) Tryz.func139 rfl rfl rfl rfl ?_
 refine sr fun K1 hK1=>?_
 refine bX ?_
 refine bX ?_
 refine bX ?_
 refine aC ?_
 refine aC ?_
 refine hK1 _ ?_
 refine awp_seq ?_; intro K2 hK2
 refine sr fun K3 hK3=>?_
 refine lP T30 ?_
 refine lP T151 ?_
 refine lP T151 ?_
 refine ar0 (s_buildLst rfl (.cons (.tmp rfl) (.cons (.tmp rfl) .nil)) T256 rfl T151 rfl rfl rfl rfl rfl rfl rfl rfl) ?_
 refine ar0 (s_call (c_point_checkAll (e := e) tw [(a, b), (c, d)] (by simp only [List.mem_cons, List.not_mem_nil, or_false]; rintro p (rfl | rfl); exact ⟨ha, hb⟩; exact ⟨hc, hd⟩) (by omega) (by simp)) (.cons (.tmp rfl) (.cons (.tmp rfl) .nil)) rfl rfl) ?_
 refine aT ?_
 refine hK3 _ ?_
 refine sr fun K4 hK4=>?_
 refine mT ?_
 refine ar0 (s_errNe (.tmp rfl) (by first | exact .inl rfl | exact .inr ⟨_, _, rfl⟩ | exact errV_or _) T41 rfl rfl) ?_
 refine hK4 _ ?_
 refine awp_cond (.tmp rfl) (fun ht18 => ?_) (fun ht18 => ?_)
 ·cases ht18
 ·skip
  refine awp_skip (hK2 _ ?_)
  refine sr fun K5 hK5=>?_
  refine lP T30 ?_
  refine fP T151 ?_
  refine lP T60 ?_
  refine fP T151 ?_
  refine lP T60 ?_
  refine ar0 (s_call (tw_Cmp tw ha hc (by omega)) (.cons (.tmp rfl) (.cons (.tmp rfl) (.cons (.tmp rfl) .nil))) rfl rfl) ?_
  refine mT ?_
  refine ar0 (s_extract (.tmp rfl) rfl rfl) ?_
  refine ar0 (s_extract (.tmp rfl) rfl rfl) ?_
  refine aT ?_
  refine aT ?_
  refine hK5 _ ?_
  refine awp_seq ?_; intro K6 hK6
  refine sr fun K7 hK7=>?_
  refine mT ?_
  refine ar0 (s_errNe (.tmp rfl) (by first | exact .inl rfl | exact .inr ⟨_, _, rfl⟩ | exact errV_or _) T41 rfl rfl) ?_
  refine hK7 _ ?_
  refine awp_cond (.tmp rfl) (fun ht30 => ?_) (fun ht30 => ?_)
  ·cases ht30
  ·skip
   refine awp_skip (hK6 _ ?_)
   refine sr fun K8 hK8=>?_
   refine lP T30 ?_
   refine fP T151 ?_
   refine lP T60 ?_
   refine fP T151 ?_
   refine lP T60 ?_
   refine ar0 (s_call (tw_Cmp tw hb hd (by omega)) (.cons (.tmp rfl) (.cons (.tmp rfl) (.cons (.tmp rfl) .nil))) rfl rfl) ?_
   refine mT ?_
   refine ar0 (s_extract (.tmp rfl) rfl rfl) ?_
   refine ar0 (s_extract (.tmp rfl) rfl rfl) ?_
   refine aT ?_
   refine aT ?_
   refine hK8 _ ?_
   refine sr fun K9 hK9=>?_
   refine mT ?_
   refine ar0 (s_cmp (.tmp rfl) (.const _) rfl rfl) ?_
   refine mT ?_
   refine ar0 (s_guard rfl rfl rfl (fun h => s_move (.tmp rfl) rfl)) ?_
   refine ar0 (s_guard rfl rfl rfl (fun h => s_cmp (.opt rfl (o1 h)) (.const _) rfl rfl)) ?_
   refine ar0 (s_pick (.tmp rfl) (fun hp => .opt rfl (o1 hp)) (fun _ => .const _) rfl) ?_
   refine mT ?_
   refine ar0 (s_guard rfl rfl rfl (fun h => s_move (.tmp rfl) rfl)) ?_
   refine ar0 (s_guard rfl rfl rfl (fun h => s_errEq (.opt rfl (o1 h)) (by first | exact .inl rfl | exact .inr ⟨_, _, rfl⟩ | exact errV_or _) T41 rfl rfl)) ?_
   refine ar0 (s_pick (.tmp rfl) (fun hp => .opt rfl (o1 hp)) (fun _ => .const _) rfl) ?_
   refine mT ?_
   refine aT ?_
   refine aT ?_
   refine hK9 _ ?_
   refine awp_ret ⟨_, (.cons (.tmp rfl) (.cons (.tmp rfl) .nil)), ?_⟩
   exact fin_eq2 (by rw [← same_cond]; rfl)
theorem c_point_Turn {ts : List (List Rat)} {r e : Nat} (tw : Tw ts r) {a b c d : List Rat} (ha : Nm ts.length e a) (hb : Nm ts.length e b) (hc : Nm ts.length e c) (hd : Nm ts.length e d) (he : 2 * (e + e + kB r) ≤ 1000000000) :
  FnC Tryz.prog 230 [towA ts, nA a, nA b, ptA c d] (.tup [ptA (sh ts.length (turnX ts (dec ts.length a) (dec ts.length b) (dec ts.length c) (dec ts.length d))) (sh ts.length (turnY ts (dec ts.length a) (dec ts.length b) (dec ts.length c) (dec ts.length d))), .v .nilIface]) := by
 refine con_of0 (N := 57) (rs := [.cell 8 151, .tmp 9]) Tryz.func230 rfl rfl rfl rfl ?_
 refine sr fun K1 hK1=>?_
 refine bX ?_
 refine bX ?_
 refine al T151 ?_
 refine aC ?_
 refine hK1 _ ?_
 refine awp_seq ?_; intro K2 hK2
 refine sr fun K3 hK3=>?_
 refine lP T30 ?_
 refine mT ?_
 refine mT ?_
 refine fP T151 ?_
 refine lP T60 ?_
 refine fP T151 ?_
 refine lP T60 ?_
 refine ar0 (s_buildLst rfl (.cons (.tmp rfl) (.cons (.tmp rfl) (.cons (.tmp rfl) (.cons (.tmp rfl) .nil)))) T28 rfl T60 rfl rfl rfl rfl rfl rfl rfl rfl) ?_
 refine ar0 (s_call (c_point_check (e := e) tw [a, b, c, d] (by simp only [List.mem_cons, List.not_mem_nil, or_false]; rintro x (rfl | rfl | rfl | rfl) <;> assumption) (by omega) (by simp)) (.cons (.tmp rfl) (.cons (.tmp rfl) .nil)) rfl rfl) ?_
 refine aT ?_
 refine hK3 _ ?_
 refine sr fun K4 hK4=>?_
 refine mT ?_
 refine ar0 (s_errNe (.tmp rfl) (by first | exact .inl rfl | exact .inr ⟨_, _, rfl⟩ | exact errV_or _) T41 rfl rfl) ?_
 refine hK4 _ ?_
 refine awp_cond (.tmp rfl) (fun ht22 => ?_) (fun ht22 => ?_)
 ·cases ht22
 ·skip
  refine awp_skip (hK2 _ ?_)
  refine sr fun K5 hK5=>?_
  refine lP T30 ?_
  refine ar0 (s_build (.cons (.tmp rfl) .nil) T234 rfl rfl rfl rfl rfl) ?_
  refine bX ?_
  refine aT ?_
  refine hK5 _ ?_
  refine awp_seq ?_; intro K6 hK6
  refine awp_region_draw mixedP ?_
  refine mT ?_
  refine mT ?_
  refine mT ?_
  refine mT ?_
  refine fP T151 ?_
  refine lP T60 ?_
  refine ar (s_callH (Con.rekeyB 27 rfl rfl rfl rfl (c_sum_mul tw ha hc (by omega))) (.cons (.tmp rfl) (.cons (.tmp rfl) (.cons (.tmp rfl) .nil))) (by first | exact hH0 | exact hH1 rfl | exact hH2 rfl rfl) rfl rfl) (newOk_of rfl) ?_
  refine mT ?_
  refine mT ?_
  refine fP T151 ?_
  refine lP T60 ?_
  refine ar (s_callH (Con.rekeyB 27 rfl rfl rfl rfl (c_sum_mul tw hb hd (by omega))) (.cons (.tmp rfl) (.cons (.tmp rfl) (.cons (.tmp rfl) .nil))) (by first | exact hH0 | exact hH1 rfl | exact hH2 rfl rfl) rfl rfl) (newOk_of rfl) ?_
  refine ar (s_callH (Con.rekeyB 27 rfl rfl rfl rfl (cross_ap ▸ c_sum_sub tw (ha.mul tw rfl hc) (hb.mul tw rfl hd) (by omega))) (.cons (.tmp rfl) (.cons (.tmp rfl) (.cons (.tmp rfl) .nil))) (by first | exact hH0 | exact hH1 rfl | exact hH2 rfl rfl) rfl rfl) (newOk_of rfl) ?_
  refine mT ?_
  refine mT ?_
  refine mT ?_
  refine fP T151 ?_
  refine lP T60 ?_
  refine ar (s_callH (Con.rekeyB 27 rfl rfl rfl rfl (c_sum_mul tw hb hc (by omega))) (.cons (.tmp rfl) (.cons (.tmp rfl) (.cons (.tmp rfl) .nil))) (by first | exact hH0 | exact hH1 rfl | exact hH2 rfl rfl) rfl rfl) (newOk_of rfl) ?_
  refine mT ?_
  refine mT ?_
  refine fP T151 ?_
  refine lP T60 ?_
  refine ar (s_callH (Con.rekeyB 27 rfl rfl rfl rfl (c_sum_mul tw ha hd (by omega))) (.cons (.tmp rfl) (.cons (.tmp rfl) (.cons (.tmp rfl) .nil))) (by first | exact hH0 | exact hH1 rfl | exact hH2 rfl rfl) rfl rfl) (newOk_of rfl) ?_
  refine ar (s_callH (Con.rekeyB 27 rfl rfl rfl rfl (dot_ap ▸ c_sum_add tw (hb.mul tw rfl hc) (ha.mul tw rfl hd) (by omega))) (.cons (.tmp rfl) (.cons (.tmp rfl) (.cons (.tmp rfl) .nil))) (by first | exact hH0 | exact hH1 rfl | exact hH2 rfl rfl) rfl rfl) (newOk_of rfl) ?_
  refine ar0 (s_build (.cons (.tmp rfl) (.cons (.tmp rfl) .nil)) T151 rfl rfl rfl rfl rfl) ?_
  refine ar (s_callH (Con.rekeyB 27 rfl rfl rfl rfl (c_sum_point _ _ _)) (.cons (.tmp rfl) (.cons (.tmp rfl) .nil)) (by first | exact hH0 | exact hH1 rfl | exact hH2 rfl rfl) rfl rfl) (newOk_of rfl) ?_
  refine ar0 (s_extract (.tmp rfl) rfl rfl) ?_
  refine ar0 (s_extract (.tmp rfl) rfl rfl) ?_
  refine sP T151 ?_
  refine aT ?_
  refine ⟨by kernel_rfl, ?_⟩
  refine hK6 _ ?_
  refine awp_ret ⟨_, (.cons (.cell rfl rfl T151 rfl rfl) (.cons (.tmp rfl) .nil)), ?_⟩
  exact fin_eq (by rfl)
theorem c_point_Add {ts : List (List Rat)} {r e : Nat} (tw : Tw ts r) {a b c d : List Rat} (ha : Nm ts.length e a) (hb : Nm ts.length e b) (hc : Nm ts.length e c) (hd : Nm ts.length e d) (he : 2 * e ≤ 1000000000) :
  FnC Tryz.prog 232 [towA ts, ptA a b, ptA c d] (.tup [ptA (sh ts.length (T.add ts.length (dec ts.length a) (dec ts.length c))) (sh ts.length (T.add ts.length (dec ts.length b) (dec ts.length d))), .v .nilIface]) := by
 refine con_of0 (N := 39) (rs := [.cell 6 151, .tmp 7]) Tryz.func232 rfl rfl rfl rfl ?_
 refine sr fun K1 hK1=>?_
 refine bX ?_
 refine bX ?_
 refine bX ?_
 refine al T151 ?_
 refine aC ?_
 refine hK1 _ ?_
 refine awp_seq ?_; intro K2 hK2
 refine sr fun K3 hK3=>?_
 refine lP T30 ?_
 refine lP T151 ?_
 refine lP T151 ?_
 refine ar0 (s_buildLst rfl (.cons (.tmp rfl) (.cons (.tmp rfl) .nil)) T256 rfl T151 rfl rfl rfl rfl rfl rfl rfl rfl) ?_
 refine ar0 (s_call (c_point_checkAll (e := e) tw [(a, b), (c, d)] (by simp only [List.mem_cons, List.not_mem_nil, or_false]; rintro p (rfl | rfl); exact ⟨ha, hb⟩; exact ⟨hc, hd⟩) (by omega) (by simp)) (.cons (.tmp rfl) (.cons (.tmp rfl) .nil)) rfl rfl) ?_
 refine aT ?_
 refine hK3 _ ?_
 refine sr fun K4 hK4=>?_
 refine mT ?_
 refine ar0 (s_errNe (.tmp rfl) (by first | exact .inl rfl | exact .inr ⟨_, _, rfl⟩ | exact errV_or _) T41 rfl rfl) ?_
 refine hK4 _ ?_
 refine awp_cond (.tmp rfl) (fun ht16 => ?_) (fun ht16 => ?_)
 ·cases ht16
 ·skip
  refine awp_skip (hK2 _ ?_)
  refine sr fun K5 hK5=>?_
  refine lP T30 ?_
  refine ar0 (s_build (.cons (.tmp rfl) .nil) T234 rfl rfl rfl rfl rfl) ?_
  refine bX ?_
  refine aT ?_
  refine hK5 _ ?_
  refine awp_seq ?_; intro K6 hK6
  refine awp_region_draw mixedP ?_
  refine mT ?_
  refine mT ?_
  refine fP T151 ?_
  refine lP T60 ?_
  refine fP T151 ?_
  refine lP T60 ?_
  refine ar (s_callH (Con.rekeyB 21 rfl rfl rfl rfl (c_sum_add tw ha hc (by omega))) (.cons (.tmp rfl) (.cons (.tmp rfl) (.cons (.tmp rfl) .nil))) (by first | exact hH0 | exact hH1 rfl | exact hH2 rfl rfl) rfl rfl) (newOk_of rfl) ?_
  refine mT ?_
  refine fP T151 ?_
  refine lP T60 ?_
  refine fP T151 ?_
  refine lP T60 ?_
  refine ar (s_callH (Con.rekeyB 21 rfl rfl rfl rfl (c_sum_add tw hb hd (by omega))) (.cons (.tmp rfl) (.cons (.tmp rfl) (.cons (.tmp rfl) .nil))) (by first | exact hH0 | exact hH1 rfl | exact hH2 rfl rfl) rfl rfl) (newOk_of rfl) ?_
  refine ar0 (s_build (.cons (.tmp rfl) (.cons (.tmp rfl) .nil)) T151 rfl rfl rfl rfl rfl) ?_
  refine ar (s_callH (Con.rekeyB 21 rfl rfl rfl rfl (c_sum_point _ _ _)) (.cons (.tmp rfl) (.cons (.tmp rfl) .nil)) (by first | exact hH0 | exact hH1 rfl | exact hH2 rfl rfl) rfl rfl) (newOk_of rfl) ?_
  refine ar0 (s_extract (.tmp rfl) rfl rfl) ?_
  refine ar0 (s_extract (.tmp rfl) rfl rfl) ?_
  refine sP T151 ?_
  refine aT ?_
  refine ⟨by kernel_rfl, ?_⟩
  refine hK6 _ ?_
  refine awp_ret ⟨_, (.cons (.cell rfl rfl T151 rfl rfl) (.cons (.tmp rfl) .nil)), ?_⟩
  exact fin_eq (by rfl)
theorem c_point_Of {x y : Rat} (hx : Qs x) (hy : Qs y) : FnC Tryz.prog 231 [qA x, qA y] (ptA (sh 0 (x : Rat)) (sh 0 (y : Rat))) := by
 refine con_of0 (N := 10) (rs := [.cell 4 151]) Tryz.func231 rfl rfl rfl rfl ?_
 refine sr fun K1 hK1=>?_
 refine bX ?_
 refine bX ?_
 refine al T151 ?_
 refine hK1 _ ?_
 refine awp_seq ?_; intro K2 hK2
 refine awp_region_draw mixedP ?_
 refine lP T68 ?_
 refine ar0 (s_call (tw_Of hx) (.cons (.tmp rfl) .nil) rfl rfl) ?_
 refine lP T68 ?_
 refine ar0 (s_call (tw_Of hy) (.cons (.tmp rfl) .nil) rfl rfl) ?_
 refine ar0 (s_build (.cons (.tmp rfl) (.cons (.tmp rfl) .nil)) T151 rfl rfl rfl rfl rfl) ?_
 refine sP T151 ?_
 refine ⟨by kernel_rfl, ?_⟩
 refine hK2 _ ?_
 refine awp_ret ⟨_, (.cons (.cell rfl rfl T151 rfl rfl) .nil), ?_⟩
 exact fin_eq (by first | rfl | (simp; done))
theorem c_point_At {ts : List (List Rat)} {r e : Nat} (tw : Tw ts r) {a b c d : List Rat} (ha : Nm ts.length e a) (hb : Nm ts.length e b) (hc : Nm ts.length e c) (hd : Nm ts.length e d) {x y : Rat} (hx : Qb e x) (hy : Qb e y) (he : 8 * e + 4 * kB r + 4 ≤ 1000000000) :
  FnC Tryz.prog 192 [towA ts, .agg [nA a, nA b, nA c, nA d], qA x, qA y] (.tup [ptA (sh ts.length (atX ts (dec ts.length a) (dec ts.length b) (dec ts.length c) x y)) (sh ts.length (atY ts (dec ts.length a) (dec ts.length b) (dec ts.length d) x y)), .v .nilIface]) := by
 have nx := Nm.ofQ ha.five (Cb.one hx)
 have ny := Nm.ofQ ha.five (Cb.one hy)
 have nX := turn_nmX tw ha hb nx ny
 have nY := turn_nmY tw ha hb nx ny
 have z1 : e ≤ 2 * (e + e + kB r) + 1 := by omega
 have z2 : 2 * (2 * (e + e + kB r) + 1) ≤ 1000000000 := at_size he
 have hadd := c_point_Add tw nX nY (hc.mono z1) (hd.mono z1) z2
 refine con_of0 (N := 54) (rs := [.cell 8 151, .tmp 9]) Tryz.func192 rfl rfl rfl rfl ?_
 refine sr fun K1 hK1=>?_
 refine bX ?_
 refine bX ?_
 refine bX ?_
 refine bX ?_
 refine al T151 ?_
 refine aC ?_
 refine hK1 _ ?_
 refine awp_seq ?_; intro K2 hK2
 refine sr fun K3 hK3=>?_
 refine lP T30 ?_
 refine fP T62 ?_
 refine lP T60 ?_
 refine fP T62 ?_
 refine lP T60 ?_
 refine fP T62 ?_
 refine lP T60 ?_
 refine fP T62 ?_
 refine lP T60 ?_
 refine ar0 (s_buildLst rfl (.cons (.tmp rfl) (.cons (.tmp rfl) (.cons (.tmp rfl) (.cons (.tmp rfl) .nil)))) T28 rfl T60 rfl rfl rfl rfl rfl rfl rfl rfl) ?_
 refine ar0 (s_call (c_point_check (e := e) tw [a, b, c, d] (by simp only [List.mem_cons, List.not_mem_nil, or_false]; rintro x (rfl | rfl | rfl | rfl) <;> assumption) (by omega) (by simp)) (.cons (.tmp rfl) (.cons (.tmp rfl) .nil)) rfl rfl) ?_
 refine aT ?_
 refine hK3 _ ?_
 refine sr fun K4 hK4=>?_
 refine mT ?_
 refine ar0 (s_errNe (.tmp rfl) (by first | exact .inl rfl | exact .inr ⟨_, _, rfl⟩ | exact errV_or _) T41 rfl rfl) ?_
 refine hK4 _ ?_
 refine awp_cond (.tmp rfl) (fun ht25 => ?_) (fun ht25 => ?_)
 ·cases ht25
 ·skip
  refine awp_skip (hK2 _ ?_)
  refine awp_seq ?_; intro K5 hK5
  refine awp_region_draw mixedP ?_
  refine lP T30 ?_
  refine fP T62 ?_
  refine lP T60 ?_
  refine fP T62 ?_
  refine lP T60 ?_
  refine lP T68 ?_
  refine lP T68 ?_
  refine ar0 (s_call (c_point_Of (hx.qs (by omega)) (hy.qs (by omega))) (.cons (.tmp rfl) (.cons (.tmp rfl) .nil)) rfl rfl) ?_
  refine ar0 (s_call (c_point_Turn tw ha hb nx ny (by omega)) (.cons (.tmp rfl) (.cons (.tmp rfl) (.cons (.tmp rfl) (.cons (.tmp rfl) .nil)))) rfl rfl) ?_
  refine mT ?_
  refine ar0 (s_extract (.tmp rfl) rfl rfl) ?_
  refine ar0 (s_extract (.tmp rfl) rfl rfl) ?_
  refine al T151 ?_
  refine sP T151 ?_
  refine aT ?_
  refine ⟨by kernel_rfl, ?_⟩
  refine hK5 _ ?_
  refine awp_seq ?_; intro K6 hK6
  refine sr fun K7 hK7=>?_
  refine mT ?_
  refine ar0 (s_errNe (.tmp rfl) (by first | exact .inl rfl | exact .inr ⟨_, _, rfl⟩ | exact errV_or _) T41 rfl rfl) ?_
  refine hK7 _ ?_
  refine awp_cond (.tmp rfl) (fun ht41 => ?_) (fun ht41 => ?_)
  ·cases ht41
  ·skip
   refine awp_skip (hK6 _ ?_)
   refine sr fun K8 hK8=>?_
   refine lP T30 ?_
   refine lP T151 ?_
   refine fP T62 ?_
   refine lP T60 ?_
   refine fP T62 ?_
   refine lP T60 ?_
   refine ar0 (s_build (.cons (.tmp rfl) (.cons (.tmp rfl) .nil)) T151 rfl rfl rfl rfl rfl) ?_
   refine ar0 (s_call hadd (.cons (.tmp rfl) (.cons (.tmp rfl) (.cons (.tmp rfl) .nil))) rfl rfl) ?_
   refine ar0 (s_extract (.tmp rfl) rfl rfl) ?_
   refine ar0 (s_extract (.tmp rfl) rfl rfl) ?_
   refine sP T151 ?_
   refine aT ?_
   refine hK8 _ ?_
   refine awp_ret ⟨_, (.cons (.cell rfl rfl T151 rfl rfl) (.cons (.tmp rfl) .nil)), ?_⟩
   exact fin_eq (by rw [at_ap1, at_ap2]; rfl)
end Go.Lw
namespace Go.Lw
open Go.Proofs
theorem c_r11_Bad (rs : List (List Rt)) (r e : Nat) (h : TR rs r) (xs : List (List Rt)) (hx : ∀ a ∈ xs, NR a e) (he : e ≤ 1000000000) (hl : xs.length ≤ 1000) : FnC Tryz.prog 37 [towR rs, .lst 1 (xs.map nR)] (i64 (chksE rs xs)) := by
  refine con_of0 (N := 31) (rs := [.tmp 4]) Tryz.func37 rfl rfl rfl rfl ?_
  refine sr fun K1 hK1=>?_
  refine bX ?_
  refine aC ?_
  refine hK1 _ ?_
  refine awp_seq ?_; intro K2 hK2
  refine sr fun K3 hK3=>?_
  refine lP T30 ?_
  refine ar0 (s_call (c_r04_Check rs r h) (.cons (.tmp rfl) .nil) rfl rfl) ?_
  refine aT ?_
  refine hK3 _ ?_
  refine sr fun K4 hK4=>?_
  refine mT ?_
  refine ar0 (s_cmp (.tmp rfl) (.const _) rfl rfl) ?_
  refine hK4 _ ?_
  refine awp_cond (.tmp rfl) (fun ht13 => ?_) (fun ht13 => ?_)
  · have h1 := neq_t ht13
    refine sr fun K5 hK5=>?_
    refine mT ?_
    refine aT ?_
    refine hK5 _ ?_
    refine awp_ret ⟨_, (.cons (.tmp rfl) .nil), ?_⟩
    exact fin_eq1 (by rw [chks_chk h1])
  · have h1 := neq_f ht13
    refine awp_skip (hK2 _ ?_)
    refine awp_seq ?_; intro K6 hK6
    refine sr fun K7 hK7=>?_
    refine mT ?_
    refine ar0 (s_lenMap (.tmp rfl) T28 rfl rfl) ?_
    refine ar0 (s_move (.const _) rfl) ?_
    refine hK7 _ ?_
    refine awp_block ?_
    refine awp_loop (fun n_ s_ => ∃ (i : Nat), xs.length - i = n_ ∧ (i ≤ xs.length ∧ ∀ x ∈ xs.take i, numE rs.length x = 0) ∧ s_ = (⟨[(2, some (.ptr 2 0)), (15, some (.lst 1 (xs.map nR))), (16, some (i64 xs.length)), (17, some (i64 i))], [(2, some (.box [.lst 1 (rs.map nR)]))]⟩ : AS))
      (n := ((fun (i : Nat) => xs.length - i) (0))) (s' := ((fun (i : Nat) => (⟨[(2, some (.ptr 2 0)), (15, some (.lst 1 (xs.map nR))), (16, some (i64 xs.length)), (17, some (i64 i))], [(2, some (.box [.lst 1 (rs.map nR)]))]⟩ : AS)) (0)))
      (Wk.of (.k (.k (.k (.k .nil)))) (.cons rfl (.refl _) .nil)) ⟨0, rfl, ⟨Nat.zero_le _, fun x hx => by simp at hx⟩, rfl⟩ ?_
    intro n_ s_ hI K8 hK8
    obtain ⟨i, rfl, ⟨hi, hj⟩, rfl⟩ := hI
    refine sr fun K9 hK9=>?_
    refine ar0 (s_cmp (.tmp rfl) (.tmp rfl) rfl rfl) ?_
    refine hK9 _ ?_
    refine awp_seq ?_; intro K10 hK10
    refine awp_cond (.tmp rfl) (fun ht18 => ?_) (fun ht18 => ?_)
    · have hin : i < xs.length := by simpa [icmp] using ht18
      obtain ⟨a, ha⟩ := getx hin
      have hok := hx a (List.mem_of_getElem? ha)
      have hone : chksE rs [a] = numE rs.length a := chks_one h1
      refine awp_skip (hK10 _ ?_)
      refine awp_seq ?_; intro K11 hK11
      refine awp_block ?_
      refine sr fun K12 hK12=>?_
      refine ar0 (s_idxLst (.tmp rfl) (.tmp rfl) T28 rfl T60 rfl (by omega) (getmap ha) rfl) ?_
      refine ar0 (s_loadIptr (.tmp rfl) T60 rfl rfl rfl) ?_
      refine aT ?_
      refine hK12 _ ?_
      refine sr fun K13 hK13=>?_
      refine lP T30 ?_
      refine mT ?_
      refine ar0 (s_call (c_r04_Lift rs r h a e hok he) (.cons (.tmp rfl) (.cons (.tmp rfl) .nil)) rfl rfl) ?_
      refine mT ?_
      refine ar0 (s_extract (.tmp rfl) rfl rfl) ?_
      refine ar0 (s_extract (.tmp rfl) rfl rfl) ?_
      refine aT ?_
      refine aT ?_
      refine hK13 _ ?_
      refine sr fun K14 hK14=>?_
      refine mT ?_
      refine ar0 (s_cmp (.tmp rfl) (.const _) rfl rfl) ?_
      refine hK14 _ ?_
      refine awp_cond (.tmp rfl) (fun ht28 => ?_) (fun ht28 => ?_)
      · have h2 := neq_t ht28
        refine sr fun K15 hK15=>?_
        refine mT ?_
        refine aT ?_
        refine hK15 _ ?_
        refine awp_ret ⟨_, (.cons (.tmp rfl) .nil), ?_⟩
        exact fin_eq1 (by rw [hone] at h2 ⊢; rw [chks_at h1 ha hj h2])
      · have h2 := neq_f ht28
        rw [hone] at h2
        refine awp_skip (hK11 _ ?_)
        refine awp_region ?_
        refine ar0 (s_arithW (.tmp rfl) (.const _) rfl (i64_add1 (by unfold maxL; omega)) rfl) ?_
        refine mT ?_
        refine hK8 _ ((fun (i : Nat) => (⟨[(2, some (.ptr 2 0)), (15, some (.lst 1 (xs.map nR))), (16, some (i64 xs.length)), (17, some (i64 i))], [(2, some (.box [.lst 1 (rs.map nR)]))]⟩ : AS)) (i + 1)) ((fun (i : Nat) => xs.length - i) (i + 1)) (Wk.of (.k (.k (.k (.k .nil)))) (.cons rfl (.refl _) .nil)) ⟨i + 1, rfl, ⟨hin, fun x hx => by rw [take_succ_get ha] at hx; rcases List.mem_append.1 hx with h9 | h9; exact hj x h9; (rw [List.mem_singleton.1 h9]; exact h2)⟩, rfl⟩ (by first | omega | (dsimp only; omega))
    · have hin : i = xs.length := by have : xs.length ≤ i := by simpa [icmp] using ht18
                                     omega
      subst hin
      rw [List.take_length] at hj
      refine awp_exit ?_
      refine hK6 _ ?_
      refine sr fun K16 hK16=>?_
      refine aC ?_
      refine hK16 _ ?_
      refine awp_ret ⟨_, (.cons (.tmp rfl) .nil), ?_⟩
      exact fin_eq1 (by rw [chks_of h1 hj]; rfl)
theorem c_r11_Equal {ts : List (List Rat)} {r e f : Nat} (tw : Tw ts r) {a b : List Rat} (ha : Nm ts.length e a) (hb : Nm ts.length f b) (he : e + f ≤ 900000000) : FnC Tryz.prog 40 [towA ts, nA a, nA b] (bl (eqT ts (dec ts.length a) (dec ts.length b))) := by
 refine con_of0 (N := 22) (rs := [.tmp 6]) Tryz.func40 rfl rfl rfl rfl ?_
 refine sr fun K1 hK1=>?_
 refine bX ?_
 refine aC ?_
 refine hK1 _ ?_
 refine sr fun K2 hK2=>?_
 refine lP T30 ?_
 refine mT ?_
 refine mT ?_
 refine ar0 (s_call (r4_Cmp tw ha hb he) (.cons (.tmp rfl) (.cons (.tmp rfl) (.cons (.tmp rfl) .nil))) rfl rfl) ?_
 refine mT ?_
 refine ar0 (s_extract (.tmp rfl) rfl rfl) ?_
 refine ar0 (s_extract (.tmp rfl) rfl rfl) ?_
 refine aT ?_
 refine aT ?_
 refine hK2 _ ?_
 refine sr fun K3 hK3=>?_
 refine mT ?_
 refine ar0 (s_cmp (.tmp rfl) (.const _) rfl rfl) ?_
 refine mT ?_
 refine ar0 (s_guard rfl rfl rfl (fun h => s_move (.tmp rfl) rfl)) ?_
 refine ar0 (s_guard rfl rfl rfl (fun h => s_cmp (.opt rfl (o1 h)) (.const _) rfl rfl)) ?_
 refine ar0 (s_pick (.tmp rfl) (fun hp => .opt rfl (o1 hp)) (fun _ => .const _) rfl) ?_
 refine aT ?_
 refine hK3 _ ?_
 refine awp_ret ⟨_, (.cons (.tmp rfl) .nil), ?_⟩
 exact fin_eq1 (by exact congrArg bl (sgn_dec _))
theorem c_r26_SamePlaced {ts : List (List Rat)} {r e : Nat} (tw : Tw ts r) {a b c d p q u v : List Rat} (ha : Nm ts.length e a) (hb : Nm ts.length e b) (hc : Nm ts.length e c) (hd : Nm ts.length e d) (hp : Nm ts.length e p) (hq : Nm ts.length e q) (hu : Nm ts.length e u) (hv : Nm ts.length e v) (he : 2 * e ≤ 900000000) :
  FnC Tryz.prog 17 [towA ts, .agg [nA a, nA b, nA c, nA d], .agg [nA p, nA q, nA u, nA v]] (bl (eqT ts (dec ts.length a) (dec ts.length p) && eqT ts (dec ts.length b) (dec ts.length q) && eqT ts (dec ts.length c) (dec ts.length u) && eqT ts (dec ts.length d) (dec ts.length v))) := by
 refine con_of0 (N := 37) (rs := [.tmp 6]) Tryz.func17 rfl rfl rfl rfl ?_
 refine sr fun K1 hK1=>?_
 refine bX ?_
 refine bX ?_
 refine bX ?_
 refine aC ?_
 refine hK1 _ ?_
 refine sr fun K2 hK2=>?_
 refine lP T30 ?_
 refine fP T62 ?_
 refine lP T60 ?_
 refine fP T62 ?_
 refine lP T60 ?_
 refine ar0 (s_call (c_r11_Equal tw ha hp (by omega)) (.cons (.tmp rfl) (.cons (.tmp rfl) (.cons (.tmp rfl) .nil))) rfl rfl) ?_
 refine mT ?_
 refine ar0 (s_guard rfl rfl rfl (fun h => s_loadPtr (.tmp rfl) rfl T30 rfl rfl rfl)) ?_
 refine ar0 (s_guard rfl rfl rfl (fun h => s_fldPtr (.tmp rfl) T62 rfl rfl rfl rfl)) ?_
 refine ar0 (s_guard rfl rfl rfl (fun h => s_loadPtr (.opt rfl (o1 h)) rfl T60 rfl rfl rfl)) ?_
 refine ar0 (s_guard rfl rfl rfl (fun h => s_fldPtr (.tmp rfl) T62 rfl rfl rfl rfl)) ?_
 refine ar0 (s_guard rfl rfl rfl (fun h => s_loadPtr (.opt rfl (o1 h)) rfl T60 rfl rfl rfl)) ?_
 refine ar0 (s_guard rfl rfl rfl (fun h => s_call (c_r11_Equal tw hb hq (by omega)) (.cons (.opt rfl (o1 h)) (.cons (.opt rfl (o1 h)) (.cons (.opt rfl (o1 h)) .nil))) rfl rfl)) ?_
 refine ar0 (s_pick (.tmp rfl) (fun hp => .opt rfl (o1 hp)) (fun _ => .const _) rfl) ?_
 refine mT ?_
 refine ar0 (s_guard rfl rfl rfl (fun h => s_loadPtr (.tmp rfl) rfl T30 rfl rfl rfl)) ?_
 refine ar0 (s_guard rfl rfl rfl (fun h => s_fldPtr (.tmp rfl) T62 rfl rfl rfl rfl)) ?_
 refine ar0 (s_guard rfl rfl rfl (fun h => s_loadPtr (.opt rfl (o1 h)) rfl T60 rfl rfl rfl)) ?_
 refine ar0 (s_guard rfl rfl rfl (fun h => s_fldPtr (.tmp rfl) T62 rfl rfl rfl rfl)) ?_
 refine ar0 (s_guard rfl rfl rfl (fun h => s_loadPtr (.opt rfl (o1 h)) rfl T60 rfl rfl rfl)) ?_
 refine ar0 (s_guard rfl rfl rfl (fun h => s_call (c_r11_Equal tw hc hu (by omega)) (.cons (.opt rfl (o1 h)) (.cons (.opt rfl (o1 h)) (.cons (.opt rfl (o1 h)) .nil))) rfl rfl)) ?_
 refine ar0 (s_pick (.tmp rfl) (fun hp => .opt rfl (o1 hp)) (fun _ => .const _) rfl) ?_
 refine mT ?_
 refine ar0 (s_guard rfl rfl rfl (fun h => s_loadPtr (.tmp rfl) rfl T30 rfl rfl rfl)) ?_
 refine ar0 (s_guard rfl rfl rfl (fun h => s_fldPtr (.tmp rfl) T62 rfl rfl rfl rfl)) ?_
 refine ar0 (s_guard rfl rfl rfl (fun h => s_loadPtr (.opt rfl (o1 h)) rfl T60 rfl rfl rfl)) ?_
 refine ar0 (s_guard rfl rfl rfl (fun h => s_fldPtr (.tmp rfl) T62 rfl rfl rfl rfl)) ?_
 refine ar0 (s_guard rfl rfl rfl (fun h => s_loadPtr (.opt rfl (o1 h)) rfl T60 rfl rfl rfl)) ?_
 refine ar0 (s_guard rfl rfl rfl (fun h => s_call (c_r11_Equal tw hd hv (by omega)) (.cons (.opt rfl (o1 h)) (.cons (.opt rfl (o1 h)) (.cons (.opt rfl (o1 h)) .nil))) rfl rfl)) ?_
 refine ar0 (s_pick (.tmp rfl) (fun hp => .opt rfl (o1 hp)) (fun _ => .const _) rfl) ?_
 refine aT ?_
 refine hK2 _ ?_
 refine awp_ret ⟨_, (.cons (.tmp rfl) .nil), ?_⟩
 exact fin_eq1 (by exact congrArg bl (and_cond4 _ _ _ _))
theorem c_r26_Frame : FnC Tryz.prog 26 [] (.agg [nA [1], nA [], nA [], nA []]) := by
 refine con_of0 (N := 4) (rs := [.cell 0 62]) Tryz.func26 rfl rfl rfl rfl ?_
 refine sr fun K1 hK1=>?_
 refine al T62 ?_
 refine hK1 _ ?_
 refine sr fun K2 hK2=>?_
 refine ar0 (s_call (c_r02_Of 1 (by omega)) (.cons (.const _) .nil) rfl rfl) ?_
 refine ar0 (s_call (r4_Of (int_qs (n := 1) (by omega))) (.cons (.tmp rfl) .nil) rfl rfl) ?_
 refine ar0 (s_build (.cons (.tmp rfl) .nil) T62 rfl rfl rfl rfl rfl) ?_
 refine sP T62 ?_
 refine hK2 _ ?_
 refine awp_ret ⟨_, (.cons (.cell rfl rfl T62 rfl rfl) .nil), ?_⟩
 exact fin_sub1 (.agg (.cons (.refl _) (.cons (.nil _ _ _) (.cons (.nil _ _ _) (.cons (.nil _ _ _) .nil)))) rfl)
end Go.Lw
namespace Go.Lw
open Go.Proofs
def u8 (n : Nat) : AV := .v (.int .u8 n)
theorem and_dec {p q : Bool} {a b : Nat} {c : Nat} (hp : p = decide (a ≤ c)) (hq : q = decide (c ≤ b)) : cond p q false = decide (a ≤ c ∧ c ≤ b) := by
 subst hp; subst hq
 by_cases h : a ≤ c
 ·simp [h]
 ·simp [h]
theorem ge_u8 (c k : Nat) : icmp .geq (c : Int) (k : Int) = decide (k ≤ c) := by simp only [icmp, decide_eq_decide]; omega
theorem le_u8 (c k : Nat) : icmp .leq (c : Int) (k : Int) = decide (c ≤ k) := by simp only [icmp, decide_eq_decide]; omega
theorem letter_1 (c : Nat) : cond (cond (icmp .geq (c : Int) 97) (icmp .leq (c : Int) 122) false) true (cond (icmp .geq (c : Int) 65) (icmp .leq (c : Int) 90) false) = letterB c := by
 have e1 : cond (icmp .geq (c : Int) 97) (icmp .leq (c : Int) 122) false = decide (97 ≤ c ∧ c ≤ 122) := and_dec (ge_u8 c 97) (le_u8 c 122)
 have e2 : cond (icmp .geq (c : Int) 65) (icmp .leq (c : Int) 90) false = decide (65 ≤ c ∧ c ≤ 90) := and_dec (ge_u8 c 65) (le_u8 c 90)
 rw [e1, e2]
 unfold letterB
 cases decide (97 ≤ c ∧ c ≤ 122) <;> rfl
theorem digit_1 (c : Nat) : cond (icmp .geq (c : Int) 48) (icmp .leq (c : Int) 57) false = digitB c := and_dec (ge_u8 c 48) (le_u8 c 57)
theorem part_1 (c : Nat) : cond (cond (letterB c) true (digitB c)) true (icmp .eql (c : Int) 95) = partB c := by
 unfold partB
 have : icmp .eql (c : Int) 95 = decide (c = 95) := by
  rw [Bool.eq_iff_iff]; simp only [icmp, beq_iff_eq, decide_eq_true_eq]; omega
 rw [this]
 cases letterB c <;> cases digitB c <;> rfl
theorem c_token_letter (c : Nat) : FnC Tryz.prog 180 [u8 c] (bl (letterB c)) := by
 refine con_of0 (N := 17) (rs := [.tmp 2]) Tryz.func180 rfl rfl rfl rfl ?_
 refine sr fun K1 hK1=>?_
 refine aC ?_
 refine hK1 _ ?_
 refine sr fun K2 hK2=>?_
 refine mT ?_
 refine ar0 (s_cmp (.tmp rfl) (.const _) rfl rfl) ?_
 refine mT ?_
 refine ar0 (s_guard rfl rfl rfl (fun h => s_move (.tmp rfl) rfl)) ?_
 refine ar0 (s_guard rfl rfl rfl (fun h => s_cmp (.opt rfl (o1 h)) (.const _) rfl rfl)) ?_
 refine ar0 (s_pick (.tmp rfl) (fun hp => .opt rfl (o1 hp)) (fun _ => .const _) rfl) ?_
 refine mT ?_
 refine ar0 (s_guard rfl rfl rfl (fun h => s_move (.tmp rfl) rfl)) ?_
 refine ar0 (s_guard rfl rfl rfl (fun h => s_cmp (.opt rfl (o1 h)) (.const _) rfl rfl)) ?_
 refine ar0 (s_guard rfl rfl rfl (fun h => s_move (.opt rfl (o1 h)) rfl)) ?_
 refine ar0 (s_guardO rfl rfl rfl (fun h h2 => s_move (.tmp rfl) rfl)) ?_
 refine ar0 (s_guardO rfl rfl rfl (fun h h2 => s_cmp (.opt rfl (o2 h h2)) (.const _) rfl rfl)) ?_
 refine ar0 (s_guard rfl rfl rfl (fun h => s_pick (.opt rfl (o1 h)) (fun hp => .opt rfl (o2 (o1 h) hp)) (fun _ => .const _) rfl)) ?_
 refine ar0 (s_pick (.tmp rfl) (fun _ => .const _) (fun hp => .opt rfl (o1 hp)) rfl) ?_
 refine aT ?_
 refine hK2 _ ?_
 refine awp_ret ⟨_, (.cons (.tmp rfl) .nil), ?_⟩
 exact fin_eq1 (by exact congrArg bl (letter_1 c))
theorem c_token_digit (c : Nat) : FnC Tryz.prog 218 [u8 c] (bl (digitB c)) := by
 refine con_of0 (N := 9) (rs := [.tmp 2]) Tryz.func218 rfl rfl rfl rfl ?_
 refine sr fun K1 hK1=>?_
 refine aC ?_
 refine hK1 _ ?_
 refine sr fun K2 hK2=>?_
 refine mT ?_
 refine ar0 (s_cmp (.tmp rfl) (.const _) rfl rfl) ?_
 refine mT ?_
 refine ar0 (s_guard rfl rfl rfl (fun h => s_move (.tmp rfl) rfl)) ?_
 refine ar0 (s_guard rfl rfl rfl (fun h => s_cmp (.opt rfl (o1 h)) (.const _) rfl rfl)) ?_
 refine ar0 (s_pick (.tmp rfl) (fun hp => .opt rfl (o1 hp)) (fun _ => .const _) rfl) ?_
 refine aT ?_
 refine hK2 _ ?_
 refine awp_ret ⟨_, (.cons (.tmp rfl) .nil), ?_⟩
 exact fin_eq1 (by exact congrArg bl (digit_1 c))
theorem c_token_part (c : Nat) : FnC Tryz.prog 181 [u8 c] (bl (partB c)) := by
 refine con_of0 (N := 13) (rs := [.tmp 2]) Tryz.func181 rfl rfl rfl rfl ?_
 refine sr fun K1 hK1=>?_
 refine aC ?_
 refine hK1 _ ?_
 refine sr fun K2 hK2=>?_
 refine mT ?_
 refine ar0 (s_call (c_token_letter c) (.cons (.tmp rfl) .nil) rfl rfl) ?_
 refine mT ?_
 refine ar0 (s_guard rfl rfl rfl (fun h => s_move (.tmp rfl) rfl)) ?_
 refine ar0 (s_guard rfl rfl rfl (fun h => s_call (c_token_digit c) (.cons (.opt rfl (o1 h)) .nil) rfl rfl)) ?_
 refine ar0 (s_pick (.tmp rfl) (fun _ => .const _) (fun hp => .opt rfl (o1 hp)) rfl) ?_
 refine mT ?_
 refine ar0 (s_guard rfl rfl rfl (fun h => s_move (.tmp rfl) rfl)) ?_
 refine ar0 (s_guard rfl rfl rfl (fun h => s_cmp (.opt rfl (o1 h)) (.const _) rfl rfl)) ?_
 refine ar0 (s_pick (.tmp rfl) (fun _ => .const _) (fun hp => .opt rfl (o1 hp)) rfl) ?_
 refine aT ?_
 refine hK2 _ ?_
 refine awp_ret ⟨_, (.cons (.tmp rfl) .nil), ?_⟩
 exact fin_eq1 (by exact congrArg bl (part_1 c))
theorem c_token_word (s : ByteArray) (hs : s.size ≤ 281474976710656) : FnC Tryz.prog 125 [.v (.string s)] (i64 (wordL s)) := by
 refine con_of0 (N := 25) (rs := [.tmp 2]) Tryz.func125 rfl rfl rfl rfl ?_
 refine sr fun K1 hK1=>?_
 refine aC ?_
 refine hK1 _ ?_
 refine awp_seq ?_; intro K2 hK2
 refine sr fun K3 hK3=>?_
 refine mT ?_
 refine ar0 (s_strCmp (.tmp rfl) (.const _) rfl) ?_
 refine mT ?_
 refine ar0 (s_guard rfl rfl rfl (fun h => s_move (.tmp rfl) rfl)) ?_
 refine ar0 (s_guard rfl rfl rfl (fun h => s_idxStr (.opt rfl (o1 h)) (.const _) T9 rfl (by omega) (by have := empty_f h; omega) rfl)) ?_
 refine ar0 (s_guard rfl rfl rfl (fun h => s_call (c_token_letter (byteAt s 0)) (.cons (.opt rfl (o1 h)) .nil) rfl rfl)) ?_
 refine ar0 (s_guard rfl rfl rfl (fun h => s_not (.opt rfl (o1 h)) rfl)) ?_
 refine ar0 (s_pick (.tmp rfl) (fun _ => .const _) (fun hp => .opt rfl (o1 hp)) rfl) ?_
 refine hK3 _ ?_
 refine awp_cond (.tmp rfl) (fun ht11 => ?_) (fun ht11 => ?_)
 ·have h0 : wordL s = 0 := word_none ht11
  refine sr fun K4 hK4=>?_
  refine aC ?_
  refine hK4 _ ?_
  refine awp_ret ⟨_, (.cons (.tmp rfl) .nil), ?_⟩
  exact fin_eq1 (by rw [h0]; rfl)
 ·obtain ⟨h0, h1⟩ := word_some ht11
  refine awp_skip (hK2 _ ?_)
  refine sr fun K5 hK5=>?_
  refine aC ?_
  refine hK5 _ ?_
  refine awp_seq ?_; intro K6 hK6
  refine awp_block ?_
  refine awp_loop (fun n_ s_ => ∃ (n : Nat), s.size - n = n_ ∧ (1 ≤ n ∧ n ≤ s.size ∧ wordN s 1 (s.size - 1) = wordN s n (s.size - n)) ∧ s_ = (⟨[(0, some (.v (.string s))), (3, some (i64 n))], []⟩ : AS))
   (n := ((fun (n : Nat) => s.size - n) (1))) (s' := ((fun (n : Nat) => (⟨[(0, some (.v (.string s))), (3, some (i64 n))], []⟩ : AS)) (1)))
   (Wk.of (.k (.k .nil)) .nil) ⟨1, rfl, ⟨Nat.le_refl _, h0, rfl⟩, rfl⟩ ?_
  intro n_ s_ hI K7 hK7
  obtain ⟨n, rfl, ⟨hn1, hn, hw⟩, rfl⟩ := hI
  refine awp_seq ?_; intro K8 hK8
  refine sr fun K9 hK9=>?_
  refine mT ?_
  refine mT ?_
  refine ar0 (s_lenStr (.tmp rfl) T9 rfl rfl) ?_
  refine ar0 (s_cmp (.tmp rfl) (.tmp rfl) rfl rfl) ?_
  refine mT ?_
  refine ar0 (s_guard rfl rfl rfl (fun h => s_move (.tmp rfl) rfl)) ?_
  refine ar0 (s_guard rfl rfl rfl (fun h => s_move (.tmp rfl) rfl)) ?_
  refine ar0 (s_guard rfl rfl rfl (fun h => s_idxStr (.opt rfl (o1 h)) (.opt rfl (o1 h)) T9 rfl (by omega) (by have := lss_t h; omega) rfl)) ?_
  refine ar0 (s_guard rfl rfl rfl (fun h => s_call (c_token_part (byteAt s n)) (.cons (.opt rfl (o1 h)) .nil) rfl rfl)) ?_
  refine ar0 (s_pick (.tmp rfl) (fun hp => .opt rfl (o1 hp)) (fun _ => .const _) rfl) ?_
  refine hK9 _ ?_
  refine awp_cond (.tmp rfl) (fun ht21 => ?_) (fun ht21 => ?_)
  ·have h2 : n < s.size ∧ partB (byteAt s n) = true := cond_lss ht21
   refine awp_skip (hK8 _ ?_)
   refine awp_block ?_
   refine awp_region ?_
   refine mT ?_
   refine ar0 (s_arithW (.tmp rfl) (.const _) rfl (i64_add1 (by unfold maxL; omega)) rfl) ?_
   refine aT ?_
   refine hK7 _ ((fun (n : Nat) => (⟨[(0, some (.v (.string s))), (3, some (i64 n))], []⟩ : AS)) (n + 1)) ((fun (n : Nat) => s.size - n) (n + 1)) (Wk.of (.k (.k .nil)) .nil) ⟨n + 1, rfl, ⟨by omega, by omega, by rw [hw, show s.size - n = (s.size - (n + 1)) + 1 by omega]; simp only [wordN, h2.2, if_true]⟩, rfl⟩ (by first | omega | (dsimp only; omega))
  ·have h2 : n < s.size → partB (byteAt s n) = false := cond_nlss ht21
   have h3 : wordL s = n := by
    unfold wordL
    rw [if_pos ⟨h0, h1⟩, hw]
    rcases Nat.lt_or_ge n s.size with h | h
    ·rw [show s.size - n = (s.size - (n + 1)) + 1 by omega]
     simp only [wordN, h2 h, Bool.false_eq_true, if_false]
    ·rw [show s.size - n = 0 by omega]; rfl
   refine awp_exit ?_
   refine hK6 _ ?_
   refine sr fun K10 hK10=>?_
   refine mT ?_
   refine aT ?_
   refine hK10 _ ?_
   refine awp_ret ⟨_, (.cons (.tmp rfl) .nil), ?_⟩
   exact fin_eq1 (by rw [h3])
theorem c_token_Name (s : ByteArray) (hs : s.size ≤ 281474976710656) : FnC Tryz.prog 65 [.v (.string s)] (bl (nameB s)) := by
 refine con_of0 (N := 18) (rs := [.tmp 2]) Tryz.func65 rfl rfl rfl rfl ?_
 refine sr fun K1 hK1=>?_
 refine aC ?_
 refine hK1 _ ?_
 refine sr fun K2 hK2=>?_
 refine mT ?_
 refine ar0 (s_call (c_token_word s hs) (.cons (.tmp rfl) .nil) rfl rfl) ?_
 refine aT ?_
 refine hK2 _ ?_
 refine sr fun K3 hK3=>?_
 refine mT ?_
 refine ar0 (s_cmp (.tmp rfl) (.const _) rfl rfl) ?_
 refine mT ?_
 refine ar0 (s_guard rfl rfl rfl (fun h => s_move (.tmp rfl) rfl)) ?_
 refine ar0 (s_guard rfl rfl rfl (fun h => s_move (.tmp rfl) rfl)) ?_
 refine ar0 (s_guard rfl rfl rfl (fun h => s_lenStr (.opt rfl (o1 h)) T9 rfl rfl)) ?_
 refine ar0 (s_guard rfl rfl rfl (fun h => s_cmp (.opt rfl (o1 h)) (.opt rfl (o1 h)) rfl rfl)) ?_
 refine ar0 (s_pick (.tmp rfl) (fun hp => .opt rfl (o1 hp)) (fun _ => .const _) rfl) ?_
 refine mT ?_
 refine ar0 (s_guard rfl rfl rfl (fun h => s_move (.tmp rfl) rfl)) ?_
 refine ar0 (s_guard rfl rfl rfl (fun h => s_cmp (.opt rfl (o1 h)) (.const _) rfl rfl)) ?_
 refine ar0 (s_pick (.tmp rfl) (fun hp => .opt rfl (o1 hp)) (fun _ => .const _) rfl) ?_
 refine aT ?_
 refine hK3 _ ?_
 refine awp_ret ⟨_, (.cons (.tmp rfl) .nil), ?_⟩
 exact fin_eq1 (by exact congrArg bl (name_cond s))
end Go.Lw
namespace Go.Lw
open Go.Proofs
theorem c_model_in (i : Int) (n : Nat) : FnC Tryz.prog 127 [i64 i, i64 n] (bl (inB i n)) := by
 refine con_of0 (N := 12) (rs := [.tmp 4]) Tryz.func127 rfl rfl rfl rfl ?_
 refine sr fun K1 hK1=>?_
 refine aC ?_
 refine hK1 _ ?_
 refine sr fun K2 hK2=>?_
 refine mT ?_
 refine ar0 (s_cmp (.tmp rfl) (.const _) rfl rfl) ?_
 refine mT ?_
 refine ar0 (s_guard rfl rfl rfl (fun h => s_move (.tmp rfl) rfl)) ?_
 refine ar0 (s_guard rfl rfl rfl (fun h => s_move (.tmp rfl) rfl)) ?_
 refine ar0 (s_guard rfl rfl rfl (fun h => s_cmp (.opt rfl (o1 h)) (.opt rfl (o1 h)) rfl rfl)) ?_
 refine ar0 (s_pick (.tmp rfl) (fun hp => .opt rfl (o1 hp)) (fun _ => .const _) rfl) ?_
 refine aT ?_
 refine hK2 _ ?_
 refine awp_ret ⟨_, (.cons (.tmp rfl) .nil), ?_⟩
 exact fin_eq1 (by exact congrArg bl (inB_cond i n))
theorem c_model_bodies (bs : List Bd) (hbs : ∀ b ∈ bs, b.ok) (hl : bs.length ≤ 281474976710656) : FnC Tryz.prog 66 [.lst 2 (bs.map Bd.av)] (errA (firstN bs.length (bdE bs))) := by
 refine con_of0 (N := 85) (rs := [.tmp 2]) Tryz.func66 rfl rfl rfl rfl ?_
 refine sr fun K1 hK1=>?_
 refine aC ?_
 refine hK1 _ ?_
 refine awp_seq ?_; intro K2 hK2
 refine sr fun K3 hK3=>?_
 refine mT ?_
 refine ar0 (s_lenMap (.tmp rfl) T22 rfl rfl) ?_
 refine ar0 (s_move (.const _) rfl) ?_
 refine hK3 _ ?_
 refine awp_block ?_
 refine awp_loop (fun n_ s_ => ∃ (i : Nat), bs.length - i = n_ ∧ (i ≤ bs.length ∧ ∀ j, j < i → bdE bs j = 0) ∧ s_ = (⟨[(0, some (.lst 2 (bs.map Bd.av))), (11, some (.lst 2 (bs.map Bd.av))), (12, some (i64 bs.length)), (13, some (i64 i))], []⟩ : AS))
  (n := ((fun (i : Nat) => bs.length - i) (0))) (s' := ((fun (i : Nat) => (⟨[(0, some (.lst 2 (bs.map Bd.av))), (11, some (.lst 2 (bs.map Bd.av))), (12, some (i64 bs.length)), (13, some (i64 i))], []⟩ : AS)) (0)))
  (Wk.of (.k (.k (.k (.k .nil)))) .nil) ⟨0, rfl, ⟨Nat.zero_le _, fun j h => by omega⟩, rfl⟩ ?_
 intro n_ s_ hI K4 hK4
 obtain ⟨i, rfl, ⟨hi, hj⟩, rfl⟩ := hI
 refine sr fun K5 hK5=>?_
 refine ar0 (s_cmp (.tmp rfl) (.tmp rfl) rfl rfl) ?_
 refine hK5 _ ?_
 refine awp_seq ?_; intro K6 hK6
 refine awp_cond (.tmp rfl) (fun ht14 => ?_) (fun ht14 => ?_)
 ·have hin := lss_t ht14
  obtain ⟨b, hb⟩ := getx hin
  have hbd : bs.getD i default = b := getD_of hb
  have hbo := hbs b (List.mem_of_getElem? hb)
  have hbdup := dup_names Bd.name hb
  refine awp_skip (hK6 _ ?_)
  refine awp_seq ?_; intro K7 hK7
  refine awp_block ?_
  refine sr fun K8 hK8=>?_
  refine mT ?_
  refine ar0 (s_idxLst (.tmp rfl) (.tmp rfl) T22 rfl T89 rfl (by omega) (getmap hb) rfl) ?_
  refine ar0 (s_loadIptr (.tmp rfl) T89 rfl rfl rfl) ?_
  refine al T89 ?_
  refine aT ?_
  refine sP T89 ?_
  refine hK8 _ ?_
  refine awp_seq ?_; intro K9 hK9
  refine sr fun K10 hK10=>?_
  refine fP T89 ?_
  refine lP T9 ?_
  refine ar0 (s_call (c_token_Name b.name hbo.name) (.cons (.tmp rfl) .nil) rfl rfl) ?_
  refine ar0 (s_not (.tmp rfl) rfl) ?_
  refine hK10 _ ?_
  refine awp_cond (.tmp rfl) (fun ht21 => ?_) (fun ht21 => ?_)
  ·have h1 := not_t ht21
   have e1 : bdE bs i = 5 := by unfold bdE; rw [hbd, if_pos h1]
   refine sr fun K11 hK11=>?_
   refine ar0 (s_mkIface (.const _) rfl T97 rfl) ?_
   refine aT ?_
   refine hK11 _ ?_
   refine awp_ret ⟨_, (.cons (.tmp rfl) .nil), ?_⟩
   exact fin_eq1 (by rw [firstN_at hin hj (by rw [e1]; decide), e1]; rfl)
  ·have h1 := not_f ht21
   refine awp_skip (hK9 _ ?_)
   refine awp_seq ?_; intro K12 hK12
   refine sr fun K13 hK13=>?_
   refine mT ?_
   refine mT ?_
   refine ar0 (s_sliceLst (.tmp rfl) (.none _) (.some _ (.tmp rfl) (by omega)) T22 rfl T89 rfl (by omega) (by simp only [List.length_map]; omega) rfl) ?_
   refine ar0 (s_lenLst (.tmp rfl) T22 rfl rfl) ?_
   refine ar0 (s_move (.const _) rfl) ?_
   refine hK13 _ ?_
   refine awp_block ?_
   refine awp_loop (fun n_ s_ => ∃ (k : Nat), i - k = n_ ∧ (k ≤ i ∧ (bs.take k).any (fun y => eqS y.name b.name) = false) ∧ s_ = (⟨[(0, some (.lst 2 (bs.map Bd.av))), (3, some (i64 i)), (4, some (.ptr 4 0)), (11, some (.lst 2 (bs.map Bd.av))), (12, some (i64 bs.length)), (13, some (i64 i)), (25, some (.lst 2 ((bs.take i).map Bd.av))), (26, some (i64 i)), (27, some (i64 k))], [(4, some (.box b.av.cells))]⟩ : AS))
    (n := ((fun (k : Nat) => i - k) (0))) (s' := ((fun (k : Nat) => (⟨[(0, some (.lst 2 (bs.map Bd.av))), (3, some (i64 i)), (4, some (.ptr 4 0)), (11, some (.lst 2 (bs.map Bd.av))), (12, some (i64 bs.length)), (13, some (i64 i)), (25, some (.lst 2 ((bs.take i).map Bd.av))), (26, some (i64 i)), (27, some (i64 k))], [(4, some (.box b.av.cells))]⟩ : AS)) (0)))
    (Wk.of (.k (.k (.k (.k (.k (.k (.cons rfl (Sub.of (cutT 2 Bd.av bs i)) (.cons rfl (Sub.int (by simp; omega)) (.k .nil))))))))) (.cons rfl (.refl _) .nil)) ⟨0, rfl, ⟨Nat.zero_le _, rfl⟩, rfl⟩ ?_
   intro n_ s_ hI K14 hK14
   obtain ⟨k, rfl, ⟨hk, hd⟩, rfl⟩ := hI
   refine sr fun K15 hK15=>?_
   refine ar0 (s_cmp (.tmp rfl) (.tmp rfl) rfl rfl) ?_
   refine hK15 _ ?_
   refine awp_seq ?_; intro K16 hK16
   refine awp_cond (.tmp rfl) (fun ht28 => ?_) (fun ht28 => ?_)
   ·have hkn := lss_t ht28
    obtain ⟨y, hy'⟩ : ∃ y, (bs.take i)[k]? = some y := getx (by simp; omega)
    have hy := (get_take hy').1
    refine awp_skip (hK16 _ ?_)
    refine awp_seq ?_; intro K17 hK17
    refine awp_block ?_
    refine sr fun K18 hK18=>?_
    refine ar0 (s_idxLst (.tmp rfl) (.tmp rfl) T22 rfl T89 rfl (by omega) (getmap hy') rfl) ?_
    refine ar0 (s_loadIptr (.tmp rfl) T89 rfl rfl rfl) ?_
    refine al T89 ?_
    refine sP T89 ?_
    refine hK18 _ ?_
    refine sr fun K19 hK19=>?_
    refine fP T89 ?_
    refine lP T9 ?_
    refine fP T89 ?_
    refine lP T9 ?_
    refine ar0 (s_strCmp (.tmp rfl) (.tmp rfl) rfl) ?_
    refine hK19 _ ?_
    refine awp_cond (.tmp rfl) (fun ht35 => ?_) (fun ht35 => ?_)
    ·have h2 : eqS y.name b.name = true := ht35
     have e1 : bdE bs i = 6 := by unfold bdE; rw [hbd, if_neg (by rw [h1]; decide), if_pos (by rw [hbdup]; exact any_hit hy hkn h2)]
     refine sr fun K20 hK20=>?_
     refine ar0 (s_mkIface (.const _) rfl T97 rfl) ?_
     refine aT ?_
     refine hK20 _ ?_
     refine awp_ret ⟨_, (.cons (.tmp rfl) .nil), ?_⟩
     exact fin_eq1 (by rw [firstN_at hin hj (by rw [e1]; decide), e1]; rfl)
    ·have h2 : eqS y.name b.name = false := ht35
     refine awp_skip (hK17 _ ?_)
     refine awp_region ?_
     refine ar0 (s_arithW (.tmp rfl) (.const _) rfl (i64_add1 (by unfold maxL; omega)) rfl) ?_
     refine mT ?_
     refine hK14 _ ((fun (k : Nat) => (⟨[(0, some (.lst 2 (bs.map Bd.av))), (3, some (i64 i)), (4, some (.ptr 4 0)), (11, some (.lst 2 (bs.map Bd.av))), (12, some (i64 bs.length)), (13, some (i64 i)), (25, some (.lst 2 ((bs.take i).map Bd.av))), (26, some (i64 i)), (27, some (i64 k))], [(4, some (.box b.av.cells))]⟩ : AS)) (k + 1)) ((fun (k : Nat) => i - k) (k + 1)) (Wk.of (.k (.k (.k (.k (.k (.k (.k (.k (.k .nil))))))))) (.cons rfl (.refl _) .nil)) ⟨k + 1, rfl, ⟨hkn, any_step hy hd h2⟩, rfl⟩ (by first | omega | (dsimp only; omega))
   ·have hkn := lss_end hk ht28
    subst hkn
    have hnd : ¬ dupB (bs.map Bd.name) k = true := by rw [hbdup, hd]; decide
    refine awp_exit ?_
    refine hK12 _ ?_
    refine awp_seq ?_; intro K21 hK21
    refine sr fun K22 hK22=>?_
    refine fP T89 ?_
    refine lP T87 ?_
    refine ar0 (s_lenMap (.tmp rfl) T87 rfl rfl) ?_
    refine ar0 (s_cmp (.tmp rfl) (.const _) rfl rfl) ?_
    refine hK22 _ ?_
    refine awp_cond (.tmp rfl) (fun ht41 => ?_) (fun ht41 => ?_)
    ·have h3 : 8 < b.pts.length := gtr_t ht41
     have e1 : bdE bs k = 4 := by unfold bdE; rw [hbd, if_neg (by rw [h1]; decide), if_neg hnd, if_pos h3]
     refine sr fun K23 hK23=>?_
     refine ar0 (s_mkIface (.const _) rfl T97 rfl) ?_
     refine aT ?_
     refine hK23 _ ?_
     refine awp_ret ⟨_, (.cons (.tmp rfl) .nil), ?_⟩
     exact fin_eq1 (by rw [firstN_at hin hj (by rw [e1]; decide), e1]; rfl)
    ·have h3 : b.pts.length ≤ 8 := gtr_f ht41
     have e1 : bdE bs k = firstN b.pts.length (mkE b.pts) := by unfold bdE; rw [hbd, if_neg (by rw [h1]; decide), if_neg hnd, if_neg (by omega)]
     refine awp_skip (hK21 _ ?_)
     refine sr fun K24 hK24=>?_
     refine fP T89 ?_
     refine lP T87 ?_
     refine ar0 (s_lenMap (.tmp rfl) T87 rfl rfl) ?_
     refine ar0 (s_move (.const _) rfl) ?_
     refine hK24 _ ?_
     refine awp_block ?_
     refine awp_loop (fun n_ s_ => ∃ (p : Nat), b.pts.length - p = n_ ∧ (p ≤ b.pts.length ∧ ∀ j, j < p → mkE b.pts j = 0) ∧ s_ = (⟨[(0, some (.lst 2 (bs.map Bd.av))), (4, some (.ptr 4 0)), (11, some (.lst 2 (bs.map Bd.av))), (12, some (i64 bs.length)), (13, some (i64 k)), (44, some (.lst 7 (b.pts.map Mk.av))), (45, some (i64 b.pts.length)), (46, some (i64 p))], [(4, some (.box b.av.cells))]⟩ : AS))
      (n := ((fun (p : Nat) => b.pts.length - p) (0))) (s' := ((fun (p : Nat) => (⟨[(0, some (.lst 2 (bs.map Bd.av))), (4, some (.ptr 4 0)), (11, some (.lst 2 (bs.map Bd.av))), (12, some (i64 bs.length)), (13, some (i64 k)), (44, some (.lst 7 (b.pts.map Mk.av))), (45, some (i64 b.pts.length)), (46, some (i64 p))], [(4, some (.box b.av.cells))]⟩ : AS)) (0)))
      (Wk.of (.k (.k (.k (.k (.k (.k (.k (.k .nil)))))))) (.cons rfl (.refl _) .nil)) ⟨0, rfl, ⟨Nat.zero_le _, fun j h => by omega⟩, rfl⟩ ?_
     intro n_ s_ hI K25 hK25
     obtain ⟨p, rfl, ⟨hp, hpj⟩, rfl⟩ := hI
     refine sr fun K26 hK26=>?_
     refine ar0 (s_cmp (.tmp rfl) (.tmp rfl) rfl rfl) ?_
     refine hK26 _ ?_
     refine awp_seq ?_; intro K27 hK27
     refine awp_cond (.tmp rfl) (fun ht47 => ?_) (fun ht47 => ?_)
     ·have hpn := lss_t ht47
      obtain ⟨m, hm⟩ := getx hpn
      have hmd : b.pts.getD p default = m := getD_of hm
      have hmm := List.mem_of_getElem? hm
      have hmdup := dup_names Mk.name hm
      have hmo := hbo.pts m hmm
      refine awp_skip (hK27 _ ?_)
      refine awp_seq ?_; intro K28 hK28
      refine awp_block ?_
      refine sr fun K29 hK29=>?_
      refine mT ?_
      refine ar0 (s_idxLst (.tmp rfl) (.tmp rfl) T87 rfl T91 rfl (by omega) (getmap hm) rfl) ?_
      refine ar0 (s_loadIptr (.tmp rfl) T91 rfl rfl rfl) ?_
      refine al T91 ?_
      refine aT ?_
      refine sP T91 ?_
      refine hK29 _ ?_
      refine awp_seq ?_; intro K30 hK30
      refine sr fun K31 hK31=>?_
      refine fP T91 ?_
      refine lP T9 ?_
      refine ar0 (s_call (c_token_Name m.name (hbo.names m hmm)) (.cons (.tmp rfl) .nil) rfl rfl) ?_
      refine ar0 (s_not (.tmp rfl) rfl) ?_
      refine hK31 _ ?_
      refine awp_cond (.tmp rfl) (fun ht54 => ?_) (fun ht54 => ?_)
      ·have h4 := not_t ht54
       have e2 : mkE b.pts p = 5 := by unfold mkE; rw [hmd, if_pos h4]
       have e3 : bdE bs k = 5 := by rw [e1, firstN_at hpn hpj (by rw [e2]; decide), e2]
       refine sr fun K32 hK32=>?_
       refine ar0 (s_mkIface (.const _) rfl T97 rfl) ?_
       refine aT ?_
       refine hK32 _ ?_
       refine awp_ret ⟨_, (.cons (.tmp rfl) .nil), ?_⟩
       exact fin_eq1 (by rw [firstN_at hin hj (by rw [e3]; decide), e3]; rfl)
      ·have h4 := not_f ht54
       refine awp_skip (hK30 _ ?_)
       refine awp_seq ?_; intro K33 hK33
       refine sr fun K34 hK34=>?_
       refine fP T89 ?_
       refine lP T87 ?_
       refine mT ?_
       refine ar0 (s_sliceLst (.tmp rfl) (.none _) (.some _ (.tmp rfl) (by omega)) T87 rfl T91 rfl (by omega) (by simp only [List.length_map]; omega) rfl) ?_
       refine ar0 (s_lenLst (.tmp rfl) T87 rfl rfl) ?_
       refine ar0 (s_move (.const _) rfl) ?_
       refine hK34 _ ?_
       refine awp_block ?_
       refine awp_loop (fun n_ s_ => ∃ (q : Nat), p - q = n_ ∧ (q ≤ p ∧ (b.pts.take q).any (fun y => eqS y.name m.name) = false) ∧ s_ = (⟨[(0, some (.lst 2 (bs.map Bd.av))), (4, some (.ptr 4 0)), (8, some (.ptr 8 0)), (11, some (.lst 2 (bs.map Bd.av))), (12, some (i64 bs.length)), (13, some (i64 k)), (44, some (.lst 7 (b.pts.map Mk.av))), (45, some (i64 b.pts.length)), (46, some (i64 p)), (59, some (.lst 7 ((b.pts.take p).map Mk.av))), (60, some (i64 p)), (61, some (i64 q))], [(4, some (.box b.av.cells)), (8, some (.box m.av.cells))]⟩ : AS))
        (n := ((fun (q : Nat) => p - q) (0))) (s' := ((fun (q : Nat) => (⟨[(0, some (.lst 2 (bs.map Bd.av))), (4, some (.ptr 4 0)), (8, some (.ptr 8 0)), (11, some (.lst 2 (bs.map Bd.av))), (12, some (i64 bs.length)), (13, some (i64 k)), (44, some (.lst 7 (b.pts.map Mk.av))), (45, some (i64 b.pts.length)), (46, some (i64 p)), (59, some (.lst 7 ((b.pts.take p).map Mk.av))), (60, some (i64 p)), (61, some (i64 q))], [(4, some (.box b.av.cells)), (8, some (.box m.av.cells))]⟩ : AS)) (0)))
        (Wk.of (.k (.k (.k (.k (.k (.k (.k (.k (.k (.cons rfl (Sub.of (cutT 7 Mk.av b.pts p)) (.cons rfl (Sub.int (by simp; omega)) (.k .nil)))))))))))) (.cons rfl (.refl _) (.cons rfl (.refl _) .nil))) ⟨0, rfl, ⟨Nat.zero_le _, rfl⟩, rfl⟩ ?_
       intro n_ s_ hI K35 hK35
       obtain ⟨q, rfl, ⟨hq, hqd⟩, rfl⟩ := hI
       refine sr fun K36 hK36=>?_
       refine ar0 (s_cmp (.tmp rfl) (.tmp rfl) rfl rfl) ?_
       refine hK36 _ ?_
       refine awp_seq ?_; intro K37 hK37
       refine awp_cond (.tmp rfl) (fun ht62 => ?_) (fun ht62 => ?_)
       ·have hqn := lss_t ht62
        obtain ⟨y, hy'⟩ : ∃ y, (b.pts.take p)[q]? = some y := getx (by simp; omega)
        have hy := (get_take hy').1
        refine awp_skip (hK37 _ ?_)
        refine awp_seq ?_; intro K38 hK38
        refine awp_block ?_
        refine sr fun K39 hK39=>?_
        refine ar0 (s_idxLst (.tmp rfl) (.tmp rfl) T87 rfl T91 rfl (by omega) (getmap hy') rfl) ?_
        refine ar0 (s_loadIptr (.tmp rfl) T91 rfl rfl rfl) ?_
        refine al T91 ?_
        refine sP T91 ?_
        refine hK39 _ ?_
        refine sr fun K40 hK40=>?_
        refine fP T91 ?_
        refine lP T9 ?_
        refine fP T91 ?_
        refine lP T9 ?_
        refine ar0 (s_strCmp (.tmp rfl) (.tmp rfl) rfl) ?_
        refine hK40 _ ?_
        refine awp_cond (.tmp rfl) (fun ht69 => ?_) (fun ht69 => ?_)
        ·have h5 : eqS y.name m.name = true := ht69
         have e2 : mkE b.pts p = 6 := by unfold mkE; rw [hmd, if_neg (by rw [h4]; decide), if_pos (by rw [hmdup]; exact any_hit hy hqn h5)]
         have e3 : bdE bs k = 6 := by rw [e1, firstN_at hpn hpj (by rw [e2]; decide), e2]
         refine sr fun K41 hK41=>?_
         refine ar0 (s_mkIface (.const _) rfl T97 rfl) ?_
         refine aT ?_
         refine hK41 _ ?_
         refine awp_ret ⟨_, (.cons (.tmp rfl) .nil), ?_⟩
         exact fin_eq1 (by rw [firstN_at hin hj (by rw [e3]; decide), e3]; rfl)
        ·have h5 : eqS y.name m.name = false := ht69
         refine awp_skip (hK38 _ ?_)
         refine awp_region ?_
         refine ar0 (s_arithW (.tmp rfl) (.const _) rfl (i64_add1 (by unfold maxL; omega)) rfl) ?_
         refine mT ?_
         refine hK35 _ ((fun (q : Nat) => (⟨[(0, some (.lst 2 (bs.map Bd.av))), (4, some (.ptr 4 0)), (8, some (.ptr 8 0)), (11, some (.lst 2 (bs.map Bd.av))), (12, some (i64 bs.length)), (13, some (i64 k)), (44, some (.lst 7 (b.pts.map Mk.av))), (45, some (i64 b.pts.length)), (46, some (i64 p)), (59, some (.lst 7 ((b.pts.take p).map Mk.av))), (60, some (i64 p)), (61, some (i64 q))], [(4, some (.box b.av.cells)), (8, some (.box m.av.cells))]⟩ : AS)) (q + 1)) ((fun (q : Nat) => p - q) (q + 1)) (Wk.of (.k (.k (.k (.k (.k (.k (.k (.k (.k (.k (.k (.k .nil)))))))))))) (.cons rfl (.refl _) (.cons rfl (.refl _) .nil))) ⟨q + 1, rfl, ⟨hqn, any_step hy hqd h5⟩, rfl⟩ (by first | omega | (dsimp only; omega))
       ·have hqn := lss_end hq ht62
        subst hqn
        have hmnd : ¬ dupB (b.pts.map Mk.name) q = true := by rw [hmdup, hqd]; decide
        refine awp_exit ?_
        refine hK33 _ ?_
        refine sr fun K42 hK42=>?_
        refine fP T91 ?_
        refine lP T68 ?_
        refine ar0 (s_call (c_fraction_Valid m.x hmo.x) (.cons (.tmp rfl) .nil) rfl rfl) ?_
        refine ar0 (s_not (.tmp rfl) rfl) ?_
        refine mT ?_
        refine ar0 (s_guard rfl rfl rfl (fun h => s_fldPtr (.tmp rfl) T91 rfl rfl rfl rfl)) ?_
        refine ar0 (s_guard rfl rfl rfl (fun h => s_loadPtr (.opt rfl (o1 h)) rfl T68 rfl rfl rfl)) ?_
        refine ar0 (s_guard rfl rfl rfl (fun h => s_call (c_fraction_Valid m.y hmo.y) (.cons (.opt rfl (o1 h)) .nil) rfl rfl)) ?_
        refine ar0 (s_guard rfl rfl rfl (fun h => s_not (.opt rfl (o1 h)) rfl)) ?_
        refine ar0 (s_pick (.tmp rfl) (fun _ => .const _) (fun hp => .opt rfl (o1 hp)) rfl) ?_
        refine hK42 _ ?_
        refine awp_cond (.tmp rfl) (fun ht81 => ?_) (fun ht81 => ?_)
        ·have h6 := or_t ht81
         have e2 : mkE b.pts q = 3 := by unfold mkE; rw [hmd, if_neg (by rw [h4]; decide), if_neg hmnd, if_neg (by rintro ⟨g1, g2⟩; rcases h6 with g | g; (rw [g1] at g; cases g); (rw [g2] at g; cases g))]
         have e3 : bdE bs k = 3 := by rw [e1, firstN_at hpn hpj (by rw [e2]; decide), e2]
         refine sr fun K43 hK43=>?_
         refine ar0 (s_mkIface (.const _) rfl T97 rfl) ?_
         refine aT ?_
         refine hK43 _ ?_
         refine awp_ret ⟨_, (.cons (.tmp rfl) .nil), ?_⟩
         exact fin_eq1 (by rw [firstN_at hin hj (by rw [e3]; decide), e3]; rfl)
        ·have h6 := or_f ht81
         have e2 : mkE b.pts q = 0 := by unfold mkE; rw [hmd, if_neg (by rw [h4]; decide), if_neg hmnd, if_pos h6]
         refine awp_skip (hK28 _ ?_)
         refine awp_region ?_
         refine ar0 (s_arithW (.tmp rfl) (.const _) rfl (i64_add1 (by unfold maxL; omega)) rfl) ?_
         refine mT ?_
         refine hK25 _ ((fun (p : Nat) => (⟨[(0, some (.lst 2 (bs.map Bd.av))), (4, some (.ptr 4 0)), (11, some (.lst 2 (bs.map Bd.av))), (12, some (i64 bs.length)), (13, some (i64 k)), (44, some (.lst 7 (b.pts.map Mk.av))), (45, some (i64 b.pts.length)), (46, some (i64 p))], [(4, some (.box b.av.cells))]⟩ : AS)) (q + 1)) ((fun (p : Nat) => b.pts.length - p) (q + 1)) (Wk.of (.k (.k (.k (.k (.k (.k (.k (.k .nil)))))))) (.cons rfl (.refl _) .nil)) ⟨q + 1, rfl, ⟨hpn, fun j h9 => by rcases Nat.lt_or_ge j q with g | g; exact hpj j g; (have : j = q := by omega); subst this; exact e2⟩, rfl⟩ (by first | omega | (dsimp only; omega))
     ·have hpn := lss_end hp ht47
      subst hpn
      have e2 : bdE bs k = 0 := e1.trans (firstN_all hpj)
      refine awp_exit ?_
      refine hK7 _ ?_
      refine awp_region ?_
      refine ar0 (s_arithW (.tmp rfl) (.const _) rfl (i64_add1 (by unfold maxL; omega)) rfl) ?_
      refine mT ?_
      refine hK4 _ ((fun (i : Nat) => (⟨[(0, some (.lst 2 (bs.map Bd.av))), (11, some (.lst 2 (bs.map Bd.av))), (12, some (i64 bs.length)), (13, some (i64 i))], []⟩ : AS)) (k + 1)) ((fun (i : Nat) => bs.length - i) (k + 1)) (Wk.of (.k (.k (.k (.k .nil)))) .nil) ⟨k + 1, rfl, ⟨hin, fun j h9 => by rcases Nat.lt_or_ge j k with g | g; exact hj j g; (have : j = k := by omega); subst this; exact e2⟩, rfl⟩ (by first | omega | (dsimp only; omega))
 ·have hin := lss_end hi ht14
  subst hin
  refine awp_exit ?_
  refine hK2 _ ?_
  refine sr fun K44 hK44=>?_
  refine aC ?_
  refine hK44 _ ?_
  refine awp_ret ⟨_, (.cons (.tmp rfl) .nil), ?_⟩
  exact fin_eq1 (by rw [firstN_all hj]; rfl)
end Go.Lw
namespace Go.Lw
open Go.Proofs
theorem c_model_joint (l : Li) (hl : l.ok) (j : Jt) : FnC Tryz.prog 126 [l.av, j.av] (errA (jt0 l j)) := by
 refine con_of0 (N := 107) (rs := [.tmp 4]) Tryz.func126 rfl rfl rfl rfl ?_
 refine sr fun K1 hK1=>?_
 refine bX ?_
 refine bX ?_
 refine aC ?_
 refine hK1 _ ?_
 refine awp_seq ?_; intro K2 hK2
 refine sr fun K3 hK3=>?_
 refine fP T76 ?_
 refine lP T3 ?_
 refine ar0 (s_cmp (.tmp rfl) (.const _) rfl rfl) ?_
 refine mT ?_
 refine ar0 (s_guard rfl rfl rfl (fun h => s_fldPtr (.tmp rfl) T76 rfl rfl rfl rfl)) ?_
 refine ar0 (s_guard rfl rfl rfl (fun h => s_loadPtr (.opt rfl (o1 h)) rfl T3 rfl rfl rfl)) ?_
 refine ar0 (s_guard rfl rfl rfl (fun h => s_cmp (.opt rfl (o1 h)) (.const _) rfl rfl)) ?_
 refine ar0 (s_pick (.tmp rfl) (fun hp => .opt rfl (o1 hp)) (fun _ => .const _) rfl) ?_
 refine hK3 _ ?_
 refine awp_cond (.tmp rfl) (fun ht15 => ?_) (fun ht15 => ?_)
 ·have h1 := kind_t ht15
  refine sr fun K4 hK4=>?_
  refine ar0 (s_mkIface (.const _) rfl T97 rfl) ?_
  refine aT ?_
  refine hK4 _ ?_
  refine awp_ret ⟨_, (.cons (.tmp rfl) .nil), ?_⟩
  exact fin_eq1 (by unfold jt0; rw [if_pos h1]; rfl)
 ·have h1 := kind_f ht15
  refine awp_skip (hK2 _ ?_)
  refine awp_seq ?_; intro K5 hK5
  refine sr fun K6 hK6=>?_
  refine fP T76 ?_
  refine lP T3 ?_
  refine fP T26 ?_
  refine lP T22 ?_
  refine ar0 (s_lenMap (.tmp rfl) T22 rfl rfl) ?_
  refine ar0 (s_call (c_model_in j.a l.bodies.length) (.cons (.tmp rfl) (.cons (.tmp rfl) .nil)) rfl rfl) ?_
  refine ar0 (s_not (.tmp rfl) rfl) ?_
  refine mT ?_
  refine ar0 (s_guard rfl rfl rfl (fun h => s_fldPtr (.tmp rfl) T76 rfl rfl rfl rfl)) ?_
  refine ar0 (s_guard rfl rfl rfl (fun h => s_loadPtr (.opt rfl (o1 h)) rfl T3 rfl rfl rfl)) ?_
  refine ar0 (s_guard rfl rfl rfl (fun h => s_fldPtr (.tmp rfl) T26 rfl rfl rfl rfl)) ?_
  refine ar0 (s_guard rfl rfl rfl (fun h => s_loadPtr (.opt rfl (o1 h)) rfl T22 rfl rfl rfl)) ?_
  refine ar0 (s_guard rfl rfl rfl (fun h => s_lenMap (.opt rfl (o1 h)) T22 rfl rfl)) ?_
  refine ar0 (s_guard rfl rfl rfl (fun h => s_call (c_model_in j.b l.bodies.length) (.cons (.opt rfl (o1 h)) (.cons (.opt rfl (o1 h)) .nil)) rfl rfl)) ?_
  refine ar0 (s_guard rfl rfl rfl (fun h => s_not (.opt rfl (o1 h)) rfl)) ?_
  refine ar0 (s_pick (.tmp rfl) (fun _ => .const _) (fun hp => .opt rfl (o1 hp)) rfl) ?_
  refine hK6 _ ?_
  refine awp_cond (.tmp rfl) (fun ht32 => ?_) (fun ht32 => ?_)
  ·have h2 := or_t ht32
   refine sr fun K7 hK7=>?_
   refine ar0 (s_mkIface (.const _) rfl T97 rfl) ?_
   refine aT ?_
   refine hK7 _ ?_
   refine awp_ret ⟨_, (.cons (.tmp rfl) .nil), ?_⟩
   exact fin_eq1 (by unfold jt0; rw [if_neg h1, if_pos h2]; rfl)
  ·have h2 := or_f ht32
   have h2n : ¬ (inB j.a l.bodies.length = false ∨ inB j.b l.bodies.length = false) := by rw [h2.1, h2.2]; simp
   obtain ⟨A, hA, pA, mA, zA0⟩ := bodyAt h2.1
   obtain ⟨B, hB, pB, mB, zB0⟩ := bodyAt h2.2
   refine awp_skip (hK5 _ ?_)
   refine awp_seq ?_; intro K8 hK8
   refine sr fun K9 hK9=>?_
   refine fP T76 ?_
   refine lP T3 ?_
   refine fP T76 ?_
   refine lP T3 ?_
   refine ar0 (s_cmp (.tmp rfl) (.tmp rfl) rfl rfl) ?_
   refine hK9 _ ?_
   refine awp_cond (.tmp rfl) (fun ht38 => ?_) (fun ht38 => ?_)
   ·have h3 := eql_t ht38
    refine sr fun K10 hK10=>?_
    refine ar0 (s_mkIface (.const _) rfl T97 rfl) ?_
    refine aT ?_
    refine hK10 _ ?_
    refine awp_ret ⟨_, (.cons (.tmp rfl) .nil), ?_⟩
    exact fin_eq1 (by unfold jt0; rw [if_neg h1, if_neg h2n, if_pos h3]; rfl)
   ·have h3 := eql_f ht38
    refine awp_skip (hK8 _ ?_)
    refine sr fun K11 hK11=>?_
    refine fP T26 ?_
    refine lP T22 ?_
    refine fP T76 ?_
    refine lP T3 ?_
    refine ar0 (s_idxLst (.tmp rfl) (.tmp rfl) T22 rfl T89 rfl (by omega) (getmap hB) rfl) ?_
    refine ar0 (s_fldIptr (.tmp rfl) T89 rfl rfl rfl rfl) ?_
    refine ar0 (s_loadIptr (.tmp rfl) T87 rfl rfl rfl) ?_
    refine aT ?_
    refine hK11 _ ?_
    refine awp_seq ?_; intro K12 hK12
    refine awp_seq ?_; intro K13 hK13
    refine awp_region_draw mixedP ?_
    refine fP T76 ?_
    refine lP T3 ?_
    refine fP T26 ?_
    refine lP T22 ?_
    refine fP T76 ?_
    refine lP T3 ?_
    refine ar0 (s_idxLst (.tmp rfl) (.tmp rfl) T22 rfl T89 rfl (by omega) (getmap hA) rfl) ?_
    refine ar0 (s_fldIptr (.tmp rfl) T89 rfl rfl rfl rfl) ?_
    refine ar0 (s_loadIptr (.tmp rfl) T87 rfl rfl rfl) ?_
    refine ar0 (s_lenMap (.tmp rfl) T87 rfl rfl) ?_
    refine ar0 (s_call (c_model_in j.point A.pts.length) (.cons (.tmp rfl) (.cons (.tmp rfl) .nil)) rfl rfl) ?_
    refine ar0 (s_not (.tmp rfl) rfl) ?_
    refine mT ?_
    refine ar0 (s_guard rfl rfl rfl (fun h => s_fldPtr (.tmp rfl) T76 rfl rfl rfl rfl)) ?_
    refine ar0 (s_guard rfl rfl rfl (fun h => s_loadPtr (.opt rfl (o1 h)) rfl T3 rfl rfl rfl)) ?_
    refine ar0 (s_guard rfl rfl rfl (fun h => s_move (.tmp rfl) rfl)) ?_
    refine ar0 (s_guard rfl rfl rfl (fun h => s_lenMap (.opt rfl (o1 h)) T87 rfl rfl)) ?_
    refine ar0 (s_guard rfl rfl rfl (fun h => s_call (c_model_in j.on B.pts.length) (.cons (.opt rfl (o1 h)) (.cons (.opt rfl (o1 h)) .nil)) rfl rfl)) ?_
    refine ar0 (s_guard rfl rfl rfl (fun h => s_not (.opt rfl (o1 h)) rfl)) ?_
    refine ar0 (s_pick (.tmp rfl) (fun _ => .const _) (fun hp => .opt rfl (o1 hp)) rfl) ?_
    refine ⟨by kernel_rfl, ?_⟩
    refine hK13 _ ?_
    refine awp_cond (.tmp rfl) (fun ht66 => ?_) (fun ht66 => ?_)
    ·have h4 := or_t ht66
     refine sr fun K14 hK14=>?_
     refine ar0 (s_mkIface (.const _) rfl T97 rfl) ?_
     refine aT ?_
     refine hK14 _ ?_
     refine awp_ret ⟨_, (.cons (.tmp rfl) .nil), ?_⟩
     exact fin_eq1 (by unfold jt0; rw [if_neg h1, if_neg h2n, if_neg h3, pA, pB, if_pos h4]; rfl)
    ·have h4 := or_f ht66
     have h4n : ¬ (inB j.point A.pts.length = false ∨ inB j.on B.pts.length = false) := by rw [h4.1, h4.2]; simp
     refine awp_skip (hK12 _ ?_)
     refine awp_seq ?_; intro K15 hK15
     refine sr fun K16 hK16=>?_
     refine fP T76 ?_
     refine lP T3 ?_
     refine ar0 (s_cmp (.tmp rfl) (.const _) rfl rfl) ?_
     refine hK16 _ ?_
     refine awp_cond (.tmp rfl) (fun ht70 => ?_) (fun ht70 => ?_)
     ·have h5 := eql_t ht70
      refine awp_seq ?_; intro K17 hK17
      refine sr fun K18 hK18=>?_
      refine fP T76 ?_
      refine lP T3 ?_
      refine ar0 (s_cmp (.tmp rfl) (.const _) rfl rfl) ?_
      refine hK18 _ ?_
      refine awp_cond (.tmp rfl) (fun ht73 => ?_) (fun ht73 => ?_)
      ·have h6 := neq_t' ht73
       refine sr fun K19 hK19=>?_
       refine ar0 (s_mkIface (.const _) rfl T97 rfl) ?_
       refine aT ?_
       refine hK19 _ ?_
       refine awp_ret ⟨_, (.cons (.tmp rfl) .nil), ?_⟩
       exact fin_eq1 (by unfold jt0; rw [if_neg h1, if_neg h2n, if_neg h3, pA, pB, if_neg h4n, if_pos h5, if_pos h6]; rfl)
      ·have h6 := neq_f' ht73
       refine awp_skip (hK17 _ ?_)
       refine sr fun K20 hK20=>?_
       refine aC ?_
       refine hK20 _ ?_
       refine awp_ret ⟨_, (.cons (.tmp rfl) .nil), ?_⟩
       exact fin_eq1 (by unfold jt0; rw [if_neg h1, if_neg h2n, if_neg h3, pA, pB, if_neg h4n, if_pos h5, if_neg (by rw [h6]; simp)]; rfl)
     ·have h5 := eql_f ht70
      refine awp_skip (hK15 _ ?_)
      refine awp_seq ?_; intro K21 hK21
      refine sr fun K22 hK22=>?_
      refine fP T76 ?_
      refine lP T3 ?_
      refine mT ?_
      refine ar0 (s_lenMap (.tmp rfl) T87 rfl rfl) ?_
      refine ar0 (s_call (c_model_in j.to B.pts.length) (.cons (.tmp rfl) (.cons (.tmp rfl) .nil)) rfl rfl) ?_
      refine ar0 (s_not (.tmp rfl) rfl) ?_
      refine hK22 _ ?_
      refine awp_cond (.tmp rfl) (fun ht80 => ?_) (fun ht80 => ?_)
      ·have h6 := not_t ht80
       refine sr fun K23 hK23=>?_
       refine ar0 (s_mkIface (.const _) rfl T97 rfl) ?_
       refine aT ?_
       refine hK23 _ ?_
       refine awp_ret ⟨_, (.cons (.tmp rfl) .nil), ?_⟩
       exact fin_eq1 (by unfold jt0; rw [if_neg h1, if_neg h2n, if_neg h3, pA, pB, if_neg h4n, if_neg h5, if_pos h6]; rfl)
      ·have h6 := not_f ht80
       obtain ⟨m1, g1, d1, mm1, z1⟩ := markAt h4.2
       obtain ⟨m2, g2, d2, mm2, z2⟩ := markAt h6
       have mo1 := (hl.bodies B mB).pts m1 mm1
       have mo2 := (hl.bodies B mB).pts m2 mm2
       refine awp_skip (hK21 _ ?_)
       refine awp_seq ?_; intro K24 hK24
       refine awp_region_draw mixedP ?_
       refine mT ?_
       refine fP T76 ?_
       refine lP T3 ?_
       refine ar0 (s_idxLst (.tmp rfl) (.tmp rfl) T87 rfl T91 rfl (by omega) (getmap g1) rfl) ?_
       refine ar0 (s_loadIptr (.tmp rfl) T91 rfl rfl rfl) ?_
       refine mT ?_
       refine fP T76 ?_
       refine lP T3 ?_
       refine ar0 (s_idxLst (.tmp rfl) (.tmp rfl) T87 rfl T91 rfl (by omega) (getmap g2) rfl) ?_
       refine ar0 (s_loadIptr (.tmp rfl) T91 rfl rfl rfl) ?_
       refine al T91 ?_
       refine al T91 ?_
       refine sP T91 ?_
       refine sP T91 ?_
       refine ⟨by kernel_rfl, ?_⟩
       refine hK24 _ ?_
       refine awp_seq ?_; intro K25 hK25
       refine sr fun K26 hK26=>?_
       refine fP T91 ?_
       refine lP T68 ?_
       refine fP T91 ?_
       refine lP T68 ?_
       refine ar0 (s_call (c_fraction_Cmp m1.x m2.x mo1.x mo2.x) (.cons (.tmp rfl) (.cons (.tmp rfl) .nil)) rfl rfl) ?_
       refine ar0 (s_cmp (.tmp rfl) (.const _) rfl rfl) ?_
       refine mT ?_
       refine ar0 (s_guard rfl rfl rfl (fun h => s_fldPtr (.tmp rfl) T91 rfl rfl rfl rfl)) ?_
       refine ar0 (s_guard rfl rfl rfl (fun h => s_loadPtr (.opt rfl (o1 h)) rfl T68 rfl rfl rfl)) ?_
       refine ar0 (s_guard rfl rfl rfl (fun h => s_fldPtr (.tmp rfl) T91 rfl rfl rfl rfl)) ?_
       refine ar0 (s_guard rfl rfl rfl (fun h => s_loadPtr (.opt rfl (o1 h)) rfl T68 rfl rfl rfl)) ?_
       refine ar0 (s_guard rfl rfl rfl (fun h => s_call (c_fraction_Cmp m1.y m2.y mo1.y mo2.y) (.cons (.opt rfl (o1 h)) (.cons (.opt rfl (o1 h)) .nil)) rfl rfl)) ?_
       refine ar0 (s_guard rfl rfl rfl (fun h => s_cmp (.opt rfl (o1 h)) (.const _) rfl rfl)) ?_
       refine ar0 (s_pick (.tmp rfl) (fun hp => .opt rfl (o1 hp)) (fun _ => .const _) rfl) ?_
       refine hK26 _ ?_
       refine awp_cond (.tmp rfl) (fun ht105 => ?_) (fun ht105 => ?_)
       ·have h7 := both_t ht105
        refine sr fun K27 hK27=>?_
        refine ar0 (s_mkIface (.const _) rfl T97 rfl) ?_
        refine aT ?_
        refine hK27 _ ?_
        refine awp_ret ⟨_, (.cons (.tmp rfl) .nil), ?_⟩
        exact fin_eq1 (by unfold jt0; rw [if_neg h1, if_neg h2n, if_neg h3, pA, pB, if_neg h4n, if_neg h5, if_neg (by rw [h6]; decide), d1, d2, if_pos h7]; rfl)
       ·have h7 := both_f ht105
        refine awp_skip (hK25 _ ?_)
        refine sr fun K28 hK28=>?_
        refine aC ?_
        refine hK28 _ ?_
        refine awp_ret ⟨_, (.cons (.tmp rfl) .nil), ?_⟩
        exact fin_eq1 (by unfold jt0; rw [if_neg h1, if_neg h2n, if_neg h3, pA, pB, if_neg h4n, if_neg h5, if_neg (by rw [h6]; decide), d1, d2, if_neg h7]; rfl)
theorem c_model_joints (l : Li) (hl : l.ok) : FnC Tryz.prog 67 [l.av] (errA (jtsE l)) := by
 have hlj := hl.lj
 refine con_of0 (N := 49) (rs := [.tmp 2]) Tryz.func67 rfl rfl rfl rfl ?_
 refine sr fun K1 hK1=>?_
 refine bX ?_
 refine aC ?_
 refine hK1 _ ?_
 refine awp_seq ?_; intro K2 hK2
 refine sr fun K3 hK3=>?_
 refine fP T26 ?_
 refine lP T23 ?_
 refine ar0 (s_lenMap (.tmp rfl) T23 rfl rfl) ?_
 refine ar0 (s_cmp (.tmp rfl) (.const _) rfl rfl) ?_
 refine hK3 _ ?_
 refine awp_cond (.tmp rfl) (fun ht11 => ?_) (fun ht11 => ?_)
 ·have h0 : 16 < l.joints.length := gtr_t ht11
  refine sr fun K4 hK4=>?_
  refine ar0 (s_mkIface (.const _) rfl T97 rfl) ?_
  refine aT ?_
  refine hK4 _ ?_
  refine awp_ret ⟨_, (.cons (.tmp rfl) .nil), ?_⟩
  exact fin_eq1 (by unfold jtsE; rw [if_pos h0]; rfl)
 ·have h0 : l.joints.length ≤ 16 := gtr_f ht11
  have e0 : jtsE l = firstN l.joints.length (jtE l) := by unfold jtsE; rw [if_neg (by omega)]
  refine awp_skip (hK2 _ ?_)
  refine awp_seq ?_; intro K5 hK5
  refine sr fun K6 hK6=>?_
  refine fP T26 ?_
  refine lP T23 ?_
  refine ar0 (s_lenMap (.tmp rfl) T23 rfl rfl) ?_
  refine ar0 (s_move (.const _) rfl) ?_
  refine hK6 _ ?_
  refine awp_block ?_
  refine awp_loop (fun n_ s_ => ∃ (i : Nat), l.joints.length - i = n_ ∧ (i ≤ l.joints.length ∧ ∀ j, j < i → jtE l j = 0) ∧ s_ = (⟨[(1, some (.ptr 1 0)), (14, some (.lst 7 (l.joints.map Jt.av))), (15, some (i64 l.joints.length)), (16, some (i64 i))], [(1, some (.box l.av.cells))]⟩ : AS))
   (n := ((fun (i : Nat) => l.joints.length - i) (0))) (s' := ((fun (i : Nat) => (⟨[(1, some (.ptr 1 0)), (14, some (.lst 7 (l.joints.map Jt.av))), (15, some (i64 l.joints.length)), (16, some (i64 i))], [(1, some (.box l.av.cells))]⟩ : AS)) (0)))
   (Wk.of (.k (.k (.k (.k .nil)))) (.cons rfl (.refl _) .nil)) ⟨0, rfl, ⟨Nat.zero_le _, fun j h => by omega⟩, rfl⟩ ?_
  intro n_ s_ hI K7 hK7
  obtain ⟨i, rfl, ⟨hi, hj⟩, rfl⟩ := hI
  refine sr fun K8 hK8=>?_
  refine ar0 (s_cmp (.tmp rfl) (.tmp rfl) rfl rfl) ?_
  refine hK8 _ ?_
  refine awp_seq ?_; intro K9 hK9
  refine awp_cond (.tmp rfl) (fun ht17 => ?_) (fun ht17 => ?_)
  ·have hin := lss_t ht17
   obtain ⟨b, hb⟩ := getx hin
   have hbd : l.joints.getD i default = b := getD_of hb
   have hbdup := dup_names Jt.name hb
   refine awp_skip (hK9 _ ?_)
   refine awp_seq ?_; intro K10 hK10
   refine awp_block ?_
   refine sr fun K11 hK11=>?_
   refine mT ?_
   refine ar0 (s_idxLst (.tmp rfl) (.tmp rfl) T23 rfl T76 rfl (by omega) (getmap hb) rfl) ?_
   refine ar0 (s_loadIptr (.tmp rfl) T76 rfl rfl rfl) ?_
   refine al T76 ?_
   refine aT ?_
   refine sP T76 ?_
   refine hK11 _ ?_
   refine awp_seq ?_; intro K12 hK12
   refine sr fun K13 hK13=>?_
   refine fP T76 ?_
   refine lP T9 ?_
   refine ar0 (s_call (c_token_Name b.name (hl.jnames b (List.mem_of_getElem? hb))) (.cons (.tmp rfl) .nil) rfl rfl) ?_
   refine ar0 (s_not (.tmp rfl) rfl) ?_
   refine hK13 _ ?_
   refine awp_cond (.tmp rfl) (fun ht24 => ?_) (fun ht24 => ?_)
   ·have h1 := not_t ht24
    have e1 : jtE l i = 5 := by unfold jtE; rw [hbd, if_pos h1]
    refine sr fun K14 hK14=>?_
    refine ar0 (s_mkIface (.const _) rfl T97 rfl) ?_
    refine aT ?_
    refine hK14 _ ?_
    refine awp_ret ⟨_, (.cons (.tmp rfl) .nil), ?_⟩
    exact fin_eq1 (by rw [e0, firstN_at hin hj (by rw [e1]; decide), e1]; rfl)
   ·have h1 := not_f ht24
    refine awp_skip (hK12 _ ?_)
    refine awp_seq ?_; intro K15 hK15
    refine sr fun K16 hK16=>?_
    refine fP T26 ?_
    refine lP T23 ?_
    refine mT ?_
    refine ar0 (s_sliceLst (.tmp rfl) (.none _) (.some _ (.tmp rfl) (by omega)) T23 rfl T76 rfl (by omega) (by simp only [List.length_map]; omega) rfl) ?_
    refine ar0 (s_lenLst (.tmp rfl) T23 rfl rfl) ?_
    refine ar0 (s_move (.const _) rfl) ?_
    refine hK16 _ ?_
    refine awp_block ?_
    refine awp_loop (fun n_ s_ => ∃ (k : Nat), i - k = n_ ∧ (k ≤ i ∧ (l.joints.take k).any (fun y => eqS y.name b.name) = false) ∧ s_ = (⟨[(1, some (.ptr 1 0)), (3, some (i64 i)), (4, some (.ptr 4 0)), (14, some (.lst 7 (l.joints.map Jt.av))), (15, some (i64 l.joints.length)), (16, some (i64 i)), (29, some (.lst 7 ((l.joints.take i).map Jt.av))), (30, some (i64 i)), (31, some (i64 k))], [(1, some (.box l.av.cells)), (4, some (.box b.av.cells))]⟩ : AS))
     (n := ((fun (k : Nat) => i - k) (0))) (s' := ((fun (k : Nat) => (⟨[(1, some (.ptr 1 0)), (3, some (i64 i)), (4, some (.ptr 4 0)), (14, some (.lst 7 (l.joints.map Jt.av))), (15, some (i64 l.joints.length)), (16, some (i64 i)), (29, some (.lst 7 ((l.joints.take i).map Jt.av))), (30, some (i64 i)), (31, some (i64 k))], [(1, some (.box l.av.cells)), (4, some (.box b.av.cells))]⟩ : AS)) (0)))
     (Wk.of (.k (.k (.k (.k (.k (.k (.cons rfl (Sub.of (cutT 7 Jt.av l.joints i)) (.cons rfl (Sub.int (by simp; omega)) (.k .nil))))))))) (.cons rfl (.refl _) (.cons rfl (.refl _) .nil))) ⟨0, rfl, ⟨Nat.zero_le _, rfl⟩, rfl⟩ ?_
    intro n_ s_ hI K17 hK17
    obtain ⟨k, rfl, ⟨hk, hd⟩, rfl⟩ := hI
    refine sr fun K18 hK18=>?_
    refine ar0 (s_cmp (.tmp rfl) (.tmp rfl) rfl rfl) ?_
    refine hK18 _ ?_
    refine awp_seq ?_; intro K19 hK19
    refine awp_cond (.tmp rfl) (fun ht32 => ?_) (fun ht32 => ?_)
    ·have hkn := lss_t ht32
     obtain ⟨y, hy'⟩ : ∃ y, (l.joints.take i)[k]? = some y := getx (by simp; omega)
     have hy := (get_take hy').1
     refine awp_skip (hK19 _ ?_)
     refine awp_seq ?_; intro K20 hK20
     refine awp_block ?_
     refine sr fun K21 hK21=>?_
     refine ar0 (s_idxLst (.tmp rfl) (.tmp rfl) T23 rfl T76 rfl (by omega) (getmap hy') rfl) ?_
     refine ar0 (s_loadIptr (.tmp rfl) T76 rfl rfl rfl) ?_
     refine al T76 ?_
     refine sP T76 ?_
     refine hK21 _ ?_
     refine sr fun K22 hK22=>?_
     refine fP T76 ?_
     refine lP T9 ?_
     refine fP T76 ?_
     refine lP T9 ?_
     refine ar0 (s_strCmp (.tmp rfl) (.tmp rfl) rfl) ?_
     refine hK22 _ ?_
     refine awp_cond (.tmp rfl) (fun ht39 => ?_) (fun ht39 => ?_)
     ·have h2 : eqS y.name b.name = true := ht39
      have e1 : jtE l i = 6 := by unfold jtE; rw [hbd, if_neg (by rw [h1]; decide), if_pos (by rw [hbdup]; exact any_hit hy hkn h2)]
      refine sr fun K23 hK23=>?_
      refine ar0 (s_mkIface (.const _) rfl T97 rfl) ?_
      refine aT ?_
      refine hK23 _ ?_
      refine awp_ret ⟨_, (.cons (.tmp rfl) .nil), ?_⟩
      exact fin_eq1 (by rw [e0, firstN_at hin hj (by rw [e1]; decide), e1]; rfl)
     ·have h2 : eqS y.name b.name = false := ht39
      refine awp_skip (hK20 _ ?_)
      refine awp_region ?_
      refine ar0 (s_arithW (.tmp rfl) (.const _) rfl (i64_add1 (by unfold maxL; omega)) rfl) ?_
      refine mT ?_
      refine hK17 _ ((fun (k : Nat) => (⟨[(1, some (.ptr 1 0)), (3, some (i64 i)), (4, some (.ptr 4 0)), (14, some (.lst 7 (l.joints.map Jt.av))), (15, some (i64 l.joints.length)), (16, some (i64 i)), (29, some (.lst 7 ((l.joints.take i).map Jt.av))), (30, some (i64 i)), (31, some (i64 k))], [(1, some (.box l.av.cells)), (4, some (.box b.av.cells))]⟩ : AS)) (k + 1)) ((fun (k : Nat) => i - k) (k + 1)) (Wk.of (.k (.k (.k (.k (.k (.k (.k (.k (.k .nil))))))))) (.cons rfl (.refl _) (.cons rfl (.refl _) .nil))) ⟨k + 1, rfl, ⟨hkn, any_step hy hd h2⟩, rfl⟩ (by first | omega | (dsimp only; omega))
    ·have hkn := lss_end hk ht32
     subst hkn
     have hnd : ¬ dupB (l.joints.map Jt.name) k = true := by rw [hbdup, hd]; decide
     have e1 : jtE l k = jt0 l b := by unfold jtE; rw [hbd, if_neg (by rw [h1]; decide), if_neg hnd]
     refine awp_exit ?_
     refine hK15 _ ?_
     refine sr fun K24 hK24=>?_
     refine lP T26 ?_
     refine lP T76 ?_
     refine ar0 (s_call (c_model_joint l hl b) (.cons (.tmp rfl) (.cons (.tmp rfl) .nil)) rfl rfl) ?_
     refine aT ?_
     refine hK24 _ ?_
     refine sr fun K25 hK25=>?_
     refine mT ?_
     refine ar0 (s_errNe (.tmp rfl) (by first | exact .inl rfl | exact .inr ⟨_, _, rfl⟩ | exact errV_or _) T41 rfl rfl) ?_
     refine hK25 _ ?_
     refine awp_cond (.tmp rfl) (fun ht46 => ?_) (fun ht46 => ?_)
     ·have h3 := nNil_t ht46
      refine sr fun K26 hK26=>?_
      refine mT ?_
      refine aT ?_
      refine hK26 _ ?_
      refine awp_ret ⟨_, (.cons (.tmp rfl) .nil), ?_⟩
      exact fin_eq1 (by rw [e0, firstN_at hin hj (by rw [e1]; exact h3), e1])
     ·have h3 := nNil_f ht46
      refine awp_skip (hK10 _ ?_)
      refine awp_region ?_
      refine ar0 (s_arithW (.tmp rfl) (.const _) rfl (i64_add1 (by unfold maxL; omega)) rfl) ?_
      refine mT ?_
      refine hK7 _ ((fun (i : Nat) => (⟨[(1, some (.ptr 1 0)), (14, some (.lst 7 (l.joints.map Jt.av))), (15, some (i64 l.joints.length)), (16, some (i64 i))], [(1, some (.box l.av.cells))]⟩ : AS)) (k + 1)) ((fun (i : Nat) => l.joints.length - i) (k + 1)) (Wk.of (.k (.k (.k (.k .nil)))) (.cons rfl (.refl _) .nil)) ⟨k + 1, rfl, ⟨hin, fun j h9 => by rcases Nat.lt_or_ge j k with g | g; exact hj j g; (have : j = k := by omega); subst this; exact e1.trans h3⟩, rfl⟩ (by first | omega | (dsimp only; omega))
  ·have hin := lss_end hi ht17
   subst hin
   refine awp_exit ?_
   refine hK5 _ ?_
   refine sr fun K27 hK27=>?_
   refine aC ?_
   refine hK27 _ ?_
   refine awp_ret ⟨_, (.cons (.tmp rfl) .nil), ?_⟩
   exact fin_eq1 (by rw [e0, firstN_all hj]; rfl)
theorem c_model_drivers (l : Li) (hl : l.ok) : FnC Tryz.prog 68 [l.av] (errA (drsE l)) := by
 have hld := hl.ld
 refine con_of0 (N := 72) (rs := [.tmp 2]) Tryz.func68 rfl rfl rfl rfl ?_
 refine sr fun K1 hK1=>?_
 refine bX ?_
 refine aC ?_
 refine hK1 _ ?_
 refine awp_seq ?_; intro K2 hK2
 refine sr fun K3 hK3=>?_
 refine fP T26 ?_
 refine lP T24 ?_
 refine ar0 (s_lenMap (.tmp rfl) T24 rfl rfl) ?_
 refine ar0 (s_cmp (.tmp rfl) (.const _) rfl rfl) ?_
 refine hK3 _ ?_
 refine awp_cond (.tmp rfl) (fun ht12 => ?_) (fun ht12 => ?_)
 ·have h0 : 2 < l.drivers.length := gtr_t ht12
  refine sr fun K4 hK4=>?_
  refine ar0 (s_mkIface (.const _) rfl T97 rfl) ?_
  refine aT ?_
  refine hK4 _ ?_
  refine awp_ret ⟨_, (.cons (.tmp rfl) .nil), ?_⟩
  exact fin_eq1 (by unfold drsE; rw [if_pos h0]; rfl)
 ·have h0 : l.drivers.length ≤ 2 := gtr_f ht12
  have e0 : drsE l = firstN l.drivers.length (drE l) := by unfold drsE; rw [if_neg (by omega)]
  refine awp_skip (hK2 _ ?_)
  refine awp_seq ?_; intro K5 hK5
  refine sr fun K6 hK6=>?_
  refine fP T26 ?_
  refine lP T24 ?_
  refine ar0 (s_lenMap (.tmp rfl) T24 rfl rfl) ?_
  refine ar0 (s_move (.const _) rfl) ?_
  refine hK6 _ ?_
  refine awp_block ?_
  refine awp_loop (fun n_ s_ => ∃ (i : Nat), l.drivers.length - i = n_ ∧ (i ≤ l.drivers.length ∧ ∀ j, j < i → drE l j = 0) ∧ s_ = (⟨[(1, some (.ptr 1 0)), (15, some (.lst 2 (l.drivers.map Dr.av))), (16, some (i64 l.drivers.length)), (17, some (i64 i))], [(1, some (.box l.av.cells))]⟩ : AS))
   (n := ((fun (i : Nat) => l.drivers.length - i) (0))) (s' := ((fun (i : Nat) => (⟨[(1, some (.ptr 1 0)), (15, some (.lst 2 (l.drivers.map Dr.av))), (16, some (i64 l.drivers.length)), (17, some (i64 i))], [(1, some (.box l.av.cells))]⟩ : AS)) (0)))
   (Wk.of (.k (.k (.k (.k .nil)))) (.cons rfl (.refl _) .nil)) ⟨0, rfl, ⟨Nat.zero_le _, fun j h => by omega⟩, rfl⟩ ?_
  intro n_ s_ hI K7 hK7
  obtain ⟨i, rfl, ⟨hi, hj⟩, rfl⟩ := hI
  refine sr fun K8 hK8=>?_
  refine ar0 (s_cmp (.tmp rfl) (.tmp rfl) rfl rfl) ?_
  refine hK8 _ ?_
  refine awp_seq ?_; intro K9 hK9
  refine awp_cond (.tmp rfl) (fun ht18 => ?_) (fun ht18 => ?_)
  ·have hin := lss_t ht18
   obtain ⟨b, hb⟩ := getx hin
   have hbd : l.drivers.getD i default = b := getD_of hb
   have hbdup := dup_names Dr.name hb
   refine awp_skip (hK9 _ ?_)
   refine awp_seq ?_; intro K10 hK10
   refine awp_block ?_
   refine sr fun K11 hK11=>?_
   refine mT ?_
   refine ar0 (s_idxLst (.tmp rfl) (.tmp rfl) T24 rfl T105 rfl (by omega) (getmap hb) rfl) ?_
   refine ar0 (s_loadIptr (.tmp rfl) T105 rfl rfl rfl) ?_
   refine al T105 ?_
   refine aT ?_
   refine sP T105 ?_
   refine hK11 _ ?_
   refine awp_seq ?_; intro K12 hK12
   refine sr fun K13 hK13=>?_
   refine fP T105 ?_
   refine lP T9 ?_
   refine ar0 (s_call (c_token_Name b.name (hl.dnames b (List.mem_of_getElem? hb))) (.cons (.tmp rfl) .nil) rfl rfl) ?_
   refine ar0 (s_not (.tmp rfl) rfl) ?_
   refine hK13 _ ?_
   refine awp_cond (.tmp rfl) (fun ht25 => ?_) (fun ht25 => ?_)
   ·have h1 := not_t ht25
    have e1 : drE l i = 5 := by unfold drE; rw [hbd, if_pos h1]
    refine sr fun K14 hK14=>?_
    refine ar0 (s_mkIface (.const _) rfl T97 rfl) ?_
    refine aT ?_
    refine hK14 _ ?_
    refine awp_ret ⟨_, (.cons (.tmp rfl) .nil), ?_⟩
    exact fin_eq1 (by rw [e0, firstN_at hin hj (by rw [e1]; decide), e1]; rfl)
   ·have h1 := not_f ht25
    refine awp_skip (hK12 _ ?_)
    refine awp_seq ?_; intro K15 hK15
    refine sr fun K16 hK16=>?_
    refine fP T26 ?_
    refine lP T24 ?_
    refine mT ?_
    refine ar0 (s_sliceLst (.tmp rfl) (.none _) (.some _ (.tmp rfl) (by omega)) T24 rfl T105 rfl (by omega) (by simp only [List.length_map]; omega) rfl) ?_
    refine ar0 (s_lenLst (.tmp rfl) T24 rfl rfl) ?_
    refine ar0 (s_move (.const _) rfl) ?_
    refine hK16 _ ?_
    refine awp_block ?_
    refine awp_loop (fun n_ s_ => ∃ (k : Nat), i - k = n_ ∧ (k ≤ i ∧ (l.drivers.take k).any (fun y => eqS y.name b.name) = false) ∧ s_ = (⟨[(1, some (.ptr 1 0)), (3, some (i64 i)), (4, some (.ptr 4 0)), (15, some (.lst 2 (l.drivers.map Dr.av))), (16, some (i64 l.drivers.length)), (17, some (i64 i)), (30, some (.lst 2 ((l.drivers.take i).map Dr.av))), (31, some (i64 i)), (32, some (i64 k))], [(1, some (.box l.av.cells)), (4, some (.box b.av.cells))]⟩ : AS))
     (n := ((fun (k : Nat) => i - k) (0))) (s' := ((fun (k : Nat) => (⟨[(1, some (.ptr 1 0)), (3, some (i64 i)), (4, some (.ptr 4 0)), (15, some (.lst 2 (l.drivers.map Dr.av))), (16, some (i64 l.drivers.length)), (17, some (i64 i)), (30, some (.lst 2 ((l.drivers.take i).map Dr.av))), (31, some (i64 i)), (32, some (i64 k))], [(1, some (.box l.av.cells)), (4, some (.box b.av.cells))]⟩ : AS)) (0)))
     (Wk.of (.k (.k (.k (.k (.k (.k (.cons rfl (Sub.of (cutT 2 Dr.av l.drivers i)) (.cons rfl (Sub.int (by simp; omega)) (.k .nil))))))))) (.cons rfl (.refl _) (.cons rfl (.refl _) .nil))) ⟨0, rfl, ⟨Nat.zero_le _, rfl⟩, rfl⟩ ?_
    intro n_ s_ hI K17 hK17
    obtain ⟨k, rfl, ⟨hk, hd⟩, rfl⟩ := hI
    refine sr fun K18 hK18=>?_
    refine ar0 (s_cmp (.tmp rfl) (.tmp rfl) rfl rfl) ?_
    refine hK18 _ ?_
    refine awp_seq ?_; intro K19 hK19
    refine awp_cond (.tmp rfl) (fun ht33 => ?_) (fun ht33 => ?_)
    ·have hkn := lss_t ht33
     obtain ⟨y, hy'⟩ : ∃ y, (l.drivers.take i)[k]? = some y := getx (by simp; omega)
     have hy := (get_take hy').1
     refine awp_skip (hK19 _ ?_)
     refine awp_seq ?_; intro K20 hK20
     refine awp_block ?_
     refine sr fun K21 hK21=>?_
     refine ar0 (s_idxLst (.tmp rfl) (.tmp rfl) T24 rfl T105 rfl (by omega) (getmap hy') rfl) ?_
     refine ar0 (s_loadIptr (.tmp rfl) T105 rfl rfl rfl) ?_
     refine al T105 ?_
     refine sP T105 ?_
     refine hK21 _ ?_
     refine sr fun K22 hK22=>?_
     refine fP T105 ?_
     refine lP T9 ?_
     refine fP T105 ?_
     refine lP T9 ?_
     refine ar0 (s_strCmp (.tmp rfl) (.tmp rfl) rfl) ?_
     refine hK22 _ ?_
     refine awp_cond (.tmp rfl) (fun ht40 => ?_) (fun ht40 => ?_)
     ·have h2 : eqS y.name b.name = true := ht40
      have e1 : drE l i = 6 := by unfold drE; rw [hbd, if_neg (by rw [h1]; decide), if_pos (by rw [hbdup]; exact any_hit hy hkn h2)]
      refine sr fun K23 hK23=>?_
      refine ar0 (s_mkIface (.const _) rfl T97 rfl) ?_
      refine aT ?_
      refine hK23 _ ?_
      refine awp_ret ⟨_, (.cons (.tmp rfl) .nil), ?_⟩
      exact fin_eq1 (by rw [e0, firstN_at hin hj (by rw [e1]; decide), e1]; rfl)
     ·have h2 : eqS y.name b.name = false := ht40
      refine awp_skip (hK20 _ ?_)
      refine awp_region ?_
      refine ar0 (s_arithW (.tmp rfl) (.const _) rfl (i64_add1 (by unfold maxL; omega)) rfl) ?_
      refine mT ?_
      refine hK17 _ ((fun (k : Nat) => (⟨[(1, some (.ptr 1 0)), (3, some (i64 i)), (4, some (.ptr 4 0)), (15, some (.lst 2 (l.drivers.map Dr.av))), (16, some (i64 l.drivers.length)), (17, some (i64 i)), (30, some (.lst 2 ((l.drivers.take i).map Dr.av))), (31, some (i64 i)), (32, some (i64 k))], [(1, some (.box l.av.cells)), (4, some (.box b.av.cells))]⟩ : AS)) (k + 1)) ((fun (k : Nat) => i - k) (k + 1)) (Wk.of (.k (.k (.k (.k (.k (.k (.k (.k (.k .nil))))))))) (.cons rfl (.refl _) (.cons rfl (.refl _) .nil))) ⟨k + 1, rfl, ⟨hkn, any_step hy hd h2⟩, rfl⟩ (by first | omega | (dsimp only; omega))
    ·have hkn := lss_end hk ht33
     subst hkn
     have hnd : ¬ dupB (l.drivers.map Dr.name) k = true := by rw [hbdup, hd]; decide
     refine awp_exit ?_
     refine hK15 _ ?_
     refine awp_seq ?_; intro K24 hK24
     refine sr fun K25 hK25=>?_
     refine fP T105 ?_
     refine lP T3 ?_
     refine fP T26 ?_
     refine lP T22 ?_
     refine ar0 (s_lenMap (.tmp rfl) T22 rfl rfl) ?_
     refine ar0 (s_call (c_model_in b.body l.bodies.length) (.cons (.tmp rfl) (.cons (.tmp rfl) .nil)) rfl rfl) ?_
     refine ar0 (s_not (.tmp rfl) rfl) ?_
     refine hK25 _ ?_
     refine awp_cond (.tmp rfl) (fun ht49 => ?_) (fun ht49 => ?_)
     ·have h3 := not_t ht49
      have e1 : drE l k = 9 := by unfold drE; rw [hbd, if_neg (by rw [h1]; decide), if_neg hnd, if_pos h3]
      refine sr fun K26 hK26=>?_
      refine ar0 (s_mkIface (.const _) rfl T97 rfl) ?_
      refine aT ?_
      refine hK26 _ ?_
      refine awp_ret ⟨_, (.cons (.tmp rfl) .nil), ?_⟩
      exact fin_eq1 (by rw [e0, firstN_at hin hj (by rw [e1]; decide), e1]; rfl)
     ·have h3 := not_f ht49
      refine awp_skip (hK24 _ ?_)
      refine awp_seq ?_; intro K27 hK27
      refine sr fun K28 hK28=>?_
      refine fP T105 ?_
      refine lP T3 ?_
      refine ar0 (s_cmp (.tmp rfl) (.const _) rfl rfl) ?_
      refine hK28 _ ?_
      refine awp_cond (.tmp rfl) (fun ht53 => ?_) (fun ht53 => ?_)
      ·have h4 := eql_t ht53
       have e1 : drE l k = 7 := by unfold drE; rw [hbd, if_neg (by rw [h1]; decide), if_neg hnd, if_neg (by rw [h3]; decide), if_pos h4]
       refine sr fun K29 hK29=>?_
       refine ar0 (s_mkIface (.const _) rfl T97 rfl) ?_
       refine aT ?_
       refine hK29 _ ?_
       refine awp_ret ⟨_, (.cons (.tmp rfl) .nil), ?_⟩
       exact fin_eq1 (by rw [e0, firstN_at hin hj (by rw [e1]; decide), e1]; rfl)
      ·have h4 := eql_f ht53
       have e1 : drE l k = if (l.drivers.take k).any (fun d => decide (d.body = b.body)) = true then 6 else 0 := by unfold drE; rw [hbd, if_neg (by rw [h1]; decide), if_neg hnd, if_neg (by rw [h3]; decide), if_neg h4]
       refine awp_skip (hK27 _ ?_)
       refine sr fun K30 hK30=>?_
       refine fP T26 ?_
       refine lP T24 ?_
       refine mT ?_
       refine ar0 (s_sliceLst (.tmp rfl) (.none _) (.some _ (.tmp rfl) (by omega)) T24 rfl T105 rfl (by omega) (by simp only [List.length_map]; omega) rfl) ?_
       refine ar0 (s_lenLst (.tmp rfl) T24 rfl rfl) ?_
       refine ar0 (s_move (.const _) rfl) ?_
       refine hK30 _ ?_
       refine awp_block ?_
       refine awp_loop (fun n_ s_ => ∃ (q : Nat), k - q = n_ ∧ (q ≤ k ∧ (l.drivers.take q).any (fun d => decide (d.body = b.body)) = false) ∧ s_ = (⟨[(1, some (.ptr 1 0)), (4, some (.ptr 4 0)), (15, some (.lst 2 (l.drivers.map Dr.av))), (16, some (i64 l.drivers.length)), (17, some (i64 k)), (58, some (.lst 2 ((l.drivers.take k).map Dr.av))), (59, some (i64 k)), (60, some (i64 q))], [(1, some (.box l.av.cells)), (4, some (.box b.av.cells))]⟩ : AS))
        (n := ((fun (q : Nat) => k - q) (0))) (s' := ((fun (q : Nat) => (⟨[(1, some (.ptr 1 0)), (4, some (.ptr 4 0)), (15, some (.lst 2 (l.drivers.map Dr.av))), (16, some (i64 l.drivers.length)), (17, some (i64 k)), (58, some (.lst 2 ((l.drivers.take k).map Dr.av))), (59, some (i64 k)), (60, some (i64 q))], [(1, some (.box l.av.cells)), (4, some (.box b.av.cells))]⟩ : AS)) (0)))
        (Wk.of (.k (.k (.k (.k (.k (.cons rfl (Sub.of (cutT 2 Dr.av l.drivers k)) (.cons rfl (Sub.int (by simp; omega)) (.k .nil)))))))) (.cons rfl (.refl _) (.cons rfl (.refl _) .nil))) ⟨0, rfl, ⟨Nat.zero_le _, rfl⟩, rfl⟩ ?_
       intro n_ s_ hI K31 hK31
       obtain ⟨q, rfl, ⟨hq, hqd⟩, rfl⟩ := hI
       refine sr fun K32 hK32=>?_
       refine ar0 (s_cmp (.tmp rfl) (.tmp rfl) rfl rfl) ?_
       refine hK32 _ ?_
       refine awp_seq ?_; intro K33 hK33
       refine awp_cond (.tmp rfl) (fun ht61 => ?_) (fun ht61 => ?_)
       ·have hqn := lss_t ht61
        obtain ⟨y, hy'⟩ : ∃ y, (l.drivers.take k)[q]? = some y := getx (by simp; omega)
        have hy := (get_take hy').1
        refine awp_skip (hK33 _ ?_)
        refine awp_seq ?_; intro K34 hK34
        refine awp_block ?_
        refine sr fun K35 hK35=>?_
        refine ar0 (s_idxLst (.tmp rfl) (.tmp rfl) T24 rfl T105 rfl (by omega) (getmap hy') rfl) ?_
        refine ar0 (s_loadIptr (.tmp rfl) T105 rfl rfl rfl) ?_
        refine al T105 ?_
        refine sP T105 ?_
        refine hK35 _ ?_
        refine sr fun K36 hK36=>?_
        refine fP T105 ?_
        refine lP T3 ?_
        refine fP T105 ?_
        refine lP T3 ?_
        refine ar0 (s_cmp (.tmp rfl) (.tmp rfl) rfl rfl) ?_
        refine hK36 _ ?_
        refine awp_cond (.tmp rfl) (fun ht68 => ?_) (fun ht68 => ?_)
        ·have h5 : decide (y.body = b.body) = true := decide_eq_true (eql_t ht68)
         have e2 : drE l k = 6 := by rw [e1, if_pos (any_hit hy hqn h5)]
         refine sr fun K37 hK37=>?_
         refine ar0 (s_mkIface (.const _) rfl T97 rfl) ?_
         refine aT ?_
         refine hK37 _ ?_
         refine awp_ret ⟨_, (.cons (.tmp rfl) .nil), ?_⟩
         exact fin_eq1 (by rw [e0, firstN_at hin hj (by rw [e2]; decide), e2]; rfl)
        ·have h5 : decide (y.body = b.body) = false := decide_eq_false (eql_f ht68)
         refine awp_skip (hK34 _ ?_)
         refine awp_region ?_
         refine ar0 (s_arithW (.tmp rfl) (.const _) rfl (i64_add1 (by unfold maxL; omega)) rfl) ?_
         refine mT ?_
         refine hK31 _ ((fun (q : Nat) => (⟨[(1, some (.ptr 1 0)), (4, some (.ptr 4 0)), (15, some (.lst 2 (l.drivers.map Dr.av))), (16, some (i64 l.drivers.length)), (17, some (i64 k)), (58, some (.lst 2 ((l.drivers.take k).map Dr.av))), (59, some (i64 k)), (60, some (i64 q))], [(1, some (.box l.av.cells)), (4, some (.box b.av.cells))]⟩ : AS)) (q + 1)) ((fun (q : Nat) => k - q) (q + 1)) (Wk.of (.k (.k (.k (.k (.k (.k (.k (.k .nil)))))))) (.cons rfl (.refl _) (.cons rfl (.refl _) .nil))) ⟨q + 1, rfl, ⟨hqn, any_step hy hqd h5⟩, rfl⟩ (by first | omega | (dsimp only; omega))
       ·have hqn := lss_end hq ht61
        subst hqn
        have e2 : drE l q = 0 := by rw [e1, hqd]; rfl
        refine awp_exit ?_
        refine hK10 _ ?_
        refine awp_region ?_
        refine ar0 (s_arithW (.tmp rfl) (.const _) rfl (i64_add1 (by unfold maxL; omega)) rfl) ?_
        refine mT ?_
        refine hK7 _ ((fun (i : Nat) => (⟨[(1, some (.ptr 1 0)), (15, some (.lst 2 (l.drivers.map Dr.av))), (16, some (i64 l.drivers.length)), (17, some (i64 i))], [(1, some (.box l.av.cells))]⟩ : AS)) (q + 1)) ((fun (i : Nat) => l.drivers.length - i) (q + 1)) (Wk.of (.k (.k (.k (.k .nil)))) (.cons rfl (.refl _) .nil)) ⟨q + 1, rfl, ⟨hin, fun j h9 => by rcases Nat.lt_or_ge j q with g | g; exact hj j g; (have : j = q := by omega); subst this; exact e2⟩, rfl⟩ (by first | omega | (dsimp only; omega))
  ·have hin := lss_end hi ht18
   subst hin
   refine awp_exit ?_
   refine hK5 _ ?_
   refine sr fun K38 hK38=>?_
   refine aC ?_
   refine hK38 _ ?_
   refine awp_ret ⟨_, (.cons (.tmp rfl) .nil), ?_⟩
   exact fin_eq1 (by rw [e0, firstN_all hj]; rfl)
theorem c_model_Check (l : Li) (hl : l.ok) : FnC Tryz.prog 33 [l.av] (errA (liE l)) := by
 have hlb := hl.lb
 refine con_of0 (N := 33) (rs := [.tmp 2]) Tryz.func33 rfl rfl rfl rfl ?_
 refine sr fun K1 hK1=>?_
 refine bX ?_
 refine aC ?_
 refine hK1 _ ?_
 refine awp_seq ?_; intro K2 hK2
 refine sr fun K3 hK3=>?_
 refine fP T26 ?_
 refine lP T9 ?_
 refine ar0 (s_call (c_token_Name l.name hl.name) (.cons (.tmp rfl) .nil) rfl rfl) ?_
 refine ar0 (s_not (.tmp rfl) rfl) ?_
 refine hK3 _ ?_
 refine awp_cond (.tmp rfl) (fun ht8 => ?_) (fun ht8 => ?_)
 ·have h1 := not_t ht8
  refine sr fun K4 hK4=>?_
  refine ar0 (s_mkIface (.const _) rfl T97 rfl) ?_
  refine aT ?_
  refine hK4 _ ?_
  refine awp_ret ⟨_, (.cons (.tmp rfl) .nil), ?_⟩
  exact fin_eq1 (by unfold liE; rw [if_pos h1]; rfl)
 ·have h1 := not_f ht8
  refine awp_skip (hK2 _ ?_)
  refine awp_seq ?_; intro K5 hK5
  refine sr fun K6 hK6=>?_
  refine fP T26 ?_
  refine lP T22 ?_
  refine ar0 (s_lenMap (.tmp rfl) T22 rfl rfl) ?_
  refine ar0 (s_cmp (.tmp rfl) (.const _) rfl rfl) ?_
  refine hK6 _ ?_
  refine awp_cond (.tmp rfl) (fun ht13 => ?_) (fun ht13 => ?_)
  ·have h2 := eql0_t ht13
   refine sr fun K7 hK7=>?_
   refine ar0 (s_mkIface (.const _) rfl T97 rfl) ?_
   refine aT ?_
   refine hK7 _ ?_
   refine awp_ret ⟨_, (.cons (.tmp rfl) .nil), ?_⟩
   exact fin_eq1 (by unfold liE; rw [if_neg (by rw [h1]; decide), if_pos h2]; rfl)
  ·have h2 := eql0_f ht13
   refine awp_skip (hK5 _ ?_)
   refine awp_seq ?_; intro K8 hK8
   refine sr fun K9 hK9=>?_
   refine fP T26 ?_
   refine lP T22 ?_
   refine ar0 (s_lenMap (.tmp rfl) T22 rfl rfl) ?_
   refine ar0 (s_cmp (.tmp rfl) (.const _) rfl rfl) ?_
   refine hK9 _ ?_
   refine awp_cond (.tmp rfl) (fun ht18 => ?_) (fun ht18 => ?_)
   ·have h3 : 8 < l.bodies.length := gtr_t ht18
    refine sr fun K10 hK10=>?_
    refine ar0 (s_mkIface (.const _) rfl T97 rfl) ?_
    refine aT ?_
    refine hK10 _ ?_
    refine awp_ret ⟨_, (.cons (.tmp rfl) .nil), ?_⟩
    exact fin_eq1 (by unfold liE; rw [if_neg (by rw [h1]; decide), if_neg h2, if_pos h3]; rfl)
   ·have h3 : l.bodies.length ≤ 8 := gtr_f ht18
    have e0 : liE l = if bdsE l ≠ 0 then bdsE l else if jtsE l ≠ 0 then jtsE l else drsE l := by unfold liE; rw [if_neg (by rw [h1]; decide), if_neg h2, if_neg (by omega)]
    refine awp_skip (hK8 _ ?_)
    refine awp_seq ?_; intro K11 hK11
    refine sr fun K12 hK12=>?_
    refine fP T26 ?_
    refine lP T22 ?_
    refine ar0 (s_call (c_model_bodies l.bodies hl.bodies hlb) (.cons (.tmp rfl) .nil) rfl rfl) ?_
    refine aT ?_
    refine hK12 _ ?_
    refine sr fun K13 hK13=>?_
    refine mT ?_
    refine ar0 (s_errNe (.tmp rfl) (by first | exact .inl rfl | exact .inr ⟨_, _, rfl⟩ | exact errV_or _) T41 rfl rfl) ?_
    refine hK13 _ ?_
    refine awp_cond (.tmp rfl) (fun ht24 => ?_) (fun ht24 => ?_)
    ·have h4 : bdsE l ≠ 0 := nNil_t ht24
     refine sr fun K14 hK14=>?_
     refine mT ?_
     refine aT ?_
     refine hK14 _ ?_
     refine awp_ret ⟨_, (.cons (.tmp rfl) .nil), ?_⟩
     exact fin_eq1 (by rw [e0, if_pos h4]; rfl)
    ·have h4 : bdsE l = 0 := nNil_f ht24
     refine awp_skip (hK11 _ ?_)
     refine awp_seq ?_; intro K15 hK15
     refine sr fun K16 hK16=>?_
     refine lP T26 ?_
     refine ar0 (s_call (c_model_joints l hl) (.cons (.tmp rfl) .nil) rfl rfl) ?_
     refine aT ?_
     refine hK16 _ ?_
     refine sr fun K17 hK17=>?_
     refine mT ?_
     refine ar0 (s_errNe (.tmp rfl) (by first | exact .inl rfl | exact .inr ⟨_, _, rfl⟩ | exact errV_or _) T41 rfl rfl) ?_
     refine hK17 _ ?_
     refine awp_cond (.tmp rfl) (fun ht29 => ?_) (fun ht29 => ?_)
     ·have h5 := nNil_t ht29
      refine sr fun K18 hK18=>?_
      refine mT ?_
      refine aT ?_
      refine hK18 _ ?_
      refine awp_ret ⟨_, (.cons (.tmp rfl) .nil), ?_⟩
      exact fin_eq1 (by rw [e0, if_neg (by rw [h4]; simp), if_pos h5])
     ·have h5 := nNil_f ht29
      refine awp_skip (hK15 _ ?_)
      refine sr fun K19 hK19=>?_
      refine lP T26 ?_
      refine ar0 (s_call (c_model_drivers l hl) (.cons (.tmp rfl) .nil) rfl rfl) ?_
      refine aT ?_
      refine hK19 _ ?_
      refine awp_ret ⟨_, (.cons (.tmp rfl) .nil), ?_⟩
      exact fin_eq1 (by rw [e0, if_neg (by rw [h4]; simp), if_neg (by rw [h5]; simp)])
end Go.Lw
namespace Go.Lw
open Go.Proofs
end Go.Lw
namespace Go.Lw
open Go.Proofs
theorem c_l11_brief (rs xs : List (List Rt)) (w m : Nat) (hrs : RsOk rs) (hxs : RsOk xs) (hrl : rs.length ≤ 100) (hxl : xs.length ≤ 100) : FnC Tryz.prog 51 [towR rs, i64 w, i64 m, .lst 1 (xs.map nR)] (bl (briefB w m (rs ++ xs))) := by
 obtain ⟨l, hl⟩ : ∃ l, l = rs ++ xs := ⟨_, rfl⟩
 have hlo : RsOk l := by rw [hl]; exact hrs.app hxs
 have hll : l.length ≤ 200 := by rw [hl, List.length_append]; omega
 have hml : rs.map nR ++ xs.map nR = l.map nR := by rw [hl, List.map_append]
 rw [← hl]
 refine con_of0 (N := 48) (rs := [.tmp 8]) Tryz.func51 rfl rfl rfl rfl ?_
 refine sr fun K1 hK1=>?_
 refine bX ?_
 refine aC ?_
 refine hK1 _ ?_
 refine awp_seq ?_; intro K2 hK2
 refine sr fun K3 hK3=>?_
 refine ar (s_buildMs0 T28 rfl T60 rfl rfl rfl) (newOk_of rfl) ?_
 refine fP T30 ?_
 refine lP T28 ?_
 refine ar (s_append (.tmp rfl) rfl rfl (.tmp rfl) T28 rfl T60 rfl rfl (by simp only [List.length_nil, List.length_map]; omega) rfl rfl) (newOk_of rfl) ?_
 refine mT ?_
 refine ar (s_appendF (.tmp rfl) rfl (by simp) (.tmp rfl) T28 rfl T60 rfl rfl (by simp only [List.length_append, List.length_nil, List.length_map]; omega) rfl rfl) (newOk_of rfl) ?_
 refine ar0 (s_lenLst (.tmp rfl) T28 rfl rfl) ?_
 refine ar0 (s_move (.const _) rfl) ?_
 refine hK3 _ ?_
 refine awp_block ?_
 refine awp_loop (fun n_ s_ => ∃ (i : Nat), l.length - i = n_ ∧ (i ≤ l.length ∧ (l.take i).all (briefX w m) = true) ∧ s_ = (⟨[(1, some (i64 w)), (2, some (i64 m)), (18, some (.lst 1 (l.map nR))), (19, some (i64 l.length)), (20, some (i64 i))], []⟩ : AS))
  (n := ((fun (i : Nat) => l.length - i) (0))) (s' := ((fun (i : Nat) => (⟨[(1, some (i64 w)), (2, some (i64 m)), (18, some (.lst 1 (l.map nR))), (19, some (i64 l.length)), (20, some (i64 i))], []⟩ : AS)) (0)))
  (Wk.of (.k (.k (.cons rfl (Sub.of (congrArg (AV.lst 1) hml)) (.cons rfl (Sub.int (by rw [List.nil_append, hml, List.length_map])) (.k .nil))))) .nil) ⟨0, rfl, ⟨Nat.zero_le _, rfl⟩, rfl⟩ ?_
 intro n_ s_ hI K4 hK4
 obtain ⟨i, rfl, ⟨hi, hj⟩, rfl⟩ := hI
 refine sr fun K5 hK5=>?_
 refine ar0 (s_cmp (.tmp rfl) (.tmp rfl) rfl rfl) ?_
 refine hK5 _ ?_
 refine awp_seq ?_; intro K6 hK6
 refine awp_cond (.tmp rfl) (fun ht21 => ?_) (fun ht21 => ?_)
 ·have hin := lss_t ht21
  obtain ⟨x, hx⟩ := getx hin
  have hxo := hlo x (List.mem_of_getElem? hx)
  have hxl := hxo.2
  refine awp_skip (hK6 _ ?_)
  refine awp_seq ?_; intro K7 hK7
  refine awp_block ?_
  refine sr fun K8 hK8=>?_
  refine ar0 (s_idxLst (.tmp rfl) (.tmp rfl) T28 rfl T60 rfl (by omega) (getmap hx) rfl) ?_
  refine ar0 (s_loadIptr (.tmp rfl) T60 rfl rfl rfl) ?_
  refine aT ?_
  refine hK8 _ ?_
  refine awp_seq ?_; intro K9 hK9
  refine sr fun K10 hK10=>?_
  refine mT ?_
  refine ar0 (s_lenMap (.tmp rfl) T60 rfl rfl) ?_
  refine mT ?_
  refine ar0 (s_cmp (.tmp rfl) (.tmp rfl) rfl rfl) ?_
  refine hK10 _ ?_
  refine awp_cond (.tmp rfl) (fun ht27 => ?_) (fun ht27 => ?_)
  ·have h1 := gtr_t ht27
   refine sr fun K11 hK11=>?_
   refine aC ?_
   refine hK11 _ ?_
   refine awp_ret ⟨_, (.cons (.tmp rfl) .nil), ?_⟩
   exact fin_eq1 (by rw [briefB, all_miss hx (by unfold briefX; rw [decide_eq_false (by omega)]; rfl)]; rfl)
  ·have h1 : x.length ≤ m := gtr_f ht27
   refine awp_skip (hK9 _ ?_)
   refine sr fun K12 hK12=>?_
   refine mT ?_
   refine ar0 (s_lenMap (.tmp rfl) T60 rfl rfl) ?_
   refine ar0 (s_move (.const _) rfl) ?_
   refine hK12 _ ?_
   refine awp_block ?_
   refine awp_loop (fun n_ s_ => ∃ (k : Nat), x.length - k = n_ ∧ (k ≤ x.length ∧ (x.take k).all (fun r => decide (r.num.length ≤ w ∧ r.den.length ≤ w)) = true) ∧ s_ = (⟨[(1, some (i64 w)), (2, some (i64 m)), (18, some (.lst 1 (l.map nR))), (19, some (i64 l.length)), (20, some (i64 i)), (28, some (.lst 3 (x.map Rt.av))), (29, some (i64 x.length)), (30, some (i64 k))], []⟩ : AS))
    (n := ((fun (k : Nat) => x.length - k) (0))) (s' := ((fun (k : Nat) => (⟨[(1, some (i64 w)), (2, some (i64 m)), (18, some (.lst 1 (l.map nR))), (19, some (i64 l.length)), (20, some (i64 i)), (28, some (.lst 3 (x.map Rt.av))), (29, some (i64 x.length)), (30, some (i64 k))], []⟩ : AS)) (0)))
    (Wk.of (.k (.k (.k (.k (.k (.k (.k (.k .nil)))))))) .nil) ⟨0, rfl, ⟨Nat.zero_le _, rfl⟩, rfl⟩ ?_
   intro n_ s_ hI K13 hK13
   obtain ⟨k, rfl, ⟨hk, hkj⟩, rfl⟩ := hI
   refine sr fun K14 hK14=>?_
   refine ar0 (s_cmp (.tmp rfl) (.tmp rfl) rfl rfl) ?_
   refine hK14 _ ?_
   refine awp_seq ?_; intro K15 hK15
   refine awp_cond (.tmp rfl) (fun ht31 => ?_) (fun ht31 => ?_)
   ·have hkn := lss_t ht31
    obtain ⟨r, hr⟩ := getx hkn
    refine awp_skip (hK15 _ ?_)
    refine awp_seq ?_; intro K16 hK16
    refine awp_block ?_
    refine sr fun K17 hK17=>?_
    refine ar0 (s_idxLst (.tmp rfl) (.tmp rfl) T60 rfl T68 rfl (by omega) (getmap hr) rfl) ?_
    refine ar0 (s_loadIptr (.tmp rfl) T68 rfl rfl rfl) ?_
    refine al T68 ?_
    refine sP T68 ?_
    refine hK17 _ ?_
    refine sr fun K18 hK18=>?_
    refine fP T68 ?_
    refine lP T66 ?_
    refine ar0 (s_lenMap (.tmp rfl) T66 rfl rfl) ?_
    refine mT ?_
    refine ar0 (s_cmp (.tmp rfl) (.tmp rfl) rfl rfl) ?_
    refine mT ?_
    refine ar0 (s_guard rfl rfl rfl (fun h => s_fldPtr (.tmp rfl) T68 rfl rfl rfl rfl)) ?_
    refine ar0 (s_guard rfl rfl rfl (fun h => s_loadPtr (.opt rfl (o1 h)) rfl T66 rfl rfl rfl)) ?_
    refine ar0 (s_guard rfl rfl rfl (fun h => s_lenMap (.opt rfl (o1 h)) T66 rfl rfl)) ?_
    refine ar0 (s_guard rfl rfl rfl (fun h => s_move (.tmp rfl) rfl)) ?_
    refine ar0 (s_guard rfl rfl rfl (fun h => s_cmp (.opt rfl (o1 h)) (.opt rfl (o1 h)) rfl rfl)) ?_
    refine ar0 (s_pick (.tmp rfl) (fun _ => .const _) (fun hp => .opt rfl (o1 hp)) rfl) ?_
    refine hK18 _ ?_
    refine awp_cond (.tmp rfl) (fun ht45 => ?_) (fun ht45 => ?_)
    ·have h2 : ¬ (r.num.length ≤ w ∧ r.den.length ≤ w) := orGt_t ht45
     refine sr fun K19 hK19=>?_
     refine aC ?_
     refine hK19 _ ?_
     refine awp_ret ⟨_, (.cons (.tmp rfl) .nil), ?_⟩
     exact fin_eq1 (by rw [briefB, all_miss hx (by unfold briefX; rw [all_miss hr (decide_eq_false h2), Bool.and_false])]; rfl)
    ·have h2 : r.num.length ≤ w ∧ r.den.length ≤ w := orGt_f ht45
     refine awp_skip (hK16 _ ?_)
     refine awp_region ?_
     refine ar0 (s_arithW (.tmp rfl) (.const _) rfl (i64_add1 (by unfold maxL; omega)) rfl) ?_
     refine mT ?_
     refine hK13 _ ((fun (k : Nat) => (⟨[(1, some (i64 w)), (2, some (i64 m)), (18, some (.lst 1 (l.map nR))), (19, some (i64 l.length)), (20, some (i64 i)), (28, some (.lst 3 (x.map Rt.av))), (29, some (i64 x.length)), (30, some (i64 k))], []⟩ : AS)) (k + 1)) ((fun (k : Nat) => x.length - k) (k + 1)) (Wk.of (.k (.k (.k (.k (.k (.k (.k (.k .nil)))))))) .nil) ⟨k + 1, rfl, ⟨hkn, all_step hkj hr (decide_eq_true h2)⟩, rfl⟩ (by first | omega | (dsimp only; omega))
   ·have hkn := lss_end hk ht31
    refine awp_exit ?_
    refine hK7 _ ?_
    refine awp_region ?_
    refine ar0 (s_arithW (.tmp rfl) (.const _) rfl (i64_add1 (by unfold maxL; omega)) rfl) ?_
    refine mT ?_
    refine hK4 _ ((fun (i : Nat) => (⟨[(1, some (i64 w)), (2, some (i64 m)), (18, some (.lst 1 (l.map nR))), (19, some (i64 l.length)), (20, some (i64 i))], []⟩ : AS)) (i + 1)) ((fun (i : Nat) => l.length - i) (i + 1)) (Wk.of (.k (.k (.k (.k (.k .nil))))) .nil) ⟨i + 1, rfl, ⟨hin, all_step hj hx (by unfold briefX; rw [decide_eq_true h1, all_end hkn hkj]; rfl)⟩, rfl⟩ (by first | omega | (dsimp only; omega))
 ·have hin := lss_end hi ht21
  refine awp_exit ?_
  refine hK2 _ ?_
  refine sr fun K20 hK20=>?_
  refine aC ?_
  refine hK20 _ ?_
  refine awp_ret ⟨_, (.cons (.tmp rfl) .nil), ?_⟩
  exact fin_eq1 (by rw [briefB, all_end hin hj]; rfl)
theorem c_l11_Light (rs xs : List (List Rt)) (hrs : RsOk rs) (hxs : RsOk xs) (hrl : rs.length ≤ 281474976710656) (hxl : xs.length ≤ 100) : FnC Tryz.prog 20 [towR rs, .lst 1 (xs.map nR)] (bl (lightB rs xs)) := by
 refine con_of0 (N := 35) (rs := [.tmp 4]) Tryz.func20 rfl rfl rfl rfl ?_
 refine sr fun K1 hK1=>?_
 refine bX ?_
 refine aC ?_
 refine hK1 _ ?_
 refine awp_seq ?_; intro K2 hK2
 refine sr fun K3 hK3=>?_
 refine fP T30 ?_
 refine lP T28 ?_
 refine ar0 (s_lenMap (.tmp rfl) T28 rfl rfl) ?_
 refine aT ?_
 refine hK3 _ ?_
 refine awp_block ?_
 refine sr fun K4 hK4=>?_
 refine mT ?_
 refine ar0 (s_cmp (.tmp rfl) (.const _) rfl rfl) ?_
 refine mT ?_
 refine ar0 (s_guard rfl rfl rfl (fun h => s_move (.tmp rfl) rfl)) ?_
 refine ar0 (s_guard rfl rfl rfl (fun h => s_cmp (.opt rfl (o1 h)) (.const _) rfl rfl)) ?_
 refine ar0 (s_guard rfl rfl rfl (fun h => s_move (.opt rfl (o1 h)) rfl)) ?_
 refine ar0 (s_guardO rfl rfl rfl (fun h h2 => s_move (.tmp rfl) rfl)) ?_
 refine ar0 (s_guardO rfl rfl rfl (fun h h2 => s_cmp (.opt rfl (o2 h h2)) (.const _) rfl rfl)) ?_
 refine ar0 (s_guard rfl rfl rfl (fun h => s_pick (.opt rfl (o1 h)) (fun hp => .opt rfl (o2 (o1 h) hp)) (fun _ => .const _) rfl)) ?_
 refine ar0 (s_pick (.tmp rfl) (fun _ => .const _) (fun hp => .opt rfl (o1 hp)) rfl) ?_
 refine aT ?_
 refine hK4 _ ?_
 refine awp_cond (.tmp rfl) (fun ht9 => ?_) (fun ht9 => ?_)
 ·have h1 : rs.length ≤ 1 ∨ (5 < rs.length ∧ rs.length ≤ 8) := few_t ht9
  refine sr fun K5 hK5=>?_
  refine lP T30 ?_
  refine mT ?_
  refine ar0 (s_call (c_l11_brief rs xs 3 40 hrs hxs (by omega) hxl) (.cons (.tmp rfl) (.cons (.const _) (.cons (.const _) (.cons (.tmp rfl) .nil)))) rfl rfl) ?_
  refine aT ?_
  refine hK5 _ ?_
  refine awp_ret ⟨_, (.cons (.tmp rfl) .nil), ?_⟩
  exact fin_eq1 (by unfold lightB; rw [if_pos h1])
 ·have h1 : ¬ (rs.length ≤ 1 ∨ (5 < rs.length ∧ rs.length ≤ 8)) := few_f ht9
  refine sr fun K6 hK6=>?_
  refine mT ?_
  refine ar0 (s_cmp (.tmp rfl) (.const _) rfl rfl) ?_
  refine aT ?_
  refine hK6 _ ?_
  refine awp_cond (.tmp rfl) (fun ht23 => ?_) (fun ht23 => ?_)
  ·have h2 : rs.length = 2 := by have := eql_t ht23; omega
   refine sr fun K7 hK7=>?_
   refine lP T30 ?_
   refine mT ?_
   refine ar0 (s_call (c_l11_brief rs xs 1 40 hrs hxs (by omega) hxl) (.cons (.tmp rfl) (.cons (.const _) (.cons (.const _) (.cons (.tmp rfl) .nil)))) rfl rfl) ?_
   refine aT ?_
   refine hK7 _ ?_
   refine awp_ret ⟨_, (.cons (.tmp rfl) .nil), ?_⟩
   exact fin_eq1 (by unfold lightB; rw [if_neg h1, if_pos h2])
  ·have h2 : ¬ rs.length = 2 := by have := eql_f ht23; omega
   refine sr fun K8 hK8=>?_
   refine mT ?_
   refine ar0 (s_cmp (.tmp rfl) (.const _) rfl rfl) ?_
   refine aT ?_
   refine hK8 _ ?_
   refine awp_cond (.tmp rfl) (fun ht29 => ?_) (fun ht29 => ?_)
   ·have h3 : rs.length = 3 := by have := eql_t ht29; omega
    refine sr fun K9 hK9=>?_
    refine lP T30 ?_
    refine mT ?_
    refine ar0 (s_call (c_l11_brief rs xs 1 4 hrs hxs (by omega) hxl) (.cons (.tmp rfl) (.cons (.const _) (.cons (.const _) (.cons (.tmp rfl) .nil)))) rfl rfl) ?_
    refine aT ?_
    refine hK9 _ ?_
    refine awp_ret ⟨_, (.cons (.tmp rfl) .nil), ?_⟩
    exact fin_eq1 (by unfold lightB; rw [if_neg h1, if_neg h2, if_pos h3])
   ·have h3 : ¬ rs.length = 3 := by have := eql_f ht29; omega
    refine awp_skip (hK2 _ ?_)
    refine sr fun K10 hK10=>?_
    refine aC ?_
    refine hK10 _ ?_
    refine awp_ret ⟨_, (.cons (.tmp rfl) .nil), ?_⟩
    exact fin_eq1 (by unfold lightB; rw [if_neg h1, if_neg h2, if_neg h3]; rfl)
theorem c_l11_Wide (rs xs : List (List Rt)) (hrs : RsOk rs) (hxs : RsOk xs) (hrl : rs.length ≤ 281474976710656) (hxl : xs.length ≤ 100) : FnC Tryz.prog 32 [towR rs, .lst 1 (xs.map nR)] (bl (wideB rs xs)) := by
 refine con_of0 (N := 15) (rs := [.tmp 4]) Tryz.func32 rfl rfl rfl rfl ?_
 refine sr fun K1 hK1=>?_
 refine bX ?_
 refine aC ?_
 refine hK1 _ ?_
 refine awp_seq ?_; intro K2 hK2
 refine sr fun K3 hK3=>?_
 refine fP T30 ?_
 refine lP T28 ?_
 refine ar0 (s_lenMap (.tmp rfl) T28 rfl rfl) ?_
 refine ar0 (s_cmp (.tmp rfl) (.const _) rfl rfl) ?_
 refine hK3 _ ?_
 refine awp_cond (.tmp rfl) (fun ht8 => ?_) (fun ht8 => ?_)
 ·have h2 : rs.length = 2 := by have := eql_t ht8; omega
  refine sr fun K4 hK4=>?_
  refine lP T30 ?_
  refine mT ?_
  refine ar0 (s_call (c_l11_brief rs xs 2 40 hrs hxs (by omega) hxl) (.cons (.tmp rfl) (.cons (.const _) (.cons (.const _) (.cons (.tmp rfl) .nil)))) rfl rfl) ?_
  refine aT ?_
  refine hK4 _ ?_
  refine awp_ret ⟨_, (.cons (.tmp rfl) .nil), ?_⟩
  exact fin_eq1 (by unfold wideB; rw [if_pos h2])
 ·have h2 : ¬ rs.length = 2 := by have := eql_f ht8; omega
  refine awp_skip (hK2 _ ?_)
  refine sr fun K5 hK5=>?_
  refine lP T30 ?_
  refine mT ?_
  refine ar0 (s_call (c_l11_Light rs xs hrs hxs hrl hxl) (.cons (.tmp rfl) (.cons (.tmp rfl) .nil)) rfl rfl) ?_
  refine aT ?_
  refine hK5 _ ?_
  refine awp_ret ⟨_, (.cons (.tmp rfl) .nil), ?_⟩
  exact fin_eq1 (by unfold wideB; rw [if_neg h2])
theorem c_l28_light (a : As) (ha : a.ok) : FnC Tryz.prog 8 [a.av] (bl (asB a)) := by
 have hbl := ha.bl
 refine con_of0 (N := 49) (rs := [.tmp 2]) Tryz.func8 rfl rfl rfl rfl ?_
 refine sr fun K1 hK1=>?_
 refine bX ?_
 refine aC ?_
 refine hK1 _ ?_
 refine awp_seq ?_; intro K2 hK2
 refine sr fun K3 hK3=>?_
 refine fP T34 ?_
 refine lP T31 ?_
 refine ar0 (s_lenMap (.tmp rfl) T31 rfl rfl) ?_
 refine ar0 (s_move (.const _) rfl) ?_
 refine hK3 _ ?_
 refine awp_block ?_
 refine awp_loop (fun n_ s_ => ∃ (i : Nat), a.bs.length - i = n_ ∧ (i ≤ a.bs.length ∧ (a.bs.take i).all (fun b => wideB a.rs b.l) = true) ∧ s_ = (⟨[(1, some (.ptr 1 0)), (6, some (.lst 4 (a.bs.map Pl.av))), (7, some (i64 a.bs.length)), (8, some (i64 i))], [(1, some (.box a.av.cells))]⟩ : AS))
  (n := ((fun (i : Nat) => a.bs.length - i) (0))) (s' := ((fun (i : Nat) => (⟨[(1, some (.ptr 1 0)), (6, some (.lst 4 (a.bs.map Pl.av))), (7, some (i64 a.bs.length)), (8, some (i64 i))], [(1, some (.box a.av.cells))]⟩ : AS)) (0)))
  (Wk.of (.k (.k (.k (.k .nil)))) (.cons rfl (.refl _) .nil)) ⟨0, rfl, ⟨Nat.zero_le _, rfl⟩, rfl⟩ ?_
 intro n_ s_ hI K4 hK4
 obtain ⟨i, rfl, ⟨hi, hj⟩, rfl⟩ := hI
 refine sr fun K5 hK5=>?_
 refine ar0 (s_cmp (.tmp rfl) (.tmp rfl) rfl rfl) ?_
 refine hK5 _ ?_
 refine awp_seq ?_; intro K6 hK6
 refine awp_cond (.tmp rfl) (fun ht9 => ?_) (fun ht9 => ?_)
 ·have hin := lss_t ht9
  obtain ⟨b, hb⟩ := getx hin
  have hbo := ha.bs b (List.mem_of_getElem? hb)
  refine awp_skip (hK6 _ ?_)
  refine awp_seq ?_; intro K7 hK7
  refine awp_block ?_
  refine sr fun K8 hK8=>?_
  refine ar0 (s_idxLst (.tmp rfl) (.tmp rfl) T31 rfl T62 rfl (by omega) (getmap hb) rfl) ?_
  refine ar0 (s_loadIptr (.tmp rfl) T62 rfl rfl rfl) ?_
  refine al T62 ?_
  refine sP T62 ?_
  refine hK8 _ ?_
  refine sr fun K9 hK9=>?_
  refine fP T34 ?_
  refine lP T30 ?_
  refine fP T62 ?_
  refine lP T60 ?_
  refine fP T62 ?_
  refine lP T60 ?_
  refine fP T62 ?_
  refine lP T60 ?_
  refine fP T62 ?_
  refine lP T60 ?_
  refine ar0 (s_buildLst rfl (.cons (.tmp rfl) (.cons (.tmp rfl) (.cons (.tmp rfl) (.cons (.tmp rfl) .nil)))) T28 rfl T60 rfl rfl rfl rfl rfl rfl rfl rfl) ?_
  refine ar0 (s_call (c_l11_Wide a.rs b.l ha.rs hbo ha.rl (by show 4 ≤ 100; omega)) (.cons (.tmp rfl) (.cons (.tmp rfl) .nil)) rfl rfl) ?_
  refine ar0 (s_not (.tmp rfl) rfl) ?_
  refine hK9 _ ?_
  refine awp_cond (.tmp rfl) (fun ht24 => ?_) (fun ht24 => ?_)
  ·have h1 := not_t ht24
   refine sr fun K10 hK10=>?_
   refine aC ?_
   refine hK10 _ ?_
   refine awp_ret ⟨_, (.cons (.tmp rfl) .nil), ?_⟩
   exact fin_eq1 (by unfold asB; rw [all_miss hb h1]; rfl)
  ·have h1 := not_f ht24
   refine awp_skip (hK7 _ ?_)
   refine awp_region ?_
   refine ar0 (s_arithW (.tmp rfl) (.const _) rfl (i64_add1 (by unfold maxL; omega)) rfl) ?_
   refine mT ?_
   refine hK4 _ ((fun (i : Nat) => (⟨[(1, some (.ptr 1 0)), (6, some (.lst 4 (a.bs.map Pl.av))), (7, some (i64 a.bs.length)), (8, some (i64 i))], [(1, some (.box a.av.cells))]⟩ : AS)) (i + 1)) ((fun (i : Nat) => a.bs.length - i) (i + 1)) (Wk.of (.k (.k (.k (.k .nil)))) (.cons rfl (.refl _) .nil)) ⟨i + 1, rfl, ⟨hin, all_step hj hb h1⟩, rfl⟩ (by first | omega | (dsimp only; omega))
 ·have hin := lss_end hi ht9
  refine awp_exit ?_
  refine hK2 _ ?_
  refine sr fun K11 hK11=>?_
  refine fP T34 ?_
  refine lP T31 ?_
  refine ar0 (s_lenMap (.tmp rfl) T31 rfl rfl) ?_
  refine ar0 (s_cmp (.tmp rfl) (.const _) rfl rfl) ?_
  refine mT ?_
  refine ar0 (s_guard rfl rfl rfl (fun h => s_fldPtr (.tmp rfl) T34 rfl rfl rfl rfl)) ?_
  refine ar0 (s_guard rfl rfl rfl (fun h => s_loadPtr (.opt rfl (o1 h)) rfl T30 rfl rfl rfl)) ?_
  refine ar0 (s_guard rfl rfl rfl (fun h => s_call (Con.subA (.cons (.refl _) (.cons (Sub.nil 1 none 0) .nil)) (c_l11_Wide a.rs [] ha.rs rs_nil ha.rl (by show 0 ≤ 100; omega))) (.cons (.opt rfl (o1 h)) (.cons (.const _) .nil)) rfl rfl)) ?_
  refine ar0 (s_pick (.tmp rfl) (fun hp => .opt rfl (o1 hp)) (fun _ => .const _) rfl) ?_
  refine mT ?_
  refine ar0 (s_guard rfl rfl rfl (fun h => s_fldPtr (.tmp rfl) T34 rfl rfl rfl rfl)) ?_
  refine ar0 (s_guard rfl rfl rfl (fun h => s_fldPtr (.opt rfl (o1 h)) T30 rfl rfl rfl rfl)) ?_
  refine ar0 (s_guard rfl rfl rfl (fun h => s_loadPtr (.opt rfl (o1 h)) rfl T28 rfl rfl rfl)) ?_
  refine ar0 (s_guard rfl rfl rfl (fun h => s_lenMap (.opt rfl (o1 h)) T28 rfl rfl)) ?_
  refine ar0 (s_guard rfl rfl rfl (fun h => s_cmp (.opt rfl (o1 h)) (.const _) rfl rfl)) ?_
  refine ar0 (s_guard rfl rfl rfl (fun h => s_move (.opt rfl (o1 h)) rfl)) ?_
  refine ar0 (s_guardO rfl rfl rfl (fun h h2 => s_fldPtr (.tmp rfl) T34 rfl rfl rfl rfl)) ?_
  refine ar0 (s_guardO rfl rfl rfl (fun h h2 => s_fldPtr (.opt rfl (o2 h h2)) T30 rfl rfl rfl rfl)) ?_
  refine ar0 (s_guardO rfl rfl rfl (fun h h2 => s_loadPtr (.opt rfl (o2 h h2)) rfl T28 rfl rfl rfl)) ?_
  refine ar0 (s_guardO rfl rfl rfl (fun h h2 => s_lenMap (.opt rfl (o2 h h2)) T28 rfl rfl)) ?_
  refine ar0 (s_guardO rfl rfl rfl (fun h h2 => s_cmp (.opt rfl (o2 h h2)) (.const _) rfl rfl)) ?_
  refine ar0 (s_guard rfl rfl rfl (fun h => s_pick (.opt rfl (o1 h)) (fun _ => .const _) (fun hp => .opt rfl (o2 (o1 h) hp)) rfl)) ?_
  refine ar0 (s_pick (.tmp rfl) (fun hp => .opt rfl (o1 hp)) (fun _ => .const _) rfl) ?_
  refine aT ?_
  refine hK11 _ ?_
  refine awp_ret ⟨_, (.cons (.tmp rfl) .nil), ?_⟩
  exact fin_eq1 (by exact congrArg bl (asB_end (all_end hin hj)))
theorem c_l25_Light (l : Li) (hl : l.okw) : FnC Tryz.prog 28 [l.av] (bl (liB l)) := by
 have hbl := hl.lb
 refine con_of0 (N := 69) (rs := [.tmp 2]) Tryz.func28 rfl rfl rfl rfl ?_
 refine sr fun K1 hK1=>?_
 refine bX ?_
 refine aC ?_
 refine hK1 _ ?_
 refine awp_seq ?_; intro K2 hK2
 refine sr fun K3 hK3=>?_
 refine fP T26 ?_
 refine lP T22 ?_
 refine ar0 (s_lenMap (.tmp rfl) T22 rfl rfl) ?_
 refine ar0 (s_move (.const _) rfl) ?_
 refine hK3 _ ?_
 refine awp_block ?_
 refine awp_loop (fun n_ s_ => ∃ (i : Nat), l.bodies.length - i = n_ ∧ (i ≤ l.bodies.length ∧ (l.bodies.take i).all bdB = true) ∧ s_ = (⟨[(1, some (.ptr 1 0)), (8, some (.lst 2 (l.bodies.map Bd.av))), (9, some (i64 l.bodies.length)), (10, some (i64 i))], [(1, some (.box l.av.cells))]⟩ : AS))
  (n := ((fun (i : Nat) => l.bodies.length - i) (0))) (s' := ((fun (i : Nat) => (⟨[(1, some (.ptr 1 0)), (8, some (.lst 2 (l.bodies.map Bd.av))), (9, some (i64 l.bodies.length)), (10, some (i64 i))], [(1, some (.box l.av.cells))]⟩ : AS)) (0)))
  (Wk.of (.k (.k (.k (.k .nil)))) (.cons rfl (.refl _) .nil)) ⟨0, rfl, ⟨Nat.zero_le _, rfl⟩, rfl⟩ ?_
 intro n_ s_ hI K4 hK4
 obtain ⟨i, rfl, ⟨hi, hj⟩, rfl⟩ := hI
 refine sr fun K5 hK5=>?_
 refine ar0 (s_cmp (.tmp rfl) (.tmp rfl) rfl rfl) ?_
 refine hK5 _ ?_
 refine awp_seq ?_; intro K6 hK6
 refine awp_cond (.tmp rfl) (fun ht11 => ?_) (fun ht11 => ?_)
 ·have hin := lss_t ht11
  obtain ⟨b, hb⟩ := getx hin
  refine awp_skip (hK6 _ ?_)
  refine awp_seq ?_; intro K7 hK7
  refine awp_block ?_
  refine sr fun K8 hK8=>?_
  refine ar0 (s_idxLst (.tmp rfl) (.tmp rfl) T22 rfl T89 rfl (by omega) (getmap hb) rfl) ?_
  refine ar0 (s_loadIptr (.tmp rfl) T89 rfl rfl rfl) ?_
  refine al T89 ?_
  refine sP T89 ?_
  refine hK8 _ ?_
  refine awp_seq ?_; intro K9 hK9
  refine sr fun K10 hK10=>?_
  refine fP T89 ?_
  refine lP T87 ?_
  refine ar0 (s_lenMap (.tmp rfl) T87 rfl rfl) ?_
  refine ar0 (s_cmp (.tmp rfl) (.const _) rfl rfl) ?_
  refine hK10 _ ?_
  refine awp_cond (.tmp rfl) (fun ht17 => ?_) (fun ht17 => ?_)
  ·have h1 : 30 < b.pts.length := gtr_t ht17
   refine sr fun K11 hK11=>?_
   refine aC ?_
   refine hK11 _ ?_
   refine awp_ret ⟨_, (.cons (.tmp rfl) .nil), ?_⟩
   exact fin_eq1 (by unfold liB; rw [all_miss hb (by unfold bdB; rw [decide_eq_false (by omega)]; rfl)]; rfl)
  ·have h1 : b.pts.length ≤ 30 := gtr_f ht17
   refine awp_skip (hK9 _ ?_)
   refine sr fun K12 hK12=>?_
   refine fP T89 ?_
   refine lP T87 ?_
   refine ar0 (s_lenMap (.tmp rfl) T87 rfl rfl) ?_
   refine ar0 (s_move (.const _) rfl) ?_
   refine hK12 _ ?_
   refine awp_block ?_
   refine awp_loop (fun n_ s_ => ∃ (k : Nat), b.pts.length - k = n_ ∧ (k ≤ b.pts.length ∧ (b.pts.take k).all mkB = true) ∧ s_ = (⟨[(1, some (.ptr 1 0)), (8, some (.lst 2 (l.bodies.map Bd.av))), (9, some (i64 l.bodies.length)), (10, some (i64 i)), (19, some (.lst 7 (b.pts.map Mk.av))), (20, some (i64 b.pts.length)), (21, some (i64 k))], [(1, some (.box l.av.cells))]⟩ : AS))
    (n := ((fun (k : Nat) => b.pts.length - k) (0))) (s' := ((fun (k : Nat) => (⟨[(1, some (.ptr 1 0)), (8, some (.lst 2 (l.bodies.map Bd.av))), (9, some (i64 l.bodies.length)), (10, some (i64 i)), (19, some (.lst 7 (b.pts.map Mk.av))), (20, some (i64 b.pts.length)), (21, some (i64 k))], [(1, some (.box l.av.cells))]⟩ : AS)) (0)))
    (Wk.of (.k (.k (.k (.k (.k (.k (.k .nil))))))) (.cons rfl (.refl _) .nil)) ⟨0, rfl, ⟨Nat.zero_le _, rfl⟩, rfl⟩ ?_
   intro n_ s_ hI K13 hK13
   obtain ⟨k, rfl, ⟨hk, hkj⟩, rfl⟩ := hI
   refine sr fun K14 hK14=>?_
   refine ar0 (s_cmp (.tmp rfl) (.tmp rfl) rfl rfl) ?_
   refine hK14 _ ?_
   refine awp_seq ?_; intro K15 hK15
   refine awp_cond (.tmp rfl) (fun ht22 => ?_) (fun ht22 => ?_)
   ·have hkn := lss_t ht22
    obtain ⟨p, hp⟩ := getx hkn
    refine awp_skip (hK15 _ ?_)
    refine awp_seq ?_; intro K16 hK16
    refine awp_block ?_
    refine sr fun K17 hK17=>?_
    refine ar0 (s_idxLst (.tmp rfl) (.tmp rfl) T87 rfl T91 rfl (by omega) (getmap hp) rfl) ?_
    refine ar0 (s_loadIptr (.tmp rfl) T91 rfl rfl rfl) ?_
    refine al T91 ?_
    refine sP T91 ?_
    refine hK17 _ ?_
    refine sr fun K18 hK18=>?_
    refine fP T91 ?_
    refine fP T68 ?_
    refine lP T66 ?_
    refine ar0 (s_lenMap (.tmp rfl) T66 rfl rfl) ?_
    refine ar0 (s_cmp (.tmp rfl) (.const _) rfl rfl) ?_
    refine mT ?_
    refine ar0 (s_guard rfl rfl rfl (fun h => s_fldPtr (.tmp rfl) T91 rfl rfl rfl rfl)) ?_
    refine ar0 (s_guard rfl rfl rfl (fun h => s_fldPtr (.opt rfl (o1 h)) T68 rfl rfl rfl rfl)) ?_
    refine ar0 (s_guard rfl rfl rfl (fun h => s_loadPtr (.opt rfl (o1 h)) rfl T66 rfl rfl rfl)) ?_
    refine ar0 (s_guard rfl rfl rfl (fun h => s_lenMap (.opt rfl (o1 h)) T66 rfl rfl)) ?_
    refine ar0 (s_guard rfl rfl rfl (fun h => s_cmp (.opt rfl (o1 h)) (.const _) rfl rfl)) ?_
    refine ar0 (s_pick (.tmp rfl) (fun _ => .const _) (fun hp => .opt rfl (o1 hp)) rfl) ?_
    refine mT ?_
    refine ar0 (s_guard rfl rfl rfl (fun h => s_fldPtr (.tmp rfl) T91 rfl rfl rfl rfl)) ?_
    refine ar0 (s_guard rfl rfl rfl (fun h => s_fldPtr (.opt rfl (o1 h)) T68 rfl rfl rfl rfl)) ?_
    refine ar0 (s_guard rfl rfl rfl (fun h => s_loadPtr (.opt rfl (o1 h)) rfl T66 rfl rfl rfl)) ?_
    refine ar0 (s_guard rfl rfl rfl (fun h => s_lenMap (.opt rfl (o1 h)) T66 rfl rfl)) ?_
    refine ar0 (s_guard rfl rfl rfl (fun h => s_cmp (.opt rfl (o1 h)) (.const _) rfl rfl)) ?_
    refine ar0 (s_pick (.tmp rfl) (fun _ => .const _) (fun hp => .opt rfl (o1 hp)) rfl) ?_
    refine mT ?_
    refine ar0 (s_guard rfl rfl rfl (fun h => s_fldPtr (.tmp rfl) T91 rfl rfl rfl rfl)) ?_
    refine ar0 (s_guard rfl rfl rfl (fun h => s_fldPtr (.opt rfl (o1 h)) T68 rfl rfl rfl rfl)) ?_
    refine ar0 (s_guard rfl rfl rfl (fun h => s_loadPtr (.opt rfl (o1 h)) rfl T66 rfl rfl rfl)) ?_
    refine ar0 (s_guard rfl rfl rfl (fun h => s_lenMap (.opt rfl (o1 h)) T66 rfl rfl)) ?_
    refine ar0 (s_guard rfl rfl rfl (fun h => s_cmp (.opt rfl (o1 h)) (.const _) rfl rfl)) ?_
    refine ar0 (s_pick (.tmp rfl) (fun _ => .const _) (fun hp => .opt rfl (o1 hp)) rfl) ?_
    refine hK18 _ ?_
    refine awp_cond (.tmp rfl) (fun ht50 => ?_) (fun ht50 => ?_)
    ·have h2 : mkB p = false := four_t ht50
     refine sr fun K19 hK19=>?_
     refine aC ?_
     refine hK19 _ ?_
     refine awp_ret ⟨_, (.cons (.tmp rfl) .nil), ?_⟩
     exact fin_eq1 (by unfold liB; rw [all_miss hb (by unfold bdB; rw [all_miss hp h2, Bool.and_false])]; rfl)
    ·have h2 : mkB p = true := four_f ht50
     refine awp_skip (hK16 _ ?_)
     refine awp_region ?_
     refine ar0 (s_arithW (.tmp rfl) (.const _) rfl (i64_add1 (by unfold maxL; omega)) rfl) ?_
     refine mT ?_
     refine hK13 _ ((fun (k : Nat) => (⟨[(1, some (.ptr 1 0)), (8, some (.lst 2 (l.bodies.map Bd.av))), (9, some (i64 l.bodies.length)), (10, some (i64 i)), (19, some (.lst 7 (b.pts.map Mk.av))), (20, some (i64 b.pts.length)), (21, some (i64 k))], [(1, some (.box l.av.cells))]⟩ : AS)) (k + 1)) ((fun (k : Nat) => b.pts.length - k) (k + 1)) (Wk.of (.k (.k (.k (.k (.k (.k (.k .nil))))))) (.cons rfl (.refl _) .nil)) ⟨k + 1, rfl, ⟨hkn, all_step hkj hp h2⟩, rfl⟩ (by first | omega | (dsimp only; omega))
   ·have hkn := lss_end hk ht22
    refine awp_exit ?_
    refine hK7 _ ?_
    refine awp_region ?_
    refine ar0 (s_arithW (.tmp rfl) (.const _) rfl (i64_add1 (by unfold maxL; omega)) rfl) ?_
    refine mT ?_
    refine hK4 _ ((fun (i : Nat) => (⟨[(1, some (.ptr 1 0)), (8, some (.lst 2 (l.bodies.map Bd.av))), (9, some (i64 l.bodies.length)), (10, some (i64 i))], [(1, some (.box l.av.cells))]⟩ : AS)) (i + 1)) ((fun (i : Nat) => l.bodies.length - i) (i + 1)) (Wk.of (.k (.k (.k (.k .nil)))) (.cons rfl (.refl _) .nil)) ⟨i + 1, rfl, ⟨hin, all_step hj hb (by unfold bdB; rw [decide_eq_true h1, all_end hkn hkj]; rfl)⟩, rfl⟩ (by first | omega | (dsimp only; omega))
 ·have hin := lss_end hi ht11
  refine awp_exit ?_
  refine hK2 _ ?_
  refine sr fun K20 hK20=>?_
  refine fP T26 ?_
  refine lP T22 ?_
  refine ar0 (s_lenMap (.tmp rfl) T22 rfl rfl) ?_
  refine ar0 (s_cmp (.tmp rfl) (.const _) rfl rfl) ?_
  refine mT ?_
  refine ar0 (s_guard rfl rfl rfl (fun h => s_fldPtr (.tmp rfl) T26 rfl rfl rfl rfl)) ?_
  refine ar0 (s_guard rfl rfl rfl (fun h => s_loadPtr (.opt rfl (o1 h)) rfl T23 rfl rfl rfl)) ?_
  refine ar0 (s_guard rfl rfl rfl (fun h => s_lenMap (.opt rfl (o1 h)) T23 rfl rfl)) ?_
  refine ar0 (s_guard rfl rfl rfl (fun h => s_cmp (.opt rfl (o1 h)) (.const _) rfl rfl)) ?_
  refine ar0 (s_pick (.tmp rfl) (fun hp => .opt rfl (o1 hp)) (fun _ => .const _) rfl) ?_
  refine mT ?_
  refine ar0 (s_guard rfl rfl rfl (fun h => s_fldPtr (.tmp rfl) T26 rfl rfl rfl rfl)) ?_
  refine ar0 (s_guard rfl rfl rfl (fun h => s_loadPtr (.opt rfl (o1 h)) rfl T24 rfl rfl rfl)) ?_
  refine ar0 (s_guard rfl rfl rfl (fun h => s_lenMap (.opt rfl (o1 h)) T24 rfl rfl)) ?_
  refine ar0 (s_guard rfl rfl rfl (fun h => s_cmp (.opt rfl (o1 h)) (.const _) rfl rfl)) ?_
  refine ar0 (s_pick (.tmp rfl) (fun hp => .opt rfl (o1 hp)) (fun _ => .const _) rfl) ?_
  refine aT ?_
  refine hK20 _ ?_
  refine awp_ret ⟨_, (.cons (.tmp rfl) .nil), ?_⟩
  exact fin_eq1 (by exact congrArg bl (liB_end (all_end hin hj)))
theorem c_l26_Light (l : Li) (ps : List Pse) (hl : l.okw) (hps : ∀ p ∈ ps, p.wok) (hpl : ps.length ≤ 281474976710656) : FnC Tryz.prog 13 [drawnA l ps] (bl (drB l ps)) := by
 refine con_of0 (N := 37) (rs := [.tmp 2]) Tryz.func13 rfl rfl rfl rfl ?_
 refine sr fun K1 hK1=>?_
 refine bX ?_
 refine aC ?_
 refine hK1 _ ?_
 refine awp_seq ?_; intro K2 hK2
 refine sr fun K3 hK3=>?_
 refine fP T51 ?_
 refine lP T48 ?_
 refine ar0 (s_lenMap (.tmp rfl) T48 rfl rfl) ?_
 refine ar0 (s_move (.const _) rfl) ?_
 refine hK3 _ ?_
 refine awp_block ?_
 refine awp_loop (fun n_ s_ => ∃ (i : Nat), ps.length - i = n_ ∧ (i ≤ ps.length ∧ (ps.take i).all psB = true) ∧ s_ = (⟨[(1, some (.ptr 1 0)), (6, some (.lst 10 (ps.map Pse.av))), (7, some (i64 ps.length)), (8, some (i64 i))], [(1, some (.box (drawnA l ps).cells))]⟩ : AS))
  (n := ((fun (i : Nat) => ps.length - i) (0))) (s' := ((fun (i : Nat) => (⟨[(1, some (.ptr 1 0)), (6, some (.lst 10 (ps.map Pse.av))), (7, some (i64 ps.length)), (8, some (i64 i))], [(1, some (.box (drawnA l ps).cells))]⟩ : AS)) (0)))
  (Wk.of (.k (.k (.k (.k .nil)))) (.cons rfl (.refl _) .nil)) ⟨0, rfl, ⟨Nat.zero_le _, rfl⟩, rfl⟩ ?_
 intro n_ s_ hI K4 hK4
 obtain ⟨i, rfl, ⟨hi, hj⟩, rfl⟩ := hI
 refine sr fun K5 hK5=>?_
 refine ar0 (s_cmp (.tmp rfl) (.tmp rfl) rfl rfl) ?_
 refine hK5 _ ?_
 refine awp_seq ?_; intro K6 hK6
 refine awp_cond (.tmp rfl) (fun ht9 => ?_) (fun ht9 => ?_)
 ·have hin := lss_t ht9
  obtain ⟨p, hp⟩ := getx hin
  have hpo := hps p (List.mem_of_getElem? hp)
  refine awp_skip (hK6 _ ?_)
  refine awp_seq ?_; intro K7 hK7
  refine awp_block ?_
  refine sr fun K8 hK8=>?_
  refine ar0 (s_idxLst (.tmp rfl) (.tmp rfl) T48 rfl T85 rfl (by omega) (getmap hp) rfl) ?_
  refine ar0 (s_loadIptr (.tmp rfl) T85 rfl rfl rfl) ?_
  refine al T85 ?_
  refine sP T85 ?_
  refine hK8 _ ?_
  refine sr fun K9 hK9=>?_
  refine ar0 (s_build .nil T30 rfl rfl rfl rfl rfl) ?_
  refine fP T85 ?_
  refine fP T81 ?_
  refine lP T68 ?_
  refine fP T85 ?_
  refine fP T83 ?_
  refine lP T68 ?_
  refine ar0 (s_buildLst rfl (.cons (.tmp rfl) (.cons (.tmp rfl) .nil)) T60 rfl T68 rfl rfl rfl rfl rfl rfl rfl rfl) ?_
  refine fP T85 ?_
  refine fP T83 ?_
  refine lP T68 ?_
  refine ar0 (s_buildLst rfl (.cons (.tmp rfl) .nil) T60 rfl T68 rfl rfl rfl rfl rfl rfl rfl rfl) ?_
  refine ar0 (s_buildLst rfl (.cons (.tmp rfl) (.cons (.tmp rfl) .nil)) T28 rfl T60 rfl rfl rfl rfl rfl rfl rfl rfl) ?_
  refine ar0 (s_call (Con.subA (.cons (Sub.agg (.cons (Sub.nil 1 none 0) .nil) rfl) (.cons (.refl _) .nil)) (c_l11_Light [] [[p.turn.t, p.at_.x], [p.at_.y]] rs_nil hpo.rs (by show 0 ≤ _; omega) (by show 2 ≤ 100; omega))) (.cons (.tmp rfl) (.cons (.tmp rfl) .nil)) rfl rfl) ?_
  refine ar0 (s_not (.tmp rfl) rfl) ?_
  refine hK9 _ ?_
  refine awp_cond (.tmp rfl) (fun ht26 => ?_) (fun ht26 => ?_)
  ·have h1 := not_t ht26
   refine sr fun K10 hK10=>?_
   refine aC ?_
   refine hK10 _ ?_
   refine awp_ret ⟨_, (.cons (.tmp rfl) .nil), ?_⟩
   exact fin_eq1 (by unfold drB; rw [all_miss hp h1]; rfl)
  ·have h1 := not_f ht26
   refine awp_skip (hK7 _ ?_)
   refine awp_region ?_
   refine ar0 (s_arithW (.tmp rfl) (.const _) rfl (i64_add1 (by unfold maxL; omega)) rfl) ?_
   refine mT ?_
   refine hK4 _ ((fun (i : Nat) => (⟨[(1, some (.ptr 1 0)), (6, some (.lst 10 (ps.map Pse.av))), (7, some (i64 ps.length)), (8, some (i64 i))], [(1, some (.box (drawnA l ps).cells))]⟩ : AS)) (i + 1)) ((fun (i : Nat) => ps.length - i) (i + 1)) (Wk.of (.k (.k (.k (.k .nil)))) (.cons rfl (.refl _) .nil)) ⟨i + 1, rfl, ⟨hin, all_step hj hp h1⟩, rfl⟩ (by first | omega | (dsimp only; omega))
 ·have hin := lss_end hi ht9
  refine awp_exit ?_
  refine hK2 _ ?_
  refine sr fun K11 hK11=>?_
  refine fP T51 ?_
  refine lP T48 ?_
  refine ar0 (s_lenMap (.tmp rfl) T48 rfl rfl) ?_
  refine ar0 (s_cmp (.tmp rfl) (.const _) rfl rfl) ?_
  refine mT ?_
  refine ar0 (s_guard rfl rfl rfl (fun h => s_fldPtr (.tmp rfl) T51 rfl rfl rfl rfl)) ?_
  refine ar0 (s_guard rfl rfl rfl (fun h => s_loadPtr (.opt rfl (o1 h)) rfl T26 rfl rfl rfl)) ?_
  refine ar0 (s_guard rfl rfl rfl (fun h => s_call (c_l25_Light l hl) (.cons (.opt rfl (o1 h)) .nil) rfl rfl)) ?_
  refine ar0 (s_pick (.tmp rfl) (fun hp => .opt rfl (o1 hp)) (fun _ => .const _) rfl) ?_
  refine aT ?_
  refine hK11 _ ?_
  refine awp_ret ⟨_, (.cons (.tmp rfl) .nil), ?_⟩
  exact fin_eq1 (by exact congrArg bl (drB_end (all_end hin hj)))
end Go.Lw
namespace Go.Lw
theorem pok_b {p : Pse} : cond (cond (!(isNil (errV p.turn.err))) true (!p.at_.x.valid)) true (!p.at_.y.valid) = !p.ok := by
  unfold Pse.ok
  rw [isNil_err]
  cases decide (p.turn.err = 0) <;> cases p.at_.x.valid <;> cases p.at_.y.valid <;> rfl
theorem pok_t {p : Pse} (h : cond (cond (!(isNil (errV p.turn.err))) true (!p.at_.x.valid)) true (!p.at_.y.valid) = true) : p.ok = false := by
  rw [pok_b] at h; exact not_t h
theorem pok_f {p : Pse} (h : cond (cond (!(isNil (errV p.turn.err))) true (!p.at_.x.valid)) true (!p.at_.y.valid) = false) : p.ok = true := by
  rw [pok_b] at h; exact not_f h
theorem pok_parts {p : Pse} (h : p.ok = true) : p.turn.err = 0 ∧ p.at_.x.valid = true ∧ p.at_.y.valid = true := by
  unfold Pse.ok at h
  simp only [Bool.and_eq_true, decide_eq_true_eq] at h
  exact ⟨h.1.1, h.1.2, h.2⟩
/-- A placed body with canonical numbers. -/
structure Pq where
  c : List Rat
  s : List Rat
  x : List Rat
  y : List Rat
def Pq.av (p : Pq) : AV := .agg [nA p.c, nA p.s, nA p.x, nA p.y]
structure Pq.ok (n e : Nat) (p : Pq) : Prop where
  c : Nm n e p.c
  s : Nm n e p.s
  x : Nm n e p.x
  y : Nm n e p.y
def posed (p : Pse) : Pq := ⟨sh 0 (cosQ p.turn.half p.turn.t.q : Rat), sh 0 (sinQ p.turn.half p.turn.t.q : Rat), sh 0 (p.at_.x.q : Rat), sh 0 (p.at_.y.q : Rat)⟩
def ofE (ps : List Pse) : Nat := if ps.all Pse.ok = true then 0 else 2
def ofL (ps : List Pse) : List Pq := if ps.all Pse.ok = true then ps.map posed else []
def asA (bs : List Pq) : AV := .agg [.lst 1 [], .lst 4 (bs.map Pq.av), .lst 1 []]
theorem ofE_ok {ps : List Pse} (h : ofE ps = 0) : ps.all Pse.ok = true := by
  unfold ofE at h
  split at h
  · assumption
  · cases h
theorem ofE_at {ps : List Pse} (h : ps.all Pse.ok = true) : ofE ps = 0 := by unfold ofE; rw [if_pos h]
theorem ofL_at {ps : List Pse} (h : ps.all Pse.ok = true) : ofL ps = ps.map posed := by unfold ofL; rw [if_pos h]
theorem ofE_bad {ps : List Pse} (h : ps.all Pse.ok = false) : ofE ps = 2 := by unfold ofE; rw [if_neg (by rw [h]; simp)]
theorem ofL_bad {ps : List Pse} (h : ps.all Pse.ok = false) : ofL ps = [] := by unfold ofL; rw [if_neg (by rw [h]; simp)]
/-- The zero assembly. -/
theorem sub_as0 : Sub (.agg [.v (.slice none 0 0), .v (.slice none 0 0), .v (.slice none 0 0)]) (asA []) := .agg (.cons (.nil _ _ _) (.cons (.nil _ _ _) (.cons (.nil _ _ _) .nil))) rfl
theorem sub_as {bs : List Pq} : Sub (.agg [.v (.slice none 0 0), .lst 4 (bs.map Pq.av), .v (.slice none 0 0)]) (asA bs) := .agg (.cons (.nil _ _ _) (.cons (.refl _) (.cons (.nil _ _ _) .nil))) rfl
theorem qb_cos {half : Bool} {t : Rat} {e : Nat} (h : Qb e t) : Qb (4 * e + 6) (cosQ half t) := by
  unfold cosQ
  split
  · exact Qb.one.neg.mono (by omega)
  · exact ((Qb.one.sub (h.mul h)).div (Qb.one.add (h.mul h))).mono (by omega)
theorem qb_sin {half : Bool} {t : Rat} {e : Nat} (h : Qb e t) : Qb (4 * e + 6) (sinQ half t) := by
  unfold sinQ
  split
  · exact Qb.zero.mono (by omega)
  · exact ((h.add h).div (Qb.one.add (h.mul h))).mono (by omega)
theorem nm_q {n e : Nat} {q : Rat} (hn : n ≤ 5) (h : Qb e q) : Nm n (e + e) (sh 0 (q : Rat)) := by
  have h1 : Nl n (sh 0 (q : Rat)) := by
    have : Nl 0 (sh 0 (q : Rat)) := sh_nl 0 _
    rcases this with h | ⟨j, hj, h⟩
    · exact .inl h
    · exact .inr ⟨j, by omega, h⟩
  refine ⟨hn, h1, ?_⟩
  have hm : ∀ p ∈ sh 0 (q : Rat), Qb e p := by
    intro p hp
    have : p = q := by
      unfold sh at hp
      split at hp
      · cases hp
      · exact List.mem_singleton.1 hp
    rw [this]; exact h
  obtain ⟨D, N, h3, h4, h5⟩ := cd_list hm
  have h6 : (sh 0 (q : Rat)).length ≤ 1 := by
    rcases (sh_nl 0 (q : Rat)) with h | ⟨j, hj, h⟩
    · rw [h]; simp
    · have : j = 0 := by omega
      subst this; rw [h]; simp
  have h7 : e * (sh 0 (q : Rat)).length ≤ e * 1 := Nat.mul_le_mul_left _ h6
  exact ⟨D, N, h3, Nat.le_trans h4 (pow_le2 (by omega)), Nat.le_trans h5 (pow_le2 (by omega))⟩
theorem posed_ok {n : Nat} {p : Pse} (hn : n ≤ 5) (h : p.lok) : (posed p).ok n 1000 :=
  ⟨(nm_q hn (qb_cos h.t)).mono (by omega), (nm_q hn (qb_sin h.t)).mono (by omega), (nm_q hn h.x).mono (by omega), (nm_q hn h.y).mono (by omega)⟩
/-! ### Matches -/
def sameP (ts : List (List Rat)) (b : Pl) (w : Pq) : Bool :=
  eqT ts (dec ts.length (lq b.c)) (dec ts.length w.c) && eqT ts (dec ts.length (lq b.s)) (dec ts.length w.s) && eqT ts (dec ts.length (lq b.x)) (dec ts.length w.x) && eqT ts (dec ts.length (lq b.y)) (dec ts.length w.y)
/-- The error of Matches. -/
def mE (a : As) (ps : List Pse) : Nat :=
  if chkE a.rs ≠ 0 then chkE a.rs else if ofE ps ≠ 0 then ofE ps else if a.bs.length ≠ ps.length then 10 else firstE (a.bs.map (fun b => chksE a.rs b.l))
def mB (a : As) (ps : List Pse) : Bool := decide (mE a ps = 0) && (a.bs.zip ps).all (fun z => sameP (llq a.rs) z.1 (posed z.2))
theorem firstE_at {α : Type} {l : List α} {f : α → Nat} {i : Nat} {x : α} (hx : l[i]? = some x) (hb : ∀ y ∈ l.take i, f y = 0) (hn : f x ≠ 0) : firstE (l.map f) = f x := by
  have e : l = l.take i ++ l.drop i := (List.take_append_drop i l).symm
  have hi := (List.getElem?_eq_some_iff.1 hx).1
  have e2 : l.drop i = x :: l.drop (i + 1) := by
    rw [List.drop_eq_getElem_cons hi, (List.getElem?_eq_some_iff.1 hx).2]
  rw [e, List.map_append, firstE_app _ _ (firstE_of (fun v hv => by
    obtain ⟨y, hy, rfl⟩ := List.mem_map.1 hv
    exact hb y hy)), e2]
  show (if f x ≠ 0 then f x else _) = _
  rw [if_pos hn]
theorem mE_chk {a : As} {ps : List Pse} (h : chkE a.rs ≠ 0) : mE a ps = chkE a.rs := by unfold mE; rw [if_pos h]
theorem mE_of {a : As} {ps : List Pse} (h : chkE a.rs = 0) (h1 : ofE ps ≠ 0) : mE a ps = ofE ps := by unfold mE; rw [if_neg (by rw [h]; simp), if_pos h1]
theorem mE_len {a : As} {ps : List Pse} (h : chkE a.rs = 0) (h1 : ofE ps = 0) (h2 : a.bs.length ≠ ps.length) : mE a ps = 10 := by
  unfold mE; rw [if_neg (by rw [h]; simp), if_neg (by rw [h1]; simp), if_pos h2]
theorem mE_num {a : As} {ps : List Pse} (h : chkE a.rs = 0) (h1 : ofE ps = 0) (h2 : a.bs.length = ps.length) : mE a ps = firstE (a.bs.map (fun b => chksE a.rs b.l)) := by
  unfold mE; rw [if_neg (by rw [h]; simp), if_neg (by rw [h1]; simp), if_neg (by rw [h2]; simp)]
theorem mB_err {a : As} {ps : List Pse} (h : mE a ps ≠ 0) : mB a ps = false := by unfold mB; rw [decide_eq_false h]; rfl
theorem mB_eq {a : As} {ps : List Pse} (h : mE a ps = 0) : mB a ps = (a.bs.zip ps).all (fun z => sameP (llq a.rs) z.1 (posed z.2)) := by unfold mB; rw [decide_eq_true h]; rfl
/-- The numbers of a placed body that was looked through. -/
theorem pl_canon {rs : List (List Rt)} {b : Pl} (h : chksE rs b.l = 0) (hb : ∀ x ∈ b.l, NR x 4000) (h5 : rs.length ≤ 5) :
    b.av = Pq.av ⟨lq b.c, lq b.s, lq b.x, lq b.y⟩ ∧ Pq.ok rs.length 4000 ⟨lq b.c, lq b.s, lq b.x, lq b.y⟩ := by
  have h1 := (chks_ok h).2
  have g : ∀ x ∈ b.l, nR x = nA (lq x) ∧ Nm rs.length 4000 (lq x) := fun x hx => by
    obtain ⟨e1, e2⟩ := (hb x hx).num (h1 x hx)
    exact ⟨e1, h5, e2, (hb x hx).cb⟩
  have c := g b.c (by simp [Pl.l])
  have s := g b.s (by simp [Pl.l])
  have x := g b.x (by simp [Pl.l])
  have y := g b.y (by simp [Pl.l])
  exact ⟨by unfold Pl.av Pq.av; rw [c.1, s.1, x.1, y.1], c.2, s.2, x.2, y.2⟩
/-- The four numbers of a body beside those that should be. -/
def prs (b : Pl) (w : Pq) : List (List Rat × List Rat) := [(lq b.c, w.c), (lq b.s, w.s), (lq b.x, w.x), (lq b.y, w.y)]
theorem prs_at {b : Pl} {w : Pq} {k : Nat} (hk : k < 4) :
    ∃ z, (prs b w)[k]? = some z ∧ (([nA (lq b.c), nA w.c, nA (lq b.s), nA w.s, nA (lq b.x), nA w.x, nA (lq b.y), nA w.y] : List AV).drop (k * 2)).take 2 = [nA z.1, nA z.2] := by
  match k, hk with
  | 0, _ => exact ⟨_, rfl, rfl⟩
  | 1, _ => exact ⟨_, rfl, rfl⟩
  | 2, _ => exact ⟨_, rfl, rfl⟩
  | 3, _ => exact ⟨_, rfl, rfl⟩
def eqP (ts : List (List Rat)) (z : List Rat × List Rat) : Bool := eqT ts (dec ts.length z.1) (dec ts.length z.2)
theorem prs_all {ts : List (List Rat)} {b : Pl} {w : Pq} : (prs b w).all (eqP ts) = sameP ts b w := by
  unfold prs sameP eqP
  simp only [List.all_cons, List.all_nil, Bool.and_true, Bool.and_assoc]
theorem prs_nm {n : Nat} {b : Pl} {w : Pq} (hb : Pq.ok n 4000 ⟨lq b.c, lq b.s, lq b.x, lq b.y⟩) (hw : w.ok n 1000) : ∀ z ∈ prs b w, Nm n 4000 z.1 ∧ Nm n 1000 z.2 := by
  intro z hz
  simp only [prs, List.mem_cons, List.not_mem_nil, or_false] at hz
  rcases hz with rfl | rfl | rfl | rfl
  · exact ⟨hb.c, hw.c⟩
  · exact ⟨hb.s, hw.s⟩
  · exact ⟨hb.x, hw.x⟩
  · exact ⟨hb.y, hw.y⟩
theorem get_zip {α β : Type} {l : List α} {l' : List β} {i : Nat} {x : α} {y : β} (hx : l[i]? = some x) (hy : l'[i]? = some y) : (l.zip l')[i]? = some (x, y) := by
  rw [List.zip, List.getElem?_zipWith, hx, hy]
end Go.Lw
namespace Go.Lw
open Go.Proofs
theorem c_base_Num0 : FnC Tryz.prog 11 [.v .nilIface] (i64 0) := by
 refine con_of0 (N := 15) (rs := [.tmp 2]) Tryz.func11 rfl rfl rfl rfl ?_
 refine sr fun K1 hK1=>?_
 refine aC ?_
 refine hK1 _ ?_
 refine awp_seq ?_; intro K2 hK2
 refine sr fun K3 hK3=>?_
 refine mT ?_
 refine ar0 (s_errEq (.tmp rfl) (by first | exact .inl rfl | exact .inr ⟨_, _, rfl⟩ | exact errV_or _) T41 rfl rfl) ?_
 refine hK3 _ ?_
 refine awp_cond (.tmp rfl) (fun ht6 => ?_) (fun ht6 => ?_)
 ·skip
  refine sr fun K4 hK4=>?_
  refine aC ?_
  refine hK4 _ ?_
  refine awp_ret ⟨_, (.cons (.tmp rfl) .nil), ?_⟩
  exact fin_eq1 (by first | rfl | (simp; done))
 ·cases ht6
theorem c_base_Num1 (n : Int) : FnC Tryz.prog 11 [.v (.iface 97 (.int .i64 n))] (i64 n) := by
 refine con_of0 (N := 15) (rs := [.tmp 2]) Tryz.func11 rfl rfl rfl rfl ?_
 refine sr fun K1 hK1=>?_
 refine aC ?_
 refine hK1 _ ?_
 refine awp_seq ?_; intro K2 hK2
 refine sr fun K3 hK3=>?_
 refine mT ?_
 refine ar0 (s_errEq (.tmp rfl) (by first | exact .inl rfl | exact .inr ⟨_, _, rfl⟩ | exact errV_or _) T41 rfl rfl) ?_
 refine hK3 _ ?_
 refine awp_cond (.tmp rfl) (fun ht6 => ?_) (fun ht6 => ?_)
 ·cases ht6
 ·skip
  refine awp_skip (hK2 _ ?_)
  refine sr fun K4 hK4=>?_
  refine mT ?_
  refine ar0 (s_assert (.tmp rfl) T97 rfl rfl) ?_
  refine mT ?_
  refine ar0 (s_extract (.tmp rfl) rfl rfl) ?_
  refine ar0 (s_extract (.tmp rfl) rfl rfl) ?_
  refine aT ?_
  refine aT ?_
  refine hK4 _ ?_
  refine awp_seq ?_; intro K5 hK5
  refine sr fun K6 hK6=>?_
  refine mT ?_
  refine ar0 (s_not (.tmp rfl) rfl) ?_
  refine hK6 _ ?_
  refine awp_cond (.tmp rfl) (fun ht13 => ?_) (fun ht13 => ?_)
  ·cases ht13
  ·skip
   refine awp_skip (hK5 _ ?_)
   refine sr fun K7 hK7=>?_
   refine mT ?_
   refine aT ?_
   refine hK7 _ ?_
   refine awp_ret ⟨_, (.cons (.tmp rfl) .nil), ?_⟩
   exact fin_eq1 (by rfl)
theorem c_base_Num (e : Nat) : FnC Tryz.prog 11 [errA e] (i64 e) := by
 cases e with
 | zero => exact c_base_Num0
 | succ e => exact c_base_Num1 _
theorem c_certify_check (ps : List Pse) (hps : ∀ p ∈ ps, p.rok) (hpl : ps.length ≤ 281474976710656) : FnC Tryz.prog 43 [.lst 10 (ps.map Pse.av)] (errA (ofE ps)) := by
 refine con_of0 (N := 31) (rs := [.tmp 2]) Tryz.func43 rfl rfl rfl rfl ?_
 refine sr fun K1 hK1=>?_
 refine aC ?_
 refine hK1 _ ?_
 refine awp_seq ?_; intro K2 hK2
 refine sr fun K3 hK3=>?_
 refine mT ?_
 refine ar0 (s_lenMap (.tmp rfl) T48 rfl rfl) ?_
 refine ar0 (s_move (.const _) rfl) ?_
 refine hK3 _ ?_
 refine awp_block ?_
 refine awp_loop (fun n_ s_ => ∃ (i : Nat), ps.length - i = n_ ∧ (i ≤ ps.length ∧ (ps.take i).all Pse.ok = true) ∧ s_ = (⟨[(5, some (.lst 10 (ps.map Pse.av))), (6, some (i64 ps.length)), (7, some (i64 i))], []⟩ : AS))
  (n := ((fun (i : Nat) => ps.length - i) (0))) (s' := ((fun (i : Nat) => (⟨[(5, some (.lst 10 (ps.map Pse.av))), (6, some (i64 ps.length)), (7, some (i64 i))], []⟩ : AS)) (0)))
  (Wk.of (.k (.k (.k .nil))) .nil) ⟨0, rfl, ⟨Nat.zero_le _, rfl⟩, rfl⟩ ?_
 intro n_ s_ hI K4 hK4
 obtain ⟨i, rfl, ⟨hi, hj⟩, rfl⟩ := hI
 refine sr fun K5 hK5=>?_
 refine ar0 (s_cmp (.tmp rfl) (.tmp rfl) rfl rfl) ?_
 refine hK5 _ ?_
 refine awp_seq ?_; intro K6 hK6
 refine awp_cond (.tmp rfl) (fun ht8 => ?_) (fun ht8 => ?_)
 ·have hin := lss_t ht8
  obtain ⟨p, hp⟩ := getx hin
  have hpo := hps p (List.mem_of_getElem? hp)
  refine awp_skip (hK6 _ ?_)
  refine awp_seq ?_; intro K7 hK7
  refine awp_block ?_
  refine sr fun K8 hK8=>?_
  refine ar0 (s_idxLst (.tmp rfl) (.tmp rfl) T48 rfl T85 rfl (by omega) (getmap hp) rfl) ?_
  refine ar0 (s_loadIptr (.tmp rfl) T85 rfl rfl rfl) ?_
  refine al T85 ?_
  refine sP T85 ?_
  refine hK8 _ ?_
  refine sr fun K9 hK9=>?_
  refine fP T85 ?_
  refine lP T81 ?_
  refine ar0 (s_call (c_turn_Check p.turn hpo.t) (.cons (.tmp rfl) .nil) rfl rfl) ?_
  refine ar0 (s_errNe (.tmp rfl) (by first | exact .inl rfl | exact .inr ⟨_, _, rfl⟩ | exact errV_or _) T41 rfl rfl) ?_
  refine mT ?_
  refine ar0 (s_guard rfl rfl rfl (fun h => s_fldPtr (.tmp rfl) T85 rfl rfl rfl rfl)) ?_
  refine ar0 (s_guard rfl rfl rfl (fun h => s_fldPtr (.opt rfl (o1 h)) T83 rfl rfl rfl rfl)) ?_
  refine ar0 (s_guard rfl rfl rfl (fun h => s_loadPtr (.opt rfl (o1 h)) rfl T68 rfl rfl rfl)) ?_
  refine ar0 (s_guard rfl rfl rfl (fun h => s_call (c_fraction_Valid p.at_.x hpo.x) (.cons (.opt rfl (o1 h)) .nil) rfl rfl)) ?_
  refine ar0 (s_guard rfl rfl rfl (fun h => s_not (.opt rfl (o1 h)) rfl)) ?_
  refine ar0 (s_pick (.tmp rfl) (fun _ => .const _) (fun hp => .opt rfl (o1 hp)) rfl) ?_
  refine mT ?_
  refine ar0 (s_guard rfl rfl rfl (fun h => s_fldPtr (.tmp rfl) T85 rfl rfl rfl rfl)) ?_
  refine ar0 (s_guard rfl rfl rfl (fun h => s_fldPtr (.opt rfl (o1 h)) T83 rfl rfl rfl rfl)) ?_
  refine ar0 (s_guard rfl rfl rfl (fun h => s_loadPtr (.opt rfl (o1 h)) rfl T68 rfl rfl rfl)) ?_
  refine ar0 (s_guard rfl rfl rfl (fun h => s_call (c_fraction_Valid p.at_.y hpo.y) (.cons (.opt rfl (o1 h)) .nil) rfl rfl)) ?_
  refine ar0 (s_guard rfl rfl rfl (fun h => s_not (.opt rfl (o1 h)) rfl)) ?_
  refine ar0 (s_pick (.tmp rfl) (fun _ => .const _) (fun hp => .opt rfl (o1 hp)) rfl) ?_
  refine hK9 _ ?_
  refine awp_cond (.tmp rfl) (fun ht28 => ?_) (fun ht28 => ?_)
  ·have h1 : p.ok = false := pok_t ht28
   refine sr fun K10 hK10=>?_
   refine ar0 (s_mkIface (.const _) rfl T97 rfl) ?_
   refine aT ?_
   refine hK10 _ ?_
   refine awp_ret ⟨_, (.cons (.tmp rfl) .nil), ?_⟩
   exact fin_eq1 (by rw [ofE_bad (all_miss hp h1)]; rfl)
  ·have h1 : p.ok = true := pok_f ht28
   refine awp_skip (hK7 _ ?_)
   refine awp_region ?_
   refine ar0 (s_arithW (.tmp rfl) (.const _) rfl (i64_add1 (by unfold maxL; omega)) rfl) ?_
   refine mT ?_
   refine hK4 _ ((fun (i : Nat) => (⟨[(5, some (.lst 10 (ps.map Pse.av))), (6, some (i64 ps.length)), (7, some (i64 i))], []⟩ : AS)) (i + 1)) ((fun (i : Nat) => ps.length - i) (i + 1)) (Wk.of (.k (.k (.k .nil))) .nil) ⟨i + 1, rfl, ⟨hin, all_step hj hp h1⟩, rfl⟩ (by first | omega | (dsimp only; omega))
 ·have hin := lss_end hi ht8
  refine awp_exit ?_
  refine hK2 _ ?_
  refine sr fun K11 hK11=>?_
  refine aC ?_
  refine hK11 _ ?_
  refine awp_ret ⟨_, (.cons (.tmp rfl) .nil), ?_⟩
  exact fin_eq1 (by rw [ofE_at (all_end hin hj)]; rfl)
theorem c_certify_placed (p : Pse) (hp : p.lok) (ho : p.ok = true) : FnC Tryz.prog 44 [p.av] (.tup [(posed p).av, .v .nilIface]) := by
 have he := (pok_parts ho).1
 have hc := c_turn_Cos p.turn hp.ok.t hp.t (by omega)
 rw [if_pos he, he] at hc
 have hs := c_turn_Sin p.turn hp.ok.t hp.t (by omega)
 rw [if_pos he, he] at hs
 refine con_of0 (N := 40) (rs := [.cell 2 62, .tmp 3]) Tryz.func44 rfl rfl rfl rfl ?_
 refine sr fun K1 hK1=>?_
 refine bX ?_
 refine al T62 ?_
 refine aC ?_
 refine hK1 _ ?_
 refine sr fun K2 hK2=>?_
 refine fP T85 ?_
 refine lP T81 ?_
 refine ar0 (s_call hc (.cons (.tmp rfl) .nil) rfl rfl) ?_
 refine mT ?_
 refine ar0 (s_extract (.tmp rfl) rfl rfl) ?_
 refine ar0 (s_extract (.tmp rfl) rfl rfl) ?_
 refine al T68 ?_
 refine sP T68 ?_
 refine aT ?_
 refine hK2 _ ?_
 refine awp_seq ?_; intro K3 hK3
 refine sr fun K4 hK4=>?_
 refine mT ?_
 refine ar0 (s_errNe (.tmp rfl) (by first | exact .inl rfl | exact .inr ⟨_, _, rfl⟩ | exact errV_or _) T41 rfl rfl) ?_
 refine hK4 _ ?_
 refine awp_cond (.tmp rfl) (fun ht14 => ?_) (fun ht14 => ?_)
 ·cases ht14
 ·skip
  refine awp_skip (hK3 _ ?_)
  refine sr fun K5 hK5=>?_
  refine fP T85 ?_
  refine lP T81 ?_
  refine ar0 (s_call hs (.cons (.tmp rfl) .nil) rfl rfl) ?_
  refine mT ?_
  refine ar0 (s_extract (.tmp rfl) rfl rfl) ?_
  refine ar0 (s_extract (.tmp rfl) rfl rfl) ?_
  refine al T68 ?_
  refine sP T68 ?_
  refine aT ?_
  refine hK5 _ ?_
  refine awp_seq ?_; intro K6 hK6
  refine sr fun K7 hK7=>?_
  refine mT ?_
  refine ar0 (s_errNe (.tmp rfl) (by first | exact .inl rfl | exact .inr ⟨_, _, rfl⟩ | exact errV_or _) T41 rfl rfl) ?_
  refine hK7 _ ?_
  refine awp_cond (.tmp rfl) (fun ht24 => ?_) (fun ht24 => ?_)
  ·cases ht24
  ·skip
   refine awp_skip (hK6 _ ?_)
   refine awp_seq ?_; intro K8 hK8
   refine awp_region_draw mixedP ?_
   refine lP T68 ?_
   refine ar0 (s_call (tw_Of ((qb_cos hp.t).qs (by omega))) (.cons (.tmp rfl) .nil) rfl rfl) ?_
   refine lP T68 ?_
   refine ar0 (s_call (tw_Of ((qb_sin hp.t).qs (by omega))) (.cons (.tmp rfl) .nil) rfl rfl) ?_
   refine fP T85 ?_
   refine fP T83 ?_
   refine lP T68 ?_
   refine ar0 (s_call (c_tower_Of p.at_.x hp.ok.x (hp.x.qs (by omega))) (.cons (.tmp rfl) .nil) rfl rfl) ?_
   refine fP T85 ?_
   refine fP T83 ?_
   refine lP T68 ?_
   refine ar0 (s_call (c_tower_Of p.at_.y hp.ok.y (hp.y.qs (by omega))) (.cons (.tmp rfl) .nil) rfl rfl) ?_
   refine ar0 (s_build (.cons (.tmp rfl) (.cons (.tmp rfl) (.cons (.tmp rfl) (.cons (.tmp rfl) .nil)))) T62 rfl rfl rfl rfl rfl) ?_
   refine sP T62 ?_
   refine aC ?_
   refine ⟨by kernel_rfl, ?_⟩
   refine hK8 _ ?_
   refine awp_ret ⟨_, (.cons (.cell rfl rfl T62 rfl rfl) (.cons (.tmp rfl) .nil)), ?_⟩
   exact fin_eq (by rfl)
theorem c_certify_Of (ps : List Pse) (hps : ∀ p ∈ ps, p.lok) (hpl : ps.length ≤ 20) : FnC Tryz.prog 14 [.lst 10 (ps.map Pse.av)] (.tup [asA (ofL ps), errA (ofE ps)]) := by
 refine con_of0 (N := 39) (rs := [.cell 2 34, .tmp 3]) Tryz.func14 rfl rfl rfl rfl ?_
 refine sr fun K1 hK1=>?_
 refine al T34 ?_
 refine aC ?_
 refine hK1 _ ?_
 refine awp_seq ?_; intro K2 hK2
 refine sr fun K3 hK3=>?_
 refine mT ?_
 refine ar0 (s_call (c_certify_check ps (fun p hp => (hps p hp).ok) (by omega)) (.cons (.tmp rfl) .nil) rfl rfl) ?_
 refine aT ?_
 refine hK3 _ ?_
 refine sr fun K4 hK4=>?_
 refine mT ?_
 refine ar0 (s_errNe (.tmp rfl) (by first | exact .inl rfl | exact .inr ⟨_, _, rfl⟩ | exact errV_or _) T41 rfl rfl) ?_
 refine hK4 _ ?_
 refine awp_cond (.tmp rfl) (fun ht13 => ?_) (fun ht13 => ?_)
 ·have h1 := nNil_t ht13
  have h2 : ps.all Pse.ok = false := Bool.eq_false_iff.2 (fun h => h1 (ofE_at h))
  refine sr fun K5 hK5=>?_
  refine ar0 (s_build .nil T34 rfl rfl rfl rfl rfl) ?_
  refine mT ?_
  refine sP T34 ?_
  refine aT ?_
  refine hK5 _ ?_
  refine awp_ret ⟨_, (.cons (.cell rfl rfl T34 rfl rfl) (.cons (.tmp rfl) .nil)), ?_⟩
  exact fin_sub (by rw [ofL_bad h2]; exact Sub.tup (.cons sub_as0 (.cons (.refl _) .nil)))
 ·have h1 := nNil_f ht13
  have h2 := ofE_ok h1
  rw [List.all_eq_true] at h2
  refine awp_skip (hK2 _ ?_)
  refine sr fun K6 hK6=>?_
  refine al T34 ?_
  refine hK6 _ ?_
  refine awp_seq ?_; intro K7 hK7
  refine sr fun K8 hK8=>?_
  refine mT ?_
  refine ar0 (s_lenMap (.tmp rfl) T48 rfl rfl) ?_
  refine ar0 (s_move (.const _) rfl) ?_
  refine hK8 _ ?_
  refine awp_block ?_
  refine awp_weaken (Wk.virt 900 4 rfl) ?_
  refine awp_loop (fun n_ s_ => ∃ (i : Nat), ps.length - i = n_ ∧ (i ≤ ps.length) ∧ s_ = (⟨[(2, some (.ptr 2 0)), (5, some (.ptr 5 0)), (16, some (.lst 10 (ps.map Pse.av))), (17, some (i64 ps.length)), (18, some (i64 i))], [(2, some (.box [.v (.slice none 0 0), .v (.slice none 0 0), .v (.slice none 0 0)])), (5, some (.box [.v (.slice none 0 0), .ms 900 4 0 i, .v (.slice none 0 0)])), (900, some (.row 4 (((ps.take i).map posed).map Pq.av)))]⟩ : AS))
   (n := ((fun (i : Nat) => ps.length - i) (0))) (s' := ((fun (i : Nat) => (⟨[(2, some (.ptr 2 0)), (5, some (.ptr 5 0)), (16, some (.lst 10 (ps.map Pse.av))), (17, some (i64 ps.length)), (18, some (i64 i))], [(2, some (.box [.v (.slice none 0 0), .v (.slice none 0 0), .v (.slice none 0 0)])), (5, some (.box [.v (.slice none 0 0), .ms 900 4 0 i, .v (.slice none 0 0)])), (900, some (.row 4 (((ps.take i).map posed).map Pq.av)))]⟩ : AS)) (0)))
   (Wk.of (.k (.k (.k (.k (.k .nil))))) (.cons rfl (.refl _) (.cons rfl (BlkSub.boxL (.cons (.refl _) (.cons (.nilMs _ _ _) (.cons (.refl _) .nil))) rfl) (.cons rfl (.refl _) .nil)))) ⟨0, rfl, (Nat.zero_le _), rfl⟩ ?_
  intro n_ s_ hI K9 hK9
  obtain ⟨i, rfl, hi, rfl⟩ := hI
  refine sr fun K10 hK10=>?_
  refine ar0 (s_cmp (.tmp rfl) (.tmp rfl) rfl rfl) ?_
  refine hK10 _ ?_
  refine awp_seq ?_; intro K11 hK11
  refine awp_cond (.tmp rfl) (fun ht19 => ?_) (fun ht19 => ?_)
  ·have hin := lss_t ht19
   obtain ⟨p, hp⟩ := getx hin
   have hpm := List.mem_of_getElem? hp
   refine awp_skip (hK11 _ ?_)
   refine awp_seq ?_; intro K12 hK12
   refine awp_block ?_
   refine sr fun K13 hK13=>?_
   refine ar0 (s_idxLst (.tmp rfl) (.tmp rfl) T48 rfl T85 rfl (by omega) (getmap hp) rfl) ?_
   refine ar0 (s_loadIptr (.tmp rfl) T85 rfl rfl rfl) ?_
   refine al T85 ?_
   refine sP T85 ?_
   refine hK13 _ ?_
   refine sr fun K14 hK14=>?_
   refine lP T85 ?_
   refine ar0 (s_call (c_certify_placed p (hps p hpm) (h2 p hpm)) (.cons (.tmp rfl) .nil) rfl rfl) ?_
   refine mT ?_
   refine ar0 (s_extract (.tmp rfl) rfl rfl) ?_
   refine ar0 (s_extract (.tmp rfl) rfl rfl) ?_
   refine al T62 ?_
   refine sP T62 ?_
   refine aT ?_
   refine hK14 _ ?_
   refine awp_seq ?_; intro K15 hK15
   refine sr fun K16 hK16=>?_
   refine mT ?_
   refine ar0 (s_errNe (.tmp rfl) (by first | exact .inl rfl | exact .inr ⟨_, _, rfl⟩ | exact errV_or _) T41 rfl rfl) ?_
   refine hK16 _ ?_
   refine awp_cond (.tmp rfl) (fun ht28 => ?_) (fun ht28 => ?_)
   ·cases ht28
   ·skip
    refine awp_skip (hK15 _ ?_)
    refine awp_region ?_
    refine fP T34 ?_
    refine lP T31 ?_
    refine lP T62 ?_
    refine ar0 (s_buildLst rfl (.cons (.tmp rfl) .nil) T31 rfl T62 rfl rfl rfl rfl rfl rfl rfl rfl) ?_
    refine ar (s_append (.tmp rfl) rfl (by rw [List.length_map, List.length_map, List.length_take]; omega) (.tmp rfl) T31 rfl T62 rfl rfl (by dsimp only; simp only [List.length_map, List.length_cons, List.length_nil]; omega) rfl rfl) (newOk_of rfl) ?_
    refine fP T34 ?_
    refine sP T31 ?_
    refine hK12 _ ?_
    refine awp_weaken (Wk.of (sl := [(2, some (.ptr 2 0)), (5, some (.ptr 5 0)), (16, some (.lst 10 (ps.map Pse.av))), (17, some (i64 ps.length)), (18, some (i64 i))]) (hp := [(2, some (.box [.v (.slice none 0 0), .v (.slice none 0 0), .v (.slice none 0 0)])), (5, some (.box [.v (.slice none 0 0), .ms 35 4 0 (i + 1), .v (.slice none 0 0)])), (35, some (.row 4 (((ps.take (i + 1)).map posed).map Pq.av)))]) (.k (.k (.k (.k (.k .nil))))) (.cons rfl (.refl _) (.cons rfl (.refl _) (.cons rfl (BlkSub.of (by rw [take_succ_get hp, List.map_append, List.map_append]; rfl)) .nil)))) ?_
    refine awp_weaken (Wk.rekey (k := 35) (d := 900) rfl rfl) ?_
    refine awp_region ?_
    refine ar0 (s_arithW (.tmp rfl) (.const _) rfl (i64_add1 (by unfold maxL; omega)) rfl) ?_
    refine mT ?_
    refine hK9 _ ((fun (i : Nat) => (⟨[(2, some (.ptr 2 0)), (5, some (.ptr 5 0)), (16, some (.lst 10 (ps.map Pse.av))), (17, some (i64 ps.length)), (18, some (i64 i))], [(2, some (.box [.v (.slice none 0 0), .v (.slice none 0 0), .v (.slice none 0 0)])), (5, some (.box [.v (.slice none 0 0), .ms 900 4 0 i, .v (.slice none 0 0)])), (900, some (.row 4 (((ps.take i).map posed).map Pq.av)))]⟩ : AS)) (i + 1)) ((fun (i : Nat) => ps.length - i) (i + 1)) (Wk.of (.k (.k (.k (.k (.k .nil))))) (.cons rfl (.refl _) (.cons rfl (.refl _) (.cons rfl (.refl _) .nil)))) ⟨i + 1, rfl, hin, rfl⟩ (by first | omega | (dsimp only; omega))
  ·have hin := lss_end hi ht19
   subst hin
   refine awp_exit ?_
   refine hK7 _ ?_
   refine awp_weaken ((Wk.freeze (k := 900) rfl).trans <| Wk.of (sl := [(2, some (.ptr 2 0)), (5, some (.ptr 5 0))]) (hp := [(2, some (.box [.v (.slice none 0 0), .v (.slice none 0 0), .v (.slice none 0 0)])), (5, some (.box [.v (.slice none 0 0), .lst 4 ((ps.map posed).map Pq.av), .v (.slice none 0 0)]))]) (.k (.k .nil)) (.cons rfl (.refl _) (.cons rfl (BlkSub.boxL (.cons (.refl _) (.cons (Sub.of (by rw [fz_all (by rw [List.length_map, List.length_map, List.length_take]; omega), List.take_length])) (.cons (.refl _) .nil))) rfl) .nil))) ?_
   refine sr fun K17 hK17=>?_
   refine lP T34 ?_
   refine sP T34 ?_
   refine aC ?_
   refine hK17 _ ?_
   refine awp_ret ⟨_, (.cons (.cell rfl rfl T34 rfl rfl) (.cons (.tmp rfl) .nil)), ?_⟩
   exact fin_sub (by rw [ofL_at (List.all_eq_true.2 h2), h1]; exact Sub.tup (.cons sub_as (.cons (.refl _) .nil)))
theorem c_r28_Of (ps : List Pse) (hps : ∀ p ∈ ps, p.lok) (hpl : ps.length ≤ 20) : FnC Tryz.prog 16 [.lst 10 (ps.map Pse.av)] (.tup [asA (ofL ps), i64 (ofE ps)]) := by
 refine con_of0 (N := 41) (rs := [.cell 2 34, .tmp 3]) Tryz.func16 rfl rfl rfl rfl ?_
 refine sr fun K1 hK1=>?_
 refine al T34 ?_
 refine aC ?_
 refine hK1 _ ?_
 refine sr fun K2 hK2=>?_
 refine al T34 ?_
 refine hK2 _ ?_
 refine awp_seq ?_; intro K3 hK3
 refine sr fun K4 hK4=>?_
 refine mT ?_
 refine ar0 (s_lenMap (.tmp rfl) T48 rfl rfl) ?_
 refine ar0 (s_move (.const _) rfl) ?_
 refine hK4 _ ?_
 refine awp_block ?_
 refine awp_weaken (Wk.virt 900 4 rfl) ?_
 refine awp_loop (fun n_ s_ => ∃ (i : Nat), ps.length - i = n_ ∧ (i ≤ ps.length ∧ (ps.take i).all Pse.ok = true) ∧ s_ = (⟨[(2, some (.ptr 2 0)), (4, some (.ptr 4 0)), (7, some (.lst 10 (ps.map Pse.av))), (8, some (i64 ps.length)), (9, some (i64 i))], [(2, some (.box [.v (.slice none 0 0), .v (.slice none 0 0), .v (.slice none 0 0)])), (4, some (.box [.v (.slice none 0 0), .ms 900 4 0 i, .v (.slice none 0 0)])), (900, some (.row 4 (((ps.take i).map posed).map Pq.av)))]⟩ : AS))
  (n := ((fun (i : Nat) => ps.length - i) (0))) (s' := ((fun (i : Nat) => (⟨[(2, some (.ptr 2 0)), (4, some (.ptr 4 0)), (7, some (.lst 10 (ps.map Pse.av))), (8, some (i64 ps.length)), (9, some (i64 i))], [(2, some (.box [.v (.slice none 0 0), .v (.slice none 0 0), .v (.slice none 0 0)])), (4, some (.box [.v (.slice none 0 0), .ms 900 4 0 i, .v (.slice none 0 0)])), (900, some (.row 4 (((ps.take i).map posed).map Pq.av)))]⟩ : AS)) (0)))
  (Wk.of (.k (.k (.k (.k (.k .nil))))) (.cons rfl (.refl _) (.cons rfl (BlkSub.boxL (.cons (.refl _) (.cons (.nilMs _ _ _) (.cons (.refl _) .nil))) rfl) (.cons rfl (.refl _) .nil)))) ⟨0, rfl, ⟨Nat.zero_le _, rfl⟩, rfl⟩ ?_
 intro n_ s_ hI K5 hK5
 obtain ⟨i, rfl, ⟨hi, hj⟩, rfl⟩ := hI
 refine sr fun K6 hK6=>?_
 refine ar0 (s_cmp (.tmp rfl) (.tmp rfl) rfl rfl) ?_
 refine hK6 _ ?_
 refine awp_seq ?_; intro K7 hK7
 refine awp_cond (.tmp rfl) (fun ht10 => ?_) (fun ht10 => ?_)
 ·have hin := lss_t ht10
  obtain ⟨p, hp⟩ := getx hin
  have hpm := List.mem_of_getElem? hp
  have hpo := hps p hpm
  refine awp_skip (hK7 _ ?_)
  refine awp_seq ?_; intro K8 hK8
  refine awp_block ?_
  refine sr fun K9 hK9=>?_
  refine ar0 (s_idxLst (.tmp rfl) (.tmp rfl) T48 rfl T85 rfl (by omega) (getmap hp) rfl) ?_
  refine ar0 (s_loadIptr (.tmp rfl) T85 rfl rfl rfl) ?_
  refine al T85 ?_
  refine sP T85 ?_
  refine hK9 _ ?_
  refine awp_seq ?_; intro K10 hK10
  refine sr fun K11 hK11=>?_
  refine lP T85 ?_
  refine ar0 (s_call (c_r17_Valid p hpo.ok.t hpo.ok.x hpo.ok.y) (.cons (.tmp rfl) .nil) rfl rfl) ?_
  refine ar0 (s_not (.tmp rfl) rfl) ?_
  refine hK11 _ ?_
  refine awp_cond (.tmp rfl) (fun ht15 => ?_) (fun ht15 => ?_)
  ·have h1 : p.ok = false := not_t ht15
   have h2 := all_miss hp h1
   refine sr fun K12 hK12=>?_
   refine ar0 (s_build .nil T34 rfl rfl rfl rfl rfl) ?_
   refine sP T34 ?_
   refine aC ?_
   refine hK12 _ ?_
   refine awp_ret ⟨_, (.cons (.cell rfl rfl T34 rfl rfl) (.cons (.tmp rfl) .nil)), ?_⟩
   exact fin_sub (by rw [ofL_bad h2, ofE_bad h2]; exact Sub.tup (.cons sub_as0 (.cons (.refl _) .nil)))
  ·have h1 : p.ok = true := not_f ht15
   have hc := c_r12_Cos p.turn.half hpo.t (by omega)
   rw [← Rt.eq_rt hpo.ok.t (Tn.ok_valid (pok_parts h1).1)] at hc
   have hs := c_r12_Sin p.turn.half hpo.t (by omega)
   rw [← Rt.eq_rt hpo.ok.t (Tn.ok_valid (pok_parts h1).1)] at hs
   refine awp_skip (hK10 _ ?_)
   refine awp_region_draw mixedP ?_
   refine fP T34 ?_
   refine lP T31 ?_
   refine fP T85 ?_
   refine lP T81 ?_
   refine ar0 (s_call hc (.cons (.tmp rfl) .nil) rfl rfl) ?_
   refine ar0 (s_call (r4_Of ((qb_cos hpo.t).qs (by omega))) (.cons (.tmp rfl) .nil) rfl rfl) ?_
   refine fP T85 ?_
   refine lP T81 ?_
   refine ar0 (s_call hs (.cons (.tmp rfl) .nil) rfl rfl) ?_
   refine ar0 (s_call (r4_Of ((qb_sin hpo.t).qs (by omega))) (.cons (.tmp rfl) .nil) rfl rfl) ?_
   refine fP T85 ?_
   refine fP T83 ?_
   refine lP T68 ?_
   refine ar0 (s_call (c_r04_Of p.at_.x hpo.ok.x (hpo.x.qs (by omega))) (.cons (.tmp rfl) .nil) rfl rfl) ?_
   refine fP T85 ?_
   refine fP T83 ?_
   refine lP T68 ?_
   refine ar0 (s_call (c_r04_Of p.at_.y hpo.ok.y (hpo.y.qs (by omega))) (.cons (.tmp rfl) .nil) rfl rfl) ?_
   refine ar0 (s_build (.cons (.tmp rfl) (.cons (.tmp rfl) (.cons (.tmp rfl) (.cons (.tmp rfl) .nil)))) T62 rfl rfl rfl rfl rfl) ?_
   refine ar0 (s_buildLst rfl (.cons (.tmp rfl) .nil) T31 rfl T62 rfl rfl rfl rfl rfl rfl rfl rfl) ?_
   refine ar (s_append (.tmp rfl) rfl (by rw [List.length_map, List.length_map, List.length_take]; omega) (.tmp rfl) T31 rfl T62 rfl rfl (by dsimp only; simp only [List.length_map, List.length_cons, List.length_nil]; omega) rfl rfl) (newOk_of rfl) ?_
   refine fP T34 ?_
   refine sP T31 ?_
   refine ⟨by kernel_rfl, ?_⟩
   refine hK8 _ ?_
   refine awp_weaken (Wk.of (sl := [(2, some (.ptr 2 0)), (4, some (.ptr 4 0)), (7, some (.lst 10 (ps.map Pse.av))), (8, some (i64 ps.length)), (9, some (i64 i))]) (hp := [(2, some (.box [.v (.slice none 0 0), .v (.slice none 0 0), .v (.slice none 0 0)])), (4, some (.box [.v (.slice none 0 0), .ms 37 4 0 (i + 1), .v (.slice none 0 0)])), (37, some (.row 4 (((ps.take (i + 1)).map posed).map Pq.av)))]) (.k (.k (.k (.k (.k .nil))))) (.cons rfl (.refl _) (.cons rfl (.refl _) (.cons rfl (BlkSub.of (by rw [take_succ_get hp, List.map_append, List.map_append]; rfl)) .nil)))) ?_
   refine awp_weaken (Wk.rekey (k := 37) (d := 900) rfl rfl) ?_
   refine awp_region ?_
   refine ar0 (s_arithW (.tmp rfl) (.const _) rfl (i64_add1 (by unfold maxL; omega)) rfl) ?_
   refine mT ?_
   refine hK5 _ ((fun (i : Nat) => (⟨[(2, some (.ptr 2 0)), (4, some (.ptr 4 0)), (7, some (.lst 10 (ps.map Pse.av))), (8, some (i64 ps.length)), (9, some (i64 i))], [(2, some (.box [.v (.slice none 0 0), .v (.slice none 0 0), .v (.slice none 0 0)])), (4, some (.box [.v (.slice none 0 0), .ms 900 4 0 i, .v (.slice none 0 0)])), (900, some (.row 4 (((ps.take i).map posed).map Pq.av)))]⟩ : AS)) (i + 1)) ((fun (i : Nat) => ps.length - i) (i + 1)) (Wk.of (.k (.k (.k (.k (.k .nil))))) (.cons rfl (.refl _) (.cons rfl (.refl _) (.cons rfl (.refl _) .nil)))) ⟨i + 1, rfl, ⟨hin, all_step hj hp h1⟩, rfl⟩ (by first | omega | (dsimp only; omega))
 ·have hin := lss_end hi ht10
  subst hin
  rw [List.take_length] at hj
  refine awp_exit ?_
  refine hK3 _ ?_
  refine awp_weaken ((Wk.freeze (k := 900) rfl).trans <| Wk.of (sl := [(2, some (.ptr 2 0)), (4, some (.ptr 4 0))]) (hp := [(2, some (.box [.v (.slice none 0 0), .v (.slice none 0 0), .v (.slice none 0 0)])), (4, some (.box [.v (.slice none 0 0), .lst 4 ((ps.map posed).map Pq.av), .v (.slice none 0 0)]))]) (.k (.k .nil)) (.cons rfl (.refl _) (.cons rfl (BlkSub.boxL (.cons (.refl _) (.cons (Sub.of (by rw [fz_all (by rw [List.length_map, List.length_map, List.length_take]; omega), List.take_length])) (.cons (.refl _) .nil))) rfl) .nil))) ?_
  refine sr fun K13 hK13=>?_
  refine lP T34 ?_
  refine sP T34 ?_
  refine aC ?_
  refine hK13 _ ?_
  refine awp_ret ⟨_, (.cons (.cell rfl rfl T34 rfl rfl) (.cons (.tmp rfl) .nil)), ?_⟩
  exact fin_sub (by rw [ofL_at hj, ofE_at hj]; exact Sub.tup (.cons sub_as (.cons (.refl _) .nil)))
end Go.Lw
namespace Go.Lw
open Go.Proofs
theorem eqp_t {z : Int} (h : cond (!(isNil .nilIface)) true (icmp .neq z 0) = true) : decide (z = 0) = false := decide_eq_false (neq_t' h)
theorem eqp_f {z : Int} (h : cond (!(isNil .nilIface)) true (icmp .neq z 0) = false) : decide (z = 0) = true := decide_eq_true (neq_f' h)
theorem samePlaced_r {rs : List (List Rt)} {r : Nat} {b : Pl} {w : Pq} (tw : Tw (llq rs) r) (hta : towR rs = towA (llq rs)) (hts : (llq rs).length = rs.length)
  (hb : Pq.ok rs.length 4000 ⟨lq b.c, lq b.s, lq b.x, lq b.y⟩) (hw : w.ok rs.length 1000) :
  FnC Tryz.prog 17 [towR rs, Pq.av ⟨lq b.c, lq b.s, lq b.x, lq b.y⟩, w.av] (bl (sameP (llq rs) b w)) := by
 rw [← hts] at hb hw
 rw [hta]
 exact c_r26_SamePlaced tw hb.c hb.s hb.x hb.y (hw.c.mono (by omega)) (hw.s.mono (by omega)) (hw.x.mono (by omega)) (hw.y.mono (by omega)) (by omega)
theorem c_certify_Matches (a : As) (ha : AL a) (ps : List Pse) (hps : ∀ p ∈ ps, p.lok) (hpl : ps.length ≤ 20) : FnC Tryz.prog 15 [a.av, .lst 10 (ps.map Pse.av)] (.tup [bl (mB a ps), errA (mE a ps)]) := by
 have hbl := ha.bl
 refine con_of0 (N := 132) (rs := [.tmp 4, .tmp 5]) Tryz.func15 rfl rfl rfl rfl ?_
 refine sr fun K1 hK1=>?_
 refine bX ?_
 refine aC ?_
 refine aC ?_
 refine hK1 _ ?_
 refine awp_seq ?_; intro K2 hK2
 refine sr fun K3 hK3=>?_
 refine fP T34 ?_
 refine lP T30 ?_
 refine ar0 (s_call (c_tower_Check a.rs 40000 ha.tr) (.cons (.tmp rfl) .nil) rfl rfl) ?_
 refine aT ?_
 refine hK3 _ ?_
 refine sr fun K4 hK4=>?_
 refine mT ?_
 refine ar0 (s_errNe (.tmp rfl) (by first | exact .inl rfl | exact .inr ⟨_, _, rfl⟩ | exact errV_or _) T41 rfl rfl) ?_
 refine hK4 _ ?_
 refine awp_cond (.tmp rfl) (fun ht26 => ?_) (fun ht26 => ?_)
 ·have h1 := nNil_t ht26
  refine sr fun K5 hK5=>?_
  refine mT ?_
  refine aC ?_
  refine aT ?_
  refine hK5 _ ?_
  refine awp_ret ⟨_, (.cons (.tmp rfl) (.cons (.tmp rfl) .nil)), ?_⟩
  exact fin_eq2 (by rw [mB_err (by rw [mE_chk h1]; exact h1), mE_chk h1]; rfl)
 ·have h1 := nNil_f ht26
  obtain ⟨tw, hta⟩ := chk_tw ha.tr h1
  have h5 : a.rs.length ≤ 5 := by have := tw.five; rwa [List.length_map] at this
  refine awp_skip (hK2 _ ?_)
  refine sr fun K6 hK6=>?_
  refine mT ?_
  refine ar0 (s_call (c_certify_Of ps hps hpl) (.cons (.tmp rfl) .nil) rfl rfl) ?_
  refine mT ?_
  refine ar0 (s_extract (.tmp rfl) rfl rfl) ?_
  refine ar0 (s_extract (.tmp rfl) rfl rfl) ?_
  refine al T34 ?_
  refine sP T34 ?_
  refine aT ?_
  refine hK6 _ ?_
  refine awp_seq ?_; intro K7 hK7
  refine sr fun K8 hK8=>?_
  refine mT ?_
  refine ar0 (s_errNe (.tmp rfl) (by first | exact .inl rfl | exact .inr ⟨_, _, rfl⟩ | exact errV_or _) T41 rfl rfl) ?_
  refine hK8 _ ?_
  refine awp_cond (.tmp rfl) (fun ht34 => ?_) (fun ht34 => ?_)
  ·have h2 := nNil_t ht34
   refine sr fun K9 hK9=>?_
   refine mT ?_
   refine aC ?_
   refine aT ?_
   refine hK9 _ ?_
   refine awp_ret ⟨_, (.cons (.tmp rfl) (.cons (.tmp rfl) .nil)), ?_⟩
   exact fin_eq2 (by rw [mB_err (by rw [mE_of h1 h2]; exact h2), mE_of h1 h2]; rfl)
  ·have h2 := nNil_f ht34
   have hol := ofL_at (ofE_ok h2)
   refine awp_skip (hK7 _ ?_)
   refine awp_seq ?_; intro K10 hK10
   refine sr fun K11 hK11=>?_
   refine fP T34 ?_
   refine lP T31 ?_
   refine ar0 (s_lenMap (.tmp rfl) T31 rfl rfl) ?_
   refine mT ?_
   refine ar0 (s_lenMap (.tmp rfl) T48 rfl rfl) ?_
   refine ar0 (s_cmp (.tmp rfl) (.tmp rfl) rfl rfl) ?_
   refine hK11 _ ?_
   refine awp_cond (.tmp rfl) (fun ht41 => ?_) (fun ht41 => ?_)
   ·have h3 : a.bs.length ≠ ps.length := by have := neq_t' ht41; omega
    refine sr fun K12 hK12=>?_
    refine ar0 (s_mkIface (.const _) rfl T97 rfl) ?_
    refine aC ?_
    refine aT ?_
    refine hK12 _ ?_
    refine awp_ret ⟨_, (.cons (.tmp rfl) (.cons (.tmp rfl) .nil)), ?_⟩
    exact fin_eq2 (by rw [mB_err (by rw [mE_len h1 h2 h3]; decide), mE_len h1 h2 h3]; rfl)
   ·have h3 : a.bs.length = ps.length := by have := neq_f' ht41; omega
    refine awp_skip (hK10 _ ?_)
    refine awp_seq ?_; intro K13 hK13
    refine sr fun K14 hK14=>?_
    refine fP T34 ?_
    refine lP T31 ?_
    refine ar0 (s_lenMap (.tmp rfl) T31 rfl rfl) ?_
    refine ar0 (s_move (.const _) rfl) ?_
    refine hK14 _ ?_
    refine awp_block ?_
    refine awp_loop (fun n_ s_ => ∃ (i : Nat), a.bs.length - i = n_ ∧ (i ≤ a.bs.length ∧ ∀ b ∈ a.bs.take i, chksE a.rs b.l = 0) ∧ s_ = (⟨[(2, some (.ptr 2 0)), (7, some (.ptr 7 0)), (44, some (.lst 4 (a.bs.map Pl.av))), (45, some (i64 a.bs.length)), (46, some (i64 i))], [(2, some (.box a.av.cells)), (7, some (.box (asA (ofL ps)).cells))]⟩ : AS))
     (n := ((fun (i : Nat) => a.bs.length - i) (0))) (s' := ((fun (i : Nat) => (⟨[(2, some (.ptr 2 0)), (7, some (.ptr 7 0)), (44, some (.lst 4 (a.bs.map Pl.av))), (45, some (i64 a.bs.length)), (46, some (i64 i))], [(2, some (.box a.av.cells)), (7, some (.box (asA (ofL ps)).cells))]⟩ : AS)) (0)))
     (Wk.of (.k (.k (.k (.k (.k .nil))))) (.cons rfl (.refl _) (.cons rfl (.refl _) .nil))) ⟨0, rfl, ⟨Nat.zero_le _, fun b hb => by simp at hb⟩, rfl⟩ ?_
    intro n_ s_ hI K15 hK15
    obtain ⟨i, rfl, ⟨hi, hj⟩, rfl⟩ := hI
    refine sr fun K16 hK16=>?_
    refine ar0 (s_cmp (.tmp rfl) (.tmp rfl) rfl rfl) ?_
    refine hK16 _ ?_
    refine awp_seq ?_; intro K17 hK17
    refine awp_cond (.tmp rfl) (fun ht47 => ?_) (fun ht47 => ?_)
    ·have hin := lss_t ht47
     obtain ⟨b, hb⟩ := getx hin
     have hbn := ha.nr b (List.mem_of_getElem? hb)
     refine awp_skip (hK17 _ ?_)
     refine awp_seq ?_; intro K18 hK18
     refine awp_block ?_
     refine sr fun K19 hK19=>?_
     refine ar0 (s_idxLst (.tmp rfl) (.tmp rfl) T31 rfl T62 rfl (by omega) (getmap hb) rfl) ?_
     refine ar0 (s_loadIptr (.tmp rfl) T62 rfl rfl rfl) ?_
     refine al T62 ?_
     refine sP T62 ?_
     refine hK19 _ ?_
     refine sr fun K20 hK20=>?_
     refine fP T62 ?_
     refine lP T60 ?_
     refine fP T62 ?_
     refine lP T60 ?_
     refine fP T62 ?_
     refine lP T60 ?_
     refine fP T62 ?_
     refine lP T60 ?_
     refine ar0 (s_buildLst rfl (.cons (.tmp rfl) (.cons (.tmp rfl) (.cons (.tmp rfl) (.cons (.tmp rfl) .nil)))) T28 rfl T60 rfl rfl rfl rfl rfl rfl rfl rfl) ?_
     refine ar0 (s_lenLst (.tmp rfl) T28 rfl rfl) ?_
     refine ar0 (s_move (.const _) rfl) ?_
     refine hK20 _ ?_
     refine awp_block ?_
     refine awp_loop (fun n_ s_ => ∃ (k : Nat), 4 - k = n_ ∧ (k ≤ 4 ∧ ∀ x ∈ b.l.take k, numE a.rs.length x = 0) ∧ s_ = (⟨[(2, some (.ptr 2 0)), (7, some (.ptr 7 0)), (44, some (.lst 4 (a.bs.map Pl.av))), (45, some (i64 a.bs.length)), (46, some (i64 i)), (58, some (.lst 1 (b.l.map nR))), (59, some (i64 4)), (60, some (i64 k))], [(2, some (.box a.av.cells)), (7, some (.box (asA (ofL ps)).cells))]⟩ : AS))
      (n := ((fun (k : Nat) => 4 - k) (0))) (s' := ((fun (k : Nat) => (⟨[(2, some (.ptr 2 0)), (7, some (.ptr 7 0)), (44, some (.lst 4 (a.bs.map Pl.av))), (45, some (i64 a.bs.length)), (46, some (i64 i)), (58, some (.lst 1 (b.l.map nR))), (59, some (i64 4)), (60, some (i64 k))], [(2, some (.box a.av.cells)), (7, some (.box (asA (ofL ps)).cells))]⟩ : AS)) (0)))
      (Wk.of (.k (.k (.k (.k (.k (.k (.k (.k .nil)))))))) (.cons rfl (.refl _) (.cons rfl (.refl _) .nil))) ⟨0, rfl, ⟨Nat.zero_le _, fun x hx => by simp at hx⟩, rfl⟩ ?_
     intro n_ s_ hI K21 hK21
     obtain ⟨k, rfl, ⟨hk, hkj⟩, rfl⟩ := hI
     refine sr fun K22 hK22=>?_
     refine ar0 (s_cmp (.tmp rfl) (.tmp rfl) rfl rfl) ?_
     refine hK22 _ ?_
     refine awp_seq ?_; intro K23 hK23
     refine awp_cond (.tmp rfl) (fun ht61 => ?_) (fun ht61 => ?_)
     ·have hkn : k < 4 := lss_t (b := 4) ht61
      obtain ⟨x, hx⟩ : ∃ x, b.l[k]? = some x := getx (l := b.l) hkn
      have hxn := hbn x (List.mem_of_getElem? hx)
      have hone : chksE a.rs [x] = numE a.rs.length x := chks_one h1
      refine awp_skip (hK23 _ ?_)
      refine awp_seq ?_; intro K24 hK24
      refine awp_block ?_
      refine sr fun K25 hK25=>?_
      refine ar0 (s_idxLst (.tmp rfl) (.tmp rfl) T28 rfl T60 rfl (by omega) (getmap hx) rfl) ?_
      refine ar0 (s_loadIptr (.tmp rfl) T60 rfl rfl rfl) ?_
      refine aT ?_
      refine hK25 _ ?_
      refine sr fun K26 hK26=>?_
      refine fP T34 ?_
      refine lP T30 ?_
      refine mT ?_
      refine ar0 (s_call (c_tower_Neg a.rs 40000 ha.tr x 4000 hxn (by omega)) (.cons (.tmp rfl) (.cons (.tmp rfl) .nil)) rfl rfl) ?_
      refine mT ?_
      refine ar0 (s_extract (.tmp rfl) rfl rfl) ?_
      refine ar0 (s_extract (.tmp rfl) rfl rfl) ?_
      refine aT ?_
      refine aT ?_
      refine hK26 _ ?_
      refine sr fun K27 hK27=>?_
      refine mT ?_
      refine ar0 (s_errNe (.tmp rfl) (by first | exact .inl rfl | exact .inr ⟨_, _, rfl⟩ | exact errV_or _) T41 rfl rfl) ?_
      refine hK27 _ ?_
      refine awp_cond (.tmp rfl) (fun ht72 => ?_) (fun ht72 => ?_)
      ·have h4 := nNil_t ht72
       rw [hone] at h4
       have h6 : mE a ps = numE a.rs.length x := by rw [mE_num h1 h2 h3, firstE_at hb hj (by rw [chks_at h1 hx hkj h4]; exact h4), chks_at h1 hx hkj h4]
       refine sr fun K28 hK28=>?_
       refine mT ?_
       refine aC ?_
       refine aT ?_
       refine hK28 _ ?_
       refine awp_ret ⟨_, (.cons (.tmp rfl) (.cons (.tmp rfl) .nil)), ?_⟩
       exact fin_eq2 (by rw [mB_err (by rw [h6]; exact h4), h6, hone]; rfl)
      ·have h4 := nNil_f ht72
       rw [hone] at h4
       refine awp_skip (hK24 _ ?_)
       refine awp_region ?_
       refine ar0 (s_arithW (.tmp rfl) (.const _) rfl (i64_add1 (by unfold maxL; omega)) rfl) ?_
       refine mT ?_
       refine hK21 _ ((fun (k : Nat) => (⟨[(2, some (.ptr 2 0)), (7, some (.ptr 7 0)), (44, some (.lst 4 (a.bs.map Pl.av))), (45, some (i64 a.bs.length)), (46, some (i64 i)), (58, some (.lst 1 (b.l.map nR))), (59, some (i64 4)), (60, some (i64 k))], [(2, some (.box a.av.cells)), (7, some (.box (asA (ofL ps)).cells))]⟩ : AS)) (k + 1)) ((fun (k : Nat) => 4 - k) (k + 1)) (Wk.of (.k (.k (.k (.k (.k (.k (.k (.k .nil)))))))) (.cons rfl (.refl _) (.cons rfl (.refl _) .nil))) ⟨k + 1, rfl, ⟨hkn, fun y hy => by rw [take_succ_get hx] at hy; rcases List.mem_append.1 hy with h9 | h9; exact hkj y h9; (rw [List.mem_singleton.1 h9]; exact h4)⟩, rfl⟩ (by first | omega | (dsimp only; omega))
     ·have hkn : k = 4 := lss_end (b := 4) hk ht61
      subst hkn
      have h4 : chksE a.rs b.l = 0 := chks_of h1 hkj
      refine awp_exit ?_
      refine hK18 _ ?_
      refine awp_region ?_
      refine ar0 (s_arithW (.tmp rfl) (.const _) rfl (i64_add1 (by unfold maxL; omega)) rfl) ?_
      refine mT ?_
      refine hK15 _ ((fun (i : Nat) => (⟨[(2, some (.ptr 2 0)), (7, some (.ptr 7 0)), (44, some (.lst 4 (a.bs.map Pl.av))), (45, some (i64 a.bs.length)), (46, some (i64 i))], [(2, some (.box a.av.cells)), (7, some (.box (asA (ofL ps)).cells))]⟩ : AS)) (i + 1)) ((fun (i : Nat) => a.bs.length - i) (i + 1)) (Wk.of (.k (.k (.k (.k (.k .nil))))) (.cons rfl (.refl _) (.cons rfl (.refl _) .nil))) ⟨i + 1, rfl, ⟨hin, fun y hy => by rw [take_succ_get hb] at hy; rcases List.mem_append.1 hy with h9 | h9; exact hj y h9; (rw [List.mem_singleton.1 h9]; exact h4)⟩, rfl⟩ (by first | omega | (dsimp only; omega))
    ·have hin := lss_end hi ht47
     subst hin
     rw [List.take_length] at hj
     have h6 : mE a ps = 0 := by rw [mE_num h1 h2 h3]; exact firstE_of (fun e he => by obtain ⟨b, hb, rfl⟩ := List.mem_map.1 he; exact hj b hb)
     have h7 := mB_eq h6
     have hts : (llq a.rs).length = a.rs.length := List.length_map _
     refine awp_exit ?_
     refine hK13 _ ?_
     refine awp_seq ?_; intro K29 hK29
     refine sr fun K30 hK30=>?_
     refine fP T34 ?_
     refine lP T31 ?_
     refine ar0 (s_lenMap (.tmp rfl) T31 rfl rfl) ?_
     refine ar0 (s_move (.const _) rfl) ?_
     refine hK30 _ ?_
     refine awp_block ?_
     refine awp_loop (fun n_ s_ => ∃ (i : Nat), a.bs.length - i = n_ ∧ (i ≤ a.bs.length ∧ ((a.bs.zip ps).take i).all (fun z => sameP (llq a.rs) z.1 (posed z.2)) = true) ∧ s_ = (⟨[(2, some (.ptr 2 0)), (7, some (.ptr 7 0)), (77, some (.lst 4 (a.bs.map Pl.av))), (78, some (i64 a.bs.length)), (79, some (i64 i))], [(2, some (.box a.av.cells)), (7, some (.box (asA (ofL ps)).cells))]⟩ : AS))
      (n := ((fun (i : Nat) => a.bs.length - i) (0))) (s' := ((fun (i : Nat) => (⟨[(2, some (.ptr 2 0)), (7, some (.ptr 7 0)), (77, some (.lst 4 (a.bs.map Pl.av))), (78, some (i64 a.bs.length)), (79, some (i64 i))], [(2, some (.box a.av.cells)), (7, some (.box (asA (ofL ps)).cells))]⟩ : AS)) (0)))
      (Wk.of (.k (.k (.k (.k (.k .nil))))) (.cons rfl (.refl _) (.cons rfl (.refl _) .nil))) ⟨0, rfl, ⟨Nat.zero_le _, rfl⟩, rfl⟩ ?_
     intro n_ s_ hI K31 hK31
     obtain ⟨i, rfl, ⟨hi, hja⟩, rfl⟩ := hI
     refine sr fun K32 hK32=>?_
     refine ar0 (s_cmp (.tmp rfl) (.tmp rfl) rfl rfl) ?_
     refine hK32 _ ?_
     refine awp_seq ?_; intro K33 hK33
     refine awp_cond (.tmp rfl) (fun ht80 => ?_) (fun ht80 => ?_)
     ·have hin := lss_t ht80
      obtain ⟨b, hb⟩ := getx hin
      obtain ⟨p, hp⟩ : ∃ p, ps[i]? = some p := getx (by omega)
      have hz := get_zip hb hp
      obtain ⟨hba, hbo⟩ := pl_canon (hj b (List.mem_of_getElem? hb)) (ha.nr b (List.mem_of_getElem? hb)) h5
      have hpo := posed_ok h5 (hps p (List.mem_of_getElem? hp))
      have hgb : (a.bs.map Pl.av)[i]? = some (Pq.av ⟨lq b.c, lq b.s, lq b.x, lq b.y⟩) := by rw [getmap hb, hba]
      have hgp : ((ofL ps).map Pq.av)[i]? = some (posed p).av := by rw [hol]; exact getmap (show (ps.map posed)[i]? = some (posed p) by rw [List.getElem?_map, hp]; rfl)
      have hzn := prs_nm hbo hpo
      refine awp_skip (hK33 _ ?_)
      refine awp_seq ?_; intro K34 hK34
      refine awp_block ?_
      refine sr fun K35 hK35=>?_
      refine mT ?_
      refine ar0 (s_idxLst (.tmp rfl) (.tmp rfl) T31 rfl T62 rfl (by omega) hgb rfl) ?_
      refine ar0 (s_loadIptr (.tmp rfl) T62 rfl rfl rfl) ?_
      refine al T62 ?_
      refine aT ?_
      refine sP T62 ?_
      refine hK35 _ ?_
      refine sr fun K36 hK36=>?_
      refine fP T34 ?_
      refine lP T31 ?_
      refine mT ?_
      refine ar0 (s_idxLst (.tmp rfl) (.tmp rfl) T31 rfl T62 rfl (by omega) hgp rfl) ?_
      refine ar0 (s_loadIptr (.tmp rfl) T62 rfl rfl rfl) ?_
      refine al T62 ?_
      refine sP T62 ?_
      refine hK36 _ ?_
      refine sr fun K37 hK37=>?_
      refine fP T62 ?_
      refine lP T60 ?_
      refine fP T62 ?_
      refine lP T60 ?_
      refine ar0 (s_build (.cons (.tmp rfl) (.cons (.tmp rfl) .nil)) T115 rfl rfl rfl rfl rfl) ?_
      refine fP T62 ?_
      refine lP T60 ?_
      refine fP T62 ?_
      refine lP T60 ?_
      refine ar0 (s_build (.cons (.tmp rfl) (.cons (.tmp rfl) .nil)) T115 rfl rfl rfl rfl rfl) ?_
      refine fP T62 ?_
      refine lP T60 ?_
      refine fP T62 ?_
      refine lP T60 ?_
      refine ar0 (s_build (.cons (.tmp rfl) (.cons (.tmp rfl) .nil)) T115 rfl rfl rfl rfl rfl) ?_
      refine fP T62 ?_
      refine lP T60 ?_
      refine fP T62 ?_
      refine lP T60 ?_
      refine ar0 (s_build (.cons (.tmp rfl) (.cons (.tmp rfl) .nil)) T115 rfl rfl rfl rfl rfl) ?_
      refine ar0 (s_buildA (.cons (.tmp rfl) (.cons (.tmp rfl) (.cons (.tmp rfl) (.cons (.tmp rfl) .nil)))) T116 rfl T115 rfl rfl rfl) ?_
      refine ar0 (s_move (.const _) rfl) ?_
      refine hK37 _ ?_
      refine awp_block ?_
      refine awp_loop (fun n_ s_ => ∃ (k : Nat), 4 - k = n_ ∧ (k ≤ 4 ∧ ((prs b (posed p)).take k).all (eqP (llq a.rs)) = true) ∧ s_ = (⟨[(2, some (.ptr 2 0)), (7, some (.ptr 7 0)), (77, some (.lst 4 (a.bs.map Pl.av))), (78, some (i64 a.bs.length)), (79, some (i64 i)), (109, some (.agg [nA (lq b.c), nA (posed p).c, nA (lq b.s), nA (posed p).s, nA (lq b.x), nA (posed p).x, nA (lq b.y), nA (posed p).y])), (110, some (i64 k))], [(2, some (.box a.av.cells)), (7, some (.box (asA (ofL ps)).cells))]⟩ : AS))
       (n := ((fun (k : Nat) => 4 - k) (0))) (s' := ((fun (k : Nat) => (⟨[(2, some (.ptr 2 0)), (7, some (.ptr 7 0)), (77, some (.lst 4 (a.bs.map Pl.av))), (78, some (i64 a.bs.length)), (79, some (i64 i)), (109, some (.agg [nA (lq b.c), nA (posed p).c, nA (lq b.s), nA (posed p).s, nA (lq b.x), nA (posed p).x, nA (lq b.y), nA (posed p).y])), (110, some (i64 k))], [(2, some (.box a.av.cells)), (7, some (.box (asA (ofL ps)).cells))]⟩ : AS)) (0)))
       (Wk.of (.k (.k (.k (.k (.k (.k (.k .nil))))))) (.cons rfl (.refl _) (.cons rfl (.refl _) .nil))) ⟨0, rfl, ⟨Nat.zero_le _, rfl⟩, rfl⟩ ?_
      intro n_ s_ hI K38 hK38
      obtain ⟨k, rfl, ⟨hk, hka⟩, rfl⟩ := hI
      refine sr fun K39 hK39=>?_
      refine ar0 (s_cmp (.tmp rfl) (.const _) rfl rfl) ?_
      refine hK39 _ ?_
      refine awp_seq ?_; intro K40 hK40
      refine awp_cond (.tmp rfl) (fun ht111 => ?_) (fun ht111 => ?_)
      ·have hkn : k < 4 := lss_t (b := 4) ht111
       obtain ⟨z, hz1, hz2⟩ := prs_at (b := b) (w := posed p) hkn
       obtain ⟨hn1, hn2⟩ := hzn z (List.mem_of_getElem? hz1)
       rw [← hts] at hn1 hn2
       have hcmp := tw_Cmp tw hn1 hn2 (by omega)
       rw [← hta] at hcmp
       refine awp_skip (hK40 _ ?_)
       refine awp_seq ?_; intro K41 hK41
       refine awp_block ?_
       refine sr fun K42 hK42=>?_
       refine ar0 (s_indexA (.tmp rfl) (.tmp rfl) T116 rfl T115 rfl rfl hkn hz2 rfl) ?_
       refine al T115 ?_
       refine sP T115 ?_
       refine hK42 _ ?_
       refine sr fun K43 hK43=>?_
       refine fP T34 ?_
       refine lP T30 ?_
       refine fP T115 ?_
       refine lP T60 ?_
       refine fP T115 ?_
       refine lP T60 ?_
       refine ar0 (s_call hcmp (.cons (.tmp rfl) (.cons (.tmp rfl) (.cons (.tmp rfl) .nil))) rfl rfl) ?_
       refine mT ?_
       refine ar0 (s_extract (.tmp rfl) rfl rfl) ?_
       refine ar0 (s_extract (.tmp rfl) rfl rfl) ?_
       refine aT ?_
       refine aT ?_
       refine hK43 _ ?_
       refine sr fun K44 hK44=>?_
       refine mT ?_
       refine ar0 (s_errNe (.tmp rfl) (by first | exact .inl rfl | exact .inr ⟨_, _, rfl⟩ | exact errV_or _) T41 rfl rfl) ?_
       refine mT ?_
       refine ar0 (s_guard rfl rfl rfl (fun h => s_move (.tmp rfl) rfl)) ?_
       refine ar0 (s_guard rfl rfl rfl (fun h => s_cmp (.opt rfl (o1 h)) (.const _) rfl rfl)) ?_
       refine ar0 (s_pick (.tmp rfl) (fun _ => .const _) (fun hp => .opt rfl (o1 hp)) rfl) ?_
       refine hK44 _ ?_
       refine awp_cond (.tmp rfl) (fun ht128 => ?_) (fun ht128 => ?_)
       ·have h8 : eqP (llq a.rs) z = false := eqp_t ht128
        refine sr fun K45 hK45=>?_
        refine mT ?_
        refine aC ?_
        refine aT ?_
        refine hK45 _ ?_
        refine awp_ret ⟨_, (.cons (.tmp rfl) (.cons (.tmp rfl) .nil)), ?_⟩
        exact fin_eq2 (by rw [h6, h7, all_miss hz (by rw [← prs_all]; exact all_miss hz1 h8)]; rfl)
       ·have h8 : eqP (llq a.rs) z = true := eqp_f ht128
        refine awp_skip (hK41 _ ?_)
        refine awp_region ?_
        refine ar0 (s_arithW (.tmp rfl) (.const _) rfl (i64_add1 (by unfold maxL; omega)) rfl) ?_
        refine mT ?_
        refine hK38 _ ((fun (k : Nat) => (⟨[(2, some (.ptr 2 0)), (7, some (.ptr 7 0)), (77, some (.lst 4 (a.bs.map Pl.av))), (78, some (i64 a.bs.length)), (79, some (i64 i)), (109, some (.agg [nA (lq b.c), nA (posed p).c, nA (lq b.s), nA (posed p).s, nA (lq b.x), nA (posed p).x, nA (lq b.y), nA (posed p).y])), (110, some (i64 k))], [(2, some (.box a.av.cells)), (7, some (.box (asA (ofL ps)).cells))]⟩ : AS)) (k + 1)) ((fun (k : Nat) => 4 - k) (k + 1)) (Wk.of (.k (.k (.k (.k (.k (.k (.k .nil))))))) (.cons rfl (.refl _) (.cons rfl (.refl _) .nil))) ⟨k + 1, rfl, ⟨hkn, all_step hka hz1 h8⟩, rfl⟩ (by first | omega | (dsimp only; omega))
      ·have hkn : k = 4 := lss_end (b := 4) hk ht111
       subst hkn
       have h8 : sameP (llq a.rs) b (posed p) = true := by rw [← prs_all]; exact hka
       refine awp_exit ?_
       refine hK34 _ ?_
       refine awp_region ?_
       refine ar0 (s_arithW (.tmp rfl) (.const _) rfl (i64_add1 (by unfold maxL; omega)) rfl) ?_
       refine mT ?_
       refine hK31 _ ((fun (i : Nat) => (⟨[(2, some (.ptr 2 0)), (7, some (.ptr 7 0)), (77, some (.lst 4 (a.bs.map Pl.av))), (78, some (i64 a.bs.length)), (79, some (i64 i))], [(2, some (.box a.av.cells)), (7, some (.box (asA (ofL ps)).cells))]⟩ : AS)) (i + 1)) ((fun (i : Nat) => a.bs.length - i) (i + 1)) (Wk.of (.k (.k (.k (.k (.k .nil))))) (.cons rfl (.refl _) (.cons rfl (.refl _) .nil))) ⟨i + 1, rfl, ⟨hin, all_step hja hz h8⟩, rfl⟩ (by first | omega | (dsimp only; omega))
     ·have hin := lss_end hi ht80
      refine awp_exit ?_
      refine hK29 _ ?_
      refine sr fun K46 hK46=>?_
      refine aC ?_
      refine aC ?_
      refine hK46 _ ?_
      refine awp_ret ⟨_, (.cons (.tmp rfl) (.cons (.tmp rfl) .nil)), ?_⟩
      exact fin_eq2 (by rw [h6, h7, all_end (by rw [hin, List.length_zip, h3, Nat.min_self]) hja]; rfl)
theorem c_r28_Matches (a : As) (ha : AL a) (ps : List Pse) (hps : ∀ p ∈ ps, p.lok) (hpl : ps.length ≤ 20) : FnC Tryz.prog 18 [a.av, .lst 10 (ps.map Pse.av)] (.tup [bl (mB a ps), i64 (mE a ps)]) := by
 have hbl := ha.bl
 refine con_of0 (N := 77) (rs := [.tmp 4, .tmp 5]) Tryz.func18 rfl rfl rfl rfl ?_
 refine sr fun K1 hK1=>?_
 refine bX ?_
 refine aC ?_
 refine aC ?_
 refine hK1 _ ?_
 refine awp_seq ?_; intro K2 hK2
 refine sr fun K3 hK3=>?_
 refine fP T34 ?_
 refine lP T30 ?_
 refine ar0 (s_call (Con.subA (.cons (.refl _) (.cons (Sub.nil 1 none 0) .nil)) (c_r11_Bad a.rs 40000 4000 ha.tr [] (fun x hx => by cases hx) (by omega) (by show 0 ≤ _; omega))) (.cons (.tmp rfl) (.cons (.const _) .nil)) rfl rfl) ?_
 refine aT ?_
 refine hK3 _ ?_
 refine sr fun K4 hK4=>?_
 refine mT ?_
 refine ar0 (s_cmp (.tmp rfl) (.const _) rfl rfl) ?_
 refine hK4 _ ?_
 refine awp_cond (.tmp rfl) (fun ht18 => ?_) (fun ht18 => ?_)
 ·have h0 := neq_t ht18
  have h1 : chkE a.rs ≠ 0 := fun h => h0 (chks_of h (fun x hx => by cases hx))
  refine sr fun K5 hK5=>?_
  refine mT ?_
  refine aC ?_
  refine aT ?_
  refine hK5 _ ?_
  refine awp_ret ⟨_, (.cons (.tmp rfl) (.cons (.tmp rfl) .nil)), ?_⟩
  exact fin_eq2 (by rw [mB_err (by rw [mE_chk h1]; exact h1), mE_chk h1, chks_chk h1]; rfl)
 ·have h1 := (chks_ok (neq_f ht18)).1
  obtain ⟨tw, hta⟩ := chk_tw ha.tr h1
  have h5 : a.rs.length ≤ 5 := by have := tw.five; rwa [List.length_map] at this
  refine awp_skip (hK2 _ ?_)
  refine sr fun K6 hK6=>?_
  refine mT ?_
  refine ar0 (s_call (c_r28_Of ps hps hpl) (.cons (.tmp rfl) .nil) rfl rfl) ?_
  refine mT ?_
  refine ar0 (s_extract (.tmp rfl) rfl rfl) ?_
  refine ar0 (s_extract (.tmp rfl) rfl rfl) ?_
  refine al T34 ?_
  refine sP T34 ?_
  refine aT ?_
  refine hK6 _ ?_
  refine awp_seq ?_; intro K7 hK7
  refine sr fun K8 hK8=>?_
  refine mT ?_
  refine ar0 (s_cmp (.tmp rfl) (.const _) rfl rfl) ?_
  refine hK8 _ ?_
  refine awp_cond (.tmp rfl) (fun ht26 => ?_) (fun ht26 => ?_)
  ·have h2 := neq_t ht26
   refine sr fun K9 hK9=>?_
   refine mT ?_
   refine aC ?_
   refine aT ?_
   refine hK9 _ ?_
   refine awp_ret ⟨_, (.cons (.tmp rfl) (.cons (.tmp rfl) .nil)), ?_⟩
   exact fin_eq2 (by rw [mB_err (by rw [mE_of h1 h2]; exact h2), mE_of h1 h2]; rfl)
  ·have h2 := neq_f ht26
   have hol := ofL_at (ofE_ok h2)
   have hll : (ofL ps).length = ps.length := by rw [hol, List.length_map]
   refine awp_skip (hK7 _ ?_)
   refine awp_seq ?_; intro K10 hK10
   refine sr fun K11 hK11=>?_
   refine fP T34 ?_
   refine lP T31 ?_
   refine ar0 (s_lenMap (.tmp rfl) T31 rfl rfl) ?_
   refine fP T34 ?_
   refine lP T31 ?_
   refine ar0 (s_lenMap (.tmp rfl) T31 rfl rfl) ?_
   refine ar0 (s_cmp (.tmp rfl) (.tmp rfl) rfl rfl) ?_
   refine hK11 _ ?_
   refine awp_cond (.tmp rfl) (fun ht34 => ?_) (fun ht34 => ?_)
   ·have h3 : a.bs.length ≠ ps.length := by have := neq_t' ht34; rw [hll] at this; omega
    refine sr fun K12 hK12=>?_
    refine aC ?_
    refine aC ?_
    refine hK12 _ ?_
    refine awp_ret ⟨_, (.cons (.tmp rfl) (.cons (.tmp rfl) .nil)), ?_⟩
    exact fin_eq2 (by rw [mB_err (by rw [mE_len h1 h2 h3]; decide), mE_len h1 h2 h3]; rfl)
   ·have h3 : a.bs.length = ps.length := by have := neq_f' ht34; rw [hll] at this; omega
    refine awp_skip (hK10 _ ?_)
    refine awp_seq ?_; intro K13 hK13
    refine sr fun K14 hK14=>?_
    refine fP T34 ?_
    refine lP T31 ?_
    refine ar0 (s_lenMap (.tmp rfl) T31 rfl rfl) ?_
    refine ar0 (s_move (.const _) rfl) ?_
    refine hK14 _ ?_
    refine awp_block ?_
    refine awp_loop (fun n_ s_ => ∃ (i : Nat), a.bs.length - i = n_ ∧ (i ≤ a.bs.length ∧ ∀ b ∈ a.bs.take i, chksE a.rs b.l = 0) ∧ s_ = (⟨[(2, some (.ptr 2 0)), (7, some (.ptr 7 0)), (36, some (.lst 4 (a.bs.map Pl.av))), (37, some (i64 a.bs.length)), (38, some (i64 i))], [(2, some (.box a.av.cells)), (7, some (.box (asA (ofL ps)).cells))]⟩ : AS))
     (n := ((fun (i : Nat) => a.bs.length - i) (0))) (s' := ((fun (i : Nat) => (⟨[(2, some (.ptr 2 0)), (7, some (.ptr 7 0)), (36, some (.lst 4 (a.bs.map Pl.av))), (37, some (i64 a.bs.length)), (38, some (i64 i))], [(2, some (.box a.av.cells)), (7, some (.box (asA (ofL ps)).cells))]⟩ : AS)) (0)))
     (Wk.of (.k (.k (.k (.k (.k .nil))))) (.cons rfl (.refl _) (.cons rfl (.refl _) .nil))) ⟨0, rfl, ⟨Nat.zero_le _, fun b hb => by simp at hb⟩, rfl⟩ ?_
    intro n_ s_ hI K15 hK15
    obtain ⟨i, rfl, ⟨hi, hj⟩, rfl⟩ := hI
    refine sr fun K16 hK16=>?_
    refine ar0 (s_cmp (.tmp rfl) (.tmp rfl) rfl rfl) ?_
    refine hK16 _ ?_
    refine awp_seq ?_; intro K17 hK17
    refine awp_cond (.tmp rfl) (fun ht39 => ?_) (fun ht39 => ?_)
    ·have hin := lss_t ht39
     obtain ⟨b, hb⟩ := getx hin
     have hbn := ha.nr b (List.mem_of_getElem? hb)
     refine awp_skip (hK17 _ ?_)
     refine awp_seq ?_; intro K18 hK18
     refine awp_block ?_
     refine sr fun K19 hK19=>?_
     refine ar0 (s_idxLst (.tmp rfl) (.tmp rfl) T31 rfl T62 rfl (by omega) (getmap hb) rfl) ?_
     refine ar0 (s_loadIptr (.tmp rfl) T62 rfl rfl rfl) ?_
     refine al T62 ?_
     refine sP T62 ?_
     refine hK19 _ ?_
     refine sr fun K20 hK20=>?_
     refine fP T34 ?_
     refine lP T30 ?_
     refine fP T62 ?_
     refine lP T60 ?_
     refine fP T62 ?_
     refine lP T60 ?_
     refine fP T62 ?_
     refine lP T60 ?_
     refine fP T62 ?_
     refine lP T60 ?_
     refine ar0 (s_buildLst rfl (.cons (.tmp rfl) (.cons (.tmp rfl) (.cons (.tmp rfl) (.cons (.tmp rfl) .nil)))) T28 rfl T60 rfl rfl rfl rfl rfl rfl rfl rfl) ?_
     refine ar0 (s_call (c_r11_Bad a.rs 40000 4000 ha.tr b.l hbn (by omega) (by show 4 ≤ _; omega)) (.cons (.tmp rfl) (.cons (.tmp rfl) .nil)) rfl rfl) ?_
     refine aT ?_
     refine hK20 _ ?_
     refine sr fun K21 hK21=>?_
     refine mT ?_
     refine ar0 (s_cmp (.tmp rfl) (.const _) rfl rfl) ?_
     refine hK21 _ ?_
     refine awp_cond (.tmp rfl) (fun ht55 => ?_) (fun ht55 => ?_)
     ·have h4 := neq_t ht55
      have h6 : mE a ps = chksE a.rs b.l := by rw [mE_num h1 h2 h3, firstE_at hb hj h4]
      refine sr fun K22 hK22=>?_
      refine mT ?_
      refine aC ?_
      refine aT ?_
      refine hK22 _ ?_
      refine awp_ret ⟨_, (.cons (.tmp rfl) (.cons (.tmp rfl) .nil)), ?_⟩
      exact fin_eq2 (by rw [mB_err (by rw [h6]; exact h4), h6]; rfl)
     ·have h4 := neq_f ht55
      refine awp_skip (hK18 _ ?_)
      refine awp_region ?_
      refine ar0 (s_arithW (.tmp rfl) (.const _) rfl (i64_add1 (by unfold maxL; omega)) rfl) ?_
      refine mT ?_
      refine hK15 _ ((fun (i : Nat) => (⟨[(2, some (.ptr 2 0)), (7, some (.ptr 7 0)), (36, some (.lst 4 (a.bs.map Pl.av))), (37, some (i64 a.bs.length)), (38, some (i64 i))], [(2, some (.box a.av.cells)), (7, some (.box (asA (ofL ps)).cells))]⟩ : AS)) (i + 1)) ((fun (i : Nat) => a.bs.length - i) (i + 1)) (Wk.of (.k (.k (.k (.k (.k .nil))))) (.cons rfl (.refl _) (.cons rfl (.refl _) .nil))) ⟨i + 1, rfl, ⟨hin, fun y hy => by rw [take_succ_get hb] at hy; rcases List.mem_append.1 hy with h9 | h9; exact hj y h9; (rw [List.mem_singleton.1 h9]; exact h4)⟩, rfl⟩ (by first | omega | (dsimp only; omega))
    ·have hin := lss_end hi ht39
     subst hin
     rw [List.take_length] at hj
     have h6 : mE a ps = 0 := by rw [mE_num h1 h2 h3]; exact firstE_of (fun e he => by obtain ⟨b, hb, rfl⟩ := List.mem_map.1 he; exact hj b hb)
     have h7 := mB_eq h6
     have hts : (llq a.rs).length = a.rs.length := List.length_map _
     refine awp_exit ?_
     refine hK13 _ ?_
     refine awp_seq ?_; intro K23 hK23
     refine sr fun K24 hK24=>?_
     refine fP T34 ?_
     refine lP T31 ?_
     refine ar0 (s_lenMap (.tmp rfl) T31 rfl rfl) ?_
     refine ar0 (s_move (.const _) rfl) ?_
     refine hK24 _ ?_
     refine awp_block ?_
     refine awp_loop (fun n_ s_ => ∃ (i : Nat), a.bs.length - i = n_ ∧ (i ≤ a.bs.length ∧ ((a.bs.zip ps).take i).all (fun z => sameP (llq a.rs) z.1 (posed z.2)) = true) ∧ s_ = (⟨[(2, some (.ptr 2 0)), (7, some (.ptr 7 0)), (59, some (.lst 4 (a.bs.map Pl.av))), (60, some (i64 a.bs.length)), (61, some (i64 i))], [(2, some (.box a.av.cells)), (7, some (.box (asA (ofL ps)).cells))]⟩ : AS))
      (n := ((fun (i : Nat) => a.bs.length - i) (0))) (s' := ((fun (i : Nat) => (⟨[(2, some (.ptr 2 0)), (7, some (.ptr 7 0)), (59, some (.lst 4 (a.bs.map Pl.av))), (60, some (i64 a.bs.length)), (61, some (i64 i))], [(2, some (.box a.av.cells)), (7, some (.box (asA (ofL ps)).cells))]⟩ : AS)) (0)))
      (Wk.of (.k (.k (.k (.k (.k .nil))))) (.cons rfl (.refl _) (.cons rfl (.refl _) .nil))) ⟨0, rfl, ⟨Nat.zero_le _, rfl⟩, rfl⟩ ?_
     intro n_ s_ hI K25 hK25
     obtain ⟨i, rfl, ⟨hi, hja⟩, rfl⟩ := hI
     refine sr fun K26 hK26=>?_
     refine ar0 (s_cmp (.tmp rfl) (.tmp rfl) rfl rfl) ?_
     refine hK26 _ ?_
     refine awp_seq ?_; intro K27 hK27
     refine awp_cond (.tmp rfl) (fun ht62 => ?_) (fun ht62 => ?_)
     ·have hin := lss_t ht62
      obtain ⟨b, hb⟩ := getx hin
      obtain ⟨p, hp⟩ : ∃ p, ps[i]? = some p := getx (by omega)
      have hz := get_zip hb hp
      obtain ⟨hba, hbo⟩ := pl_canon (hj b (List.mem_of_getElem? hb)) (ha.nr b (List.mem_of_getElem? hb)) h5
      have hpo := posed_ok h5 (hps p (List.mem_of_getElem? hp))
      have hgb : (a.bs.map Pl.av)[i]? = some (Pq.av ⟨lq b.c, lq b.s, lq b.x, lq b.y⟩) := by rw [getmap hb, hba]
      have hgp : ((ofL ps).map Pq.av)[i]? = some (posed p).av := by rw [hol]; exact getmap (show (ps.map posed)[i]? = some (posed p) by rw [List.getElem?_map, hp]; rfl)
      have hsame := samePlaced_r (r := 40000) tw hta hts hbo hpo
      refine awp_skip (hK27 _ ?_)
      refine awp_seq ?_; intro K28 hK28
      refine awp_block ?_
      refine sr fun K29 hK29=>?_
      refine mT ?_
      refine ar0 (s_idxLst (.tmp rfl) (.tmp rfl) T31 rfl T62 rfl (by omega) hgb rfl) ?_
      refine ar0 (s_loadIptr (.tmp rfl) T62 rfl rfl rfl) ?_
      refine al T62 ?_
      refine aT ?_
      refine sP T62 ?_
      refine hK29 _ ?_
      refine awp_seq ?_; intro K30 hK30
      refine awp_region_draw mixedP ?_
      refine fP T34 ?_
      refine lP T30 ?_
      refine lP T62 ?_
      refine fP T34 ?_
      refine lP T31 ?_
      refine mT ?_
      refine ar0 (s_idxLst (.tmp rfl) (.tmp rfl) T31 rfl T62 rfl (by omega) hgp rfl) ?_
      refine ar0 (s_loadIptr (.tmp rfl) T62 rfl rfl rfl) ?_
      refine ar0 (s_call hsame (.cons (.tmp rfl) (.cons (.tmp rfl) (.cons (.tmp rfl) .nil))) rfl rfl) ?_
      refine ar0 (s_not (.tmp rfl) rfl) ?_
      refine ⟨by kernel_rfl, ?_⟩
      refine hK30 _ ?_
      refine awp_cond (.tmp rfl) (fun ht75 => ?_) (fun ht75 => ?_)
      ·have h8 : sameP (llq a.rs) b (posed p) = false := not_t ht75
       refine sr fun K31 hK31=>?_
       refine aC ?_
       refine aC ?_
       refine hK31 _ ?_
       refine awp_ret ⟨_, (.cons (.tmp rfl) (.cons (.tmp rfl) .nil)), ?_⟩
       exact fin_eq2 (by rw [h6, h7, all_miss hz h8]; rfl)
      ·have h8 : sameP (llq a.rs) b (posed p) = true := not_f ht75
       refine awp_skip (hK28 _ ?_)
       refine awp_region ?_
       refine ar0 (s_arithW (.tmp rfl) (.const _) rfl (i64_add1 (by unfold maxL; omega)) rfl) ?_
       refine mT ?_
       refine hK25 _ ((fun (i : Nat) => (⟨[(2, some (.ptr 2 0)), (7, some (.ptr 7 0)), (59, some (.lst 4 (a.bs.map Pl.av))), (60, some (i64 a.bs.length)), (61, some (i64 i))], [(2, some (.box a.av.cells)), (7, some (.box (asA (ofL ps)).cells))]⟩ : AS)) (i + 1)) ((fun (i : Nat) => a.bs.length - i) (i + 1)) (Wk.of (.k (.k (.k (.k (.k .nil))))) (.cons rfl (.refl _) (.cons rfl (.refl _) .nil))) ⟨i + 1, rfl, ⟨hin, all_step hja hz h8⟩, rfl⟩ (by first | omega | (dsimp only; omega))
     ·have hin := lss_end hi ht62
      refine awp_exit ?_
      refine hK23 _ ?_
      refine sr fun K32 hK32=>?_
      refine aC ?_
      refine aC ?_
      refine hK32 _ ?_
      refine awp_ret ⟨_, (.cons (.tmp rfl) (.cons (.tmp rfl) .nil)), ?_⟩
      exact fin_eq2 (by rw [h6, h7, all_end (by rw [hin, List.length_zip, h3, Nat.min_self]) hja]; rfl)
end Go.Lw
namespace Go.Lw
instance : Inhabited Tn := ⟨⟨⟨false, [], []⟩, false⟩⟩
/-! ### The first that fails -/
def firstB (n : Nat) (ok : Nat → Bool) : Option Nat := (List.range n).find? (fun i => !ok i)
theorem firstB_at {n i : Nat} {ok : Nat → Bool} (hi : i < n) (h : ∀ j, j < i → ok j = true) (he : ok i = false) : firstB n ok = some i := by
  unfold firstB
  rw [List.find?_range_eq_some]
  exact ⟨by rw [he]; rfl, by simpa using hi, fun j hj => by rw [h j hj]; rfl⟩
theorem firstB_all {n : Nat} {ok : Nat → Bool} (h : ∀ j, j < n → ok j = true) : firstB n ok = none := by
  unfold firstB
  rw [List.find?_range_eq_none]
  exact fun j hj => by rw [h j hj]; rfl
theorem firstB_none {n : Nat} {ok : Nat → Bool} (h : firstB n ok = none) : ∀ j, j < n → ok j = true := by
  unfold firstB at h
  rw [List.find?_range_eq_none] at h
  intro j hj
  have := h j hj
  simpa using this
def ixI : Option Nat → Int
  | none => -1
  | some i => i
theorem ix_t {o : Option Nat} (h : icmp .geq (ixI o) 0 = true) : ∃ i, o = some i := by
  cases o with
  | none => cases h
  | some i => exact ⟨i, rfl⟩
theorem ix_f {o : Option Nat} (h : icmp .geq (ixI o) 0 = false) : o = none := by
  cases o with
  | none => rfl
  | some i =>
    have h1 : ¬ ((i : Int) ≥ 0) := of_decide_eq_false h
    omega
/-! ### Faults -/
def frameQ : Pq := ⟨[1], [], [], []⟩
abbrev decL (ts : List (List Rat)) (x : List Rt) : T ts.length := dec ts.length (lq x)
def unitB (ts : List (List Rat)) (b : Pl) : Bool := eqT ts (dotT ts (decL ts b.c) (decL ts b.s) (decL ts b.c) (decL ts b.s)) (dec ts.length [1])
def bodyB (rs : List (List Rt)) (i : Nat) (b : Pl) : Bool := decide (chksE rs b.l = 0) && (unitB (llq rs) b && (decide (0 < i) || sameP (llq rs) b frameQ))
def atP (ts : List (List Rat)) (b : Pl) (m : Mk) : T ts.length × T ts.length := (atX ts (decL ts b.c) (decL ts b.s) (decL ts b.x) m.x.q m.y.q, atY ts (decL ts b.c) (decL ts b.s) (decL ts b.y) m.x.q m.y.q)
def ptAt (l : Li) (a : As) (body pt : Int) : T (llq a.rs).length × T (llq a.rs).length := atP (llq a.rs) (a.bs.getD body.toNat default) ((ptsAt l body).getD pt.toNat default)
def jointB (l : Li) (a : As) (j : Jt) : Bool :=
  if j.kind = 0 then eqT (llq a.rs) (ptAt l a j.a j.point).1 (ptAt l a j.b j.on).1 && eqT (llq a.rs) (ptAt l a j.a j.point).2 (ptAt l a j.b j.on).2
  else decide (T.sgn (rtsOf (llq a.rs)) (llq a.rs).length (orientT (llq a.rs) (ptAt l a j.b j.on).1 (ptAt l a j.b j.on).2 (ptAt l a j.b j.to).1 (ptAt l a j.b j.to).2 (ptAt l a j.a j.point).1 (ptAt l a j.a j.point).2) = 0)
def turnB (ts : List (List Rat)) (b : Pl) (x : Tn) : Bool :=
  eqT ts (decL ts b.c) (dec ts.length (sh 0 (cosQ x.half x.t.q : Rat))) && eqT ts (decL ts b.s) (dec ts.length (sh 0 (sinQ x.half x.t.q : Rat)))
def driverB (l : Li) (xs : List Tn) (a : As) (i : Nat) : Bool := turnB (llq a.rs) (a.bs.getD (l.drivers.getD i default).body.toNat default) (xs.getD i default)
def flt (l : Li) (xs : List Tn) (a : As) : Nat × Nat :=
  if chkE a.rs ≠ 0 ∨ a.bs.length ≠ l.bodies.length then (1, 0)
  else match firstB a.bs.length (fun i => bodyB a.rs i (a.bs.getD i default)) with
    | some i => (2, i)
    | none => match firstB l.joints.length (fun i => jointB l a (l.joints.getD i default)) with
      | some i => (3, i)
      | none => match firstB l.drivers.length (driverB l xs a) with
        | some i => (4, i)
        | none => (0, 0)
def fltA (p : Nat × Nat) : AV := .agg [i64 p.1, i64 p.2]
theorem flt_1 {l : Li} {xs : List Tn} {a : As} (h : chkE a.rs ≠ 0 ∨ a.bs.length ≠ l.bodies.length) : flt l xs a = (1, 0) := by unfold flt; rw [if_pos h]
theorem flt_2 {l : Li} {xs : List Tn} {a : As} (h : ¬ (chkE a.rs ≠ 0 ∨ a.bs.length ≠ l.bodies.length)) {i : Nat} (h1 : firstB a.bs.length (fun i => bodyB a.rs i (a.bs.getD i default)) = some i) : flt l xs a = (2, i) := by
  unfold flt; rw [if_neg h, h1]
theorem flt_3 {l : Li} {xs : List Tn} {a : As} (h : ¬ (chkE a.rs ≠ 0 ∨ a.bs.length ≠ l.bodies.length)) {i : Nat} (h1 : firstB a.bs.length (fun i => bodyB a.rs i (a.bs.getD i default)) = none)
    (h2 : firstB l.joints.length (fun i => jointB l a (l.joints.getD i default)) = some i) : flt l xs a = (3, i) := by
  unfold flt; rw [if_neg h, h1]; show (match firstB _ _ with | some i => _ | none => _) = _; rw [h2]
theorem flt_4 {l : Li} {xs : List Tn} {a : As} (h : ¬ (chkE a.rs ≠ 0 ∨ a.bs.length ≠ l.bodies.length)) {i : Nat} (h1 : firstB a.bs.length (fun i => bodyB a.rs i (a.bs.getD i default)) = none)
    (h2 : firstB l.joints.length (fun i => jointB l a (l.joints.getD i default)) = none) (h3 : firstB l.drivers.length (driverB l xs a) = some i) : flt l xs a = (4, i) := by
  unfold flt; rw [if_neg h, h1]; show (match firstB _ _ with | some i => _ | none => _) = _; rw [h2]; show (match firstB _ _ with | some i => _ | none => _) = _; rw [h3]
theorem flt_0 {l : Li} {xs : List Tn} {a : As} (h : ¬ (chkE a.rs ≠ 0 ∨ a.bs.length ≠ l.bodies.length)) (h1 : firstB a.bs.length (fun i => bodyB a.rs i (a.bs.getD i default)) = none)
    (h2 : firstB l.joints.length (fun i => jointB l a (l.joints.getD i default)) = none) (h3 : firstB l.drivers.length (driverB l xs a) = none) : flt l xs a = (0, 0) := by
  unfold flt; rw [if_neg h, h1]; show (match firstB _ _ with | some i => _ | none => _) = _; rw [h2]; show (match firstB _ _ with | some i => _ | none => _) = _; rw [h3]
/-! ### Accepted linkages -/
theorem li_parts {l : Li} (h : liE l = 0) : bdsE l = 0 ∧ jtsE l = 0 ∧ drsE l = 0 ∧ l.bodies.length ≤ 8 ∧ l.bodies.length ≠ 0 := by
  unfold liE at h
  split at h
  · cases h
  · split at h
    · cases h
    · split at h
      · cases h
      · split at h
        · rename_i h1; exact absurd h h1
        · rename_i g1 _ h1
          split at h
          · rename_i h2; exact absurd h h2
          · rename_i h2; exact ⟨Decidable.not_not.1 h1, Decidable.not_not.1 h2, h, by omega, by omega⟩
theorem jt_at {l : Li} (h : liE l = 0) {i : Nat} {j : Jt} (hj : l.joints[i]? = some j) : jt0 l j = 0 := by
  have h1 := (li_parts h).2.1
  unfold jtsE at h1
  split at h1
  · cases h1
  · have h2 := firstN_zero h1 i (List.getElem?_eq_some_iff.1 hj).1
    unfold jtE at h2
    rw [getD_of hj] at h2
    split at h2
    · cases h2
    · split at h2
      · cases h2
      · exact h2
theorem jt_in {l : Li} (h : liE l = 0) {i : Nat} {j : Jt} (hj : l.joints[i]? = some j) :
    inB j.a l.bodies.length = true ∧ inB j.b l.bodies.length = true ∧ inB j.point (ptsAt l j.a).length = true ∧ inB j.on (ptsAt l j.b).length = true ∧ (j.kind ≠ 0 → inB j.to (ptsAt l j.b).length = true) := by
  have h1 := jt_at h hj
  unfold jt0 at h1
  split at h1
  · cases h1
  · split at h1
    · cases h1
    · rename_i h2
      split at h1
      · cases h1
      · split at h1
        · cases h1
        · rename_i h3
          have a1 : inB j.a l.bodies.length = true := by cases h : inB j.a l.bodies.length <;> simp_all
          have a2 : inB j.b l.bodies.length = true := by cases h : inB j.b l.bodies.length <;> simp_all
          have a3 : inB j.point (ptsAt l j.a).length = true := by cases h : inB j.point (ptsAt l j.a).length <;> simp_all
          have a4 : inB j.on (ptsAt l j.b).length = true := by cases h : inB j.on (ptsAt l j.b).length <;> simp_all
          refine ⟨a1, a2, a3, a4, fun hk => ?_⟩
          rw [if_neg hk] at h1
          split at h1
          · cases h1
          · rename_i h4; cases h : inB j.to (ptsAt l j.b).length <;> simp_all
theorem dr_in {l : Li} (h : liE l = 0) {i : Nat} {d : Dr} (hd : l.drivers[i]? = some d) : inB d.body l.bodies.length = true := by
  have h1 := (li_parts h).2.2.1
  unfold drsE at h1
  split at h1
  · cases h1
  · have h2 := firstN_zero h1 i (List.getElem?_eq_some_iff.1 hd).1
    unfold drE at h2
    rw [getD_of hd] at h2
    split at h2
    · cases h2
    · split at h2
      · cases h2
      · split at h2
        · cases h2
        · rename_i h3; cases h : inB d.body l.bodies.length <;> simp_all
theorem mk_valid {l : Li} (h : liE l = 0) {n k : Nat} {b : Bd} {m : Mk} (hb : l.bodies[n]? = some b) (hm : b.pts[k]? = some m) : m.x.valid = true ∧ m.y.valid = true := by
  have h2 := firstN_zero (li_parts h).1 n (List.getElem?_eq_some_iff.1 hb).1
  unfold bdE at h2
  rw [getD_of hb] at h2
  split at h2
  · cases h2
  · split at h2
    · cases h2
    · split at h2
      · cases h2
      · have h3 := firstN_zero h2 k (List.getElem?_eq_some_iff.1 hm).1
        unfold mkE at h3
        rw [getD_of hm] at h3
        split at h3
        · cases h3
        · split at h3
          · cases h3
          · split at h3
            · assumption
            · cases h3
/-- An accepted linkage, and an assembly whose numbers are accepted. -/
structure Good (l : Li) (a : As) : Prop where
  lo : l.ok
  li : liE l = 0
  al : AL a
  ck : chkE a.rs = 0
  cb : ∀ b ∈ a.bs, chksE a.rs b.l = 0
  ln : a.bs.length = l.bodies.length
theorem Good.tw {l : Li} {a : As} (h : Good l a) : Tw (llq a.rs) 40000 ∧ towR a.rs = towA (llq a.rs) ∧ a.rs.length ≤ 5 ∧ (llq a.rs).length = a.rs.length := by
  obtain ⟨tw, hta⟩ := chk_tw h.al.tr h.ck
  have h5 : a.rs.length ≤ 5 := by have := tw.five; rwa [List.length_map] at this
  exact ⟨tw, hta, h5, List.length_map _⟩
theorem Good.pl {l : Li} {a : As} (h : Good l a) {n : Nat} {b : Pl} (hb : a.bs[n]? = some b) :
    b.av = Pq.av ⟨lq b.c, lq b.s, lq b.x, lq b.y⟩ ∧ Pq.ok (llq a.rs).length 4000 ⟨lq b.c, lq b.s, lq b.x, lq b.y⟩ := by
  have h1 := pl_canon (h.cb b (List.mem_of_getElem? hb)) (h.al.nr b (List.mem_of_getElem? hb)) h.tw.2.2.1
  rw [h.tw.2.2.2]
  exact h1
/-- A point of a body that there is. -/
structure AtP (l : Li) (a : As) (body pt : Int) (n k : Nat) (bd : Bd) (m : Mk) (b : Pl) : Prop where
  hn : body = n
  hk : pt = k
  gbd : l.bodies[n]? = some bd
  gm : bd.pts[k]? = some m
  gb : a.bs[n]? = some b
  eq : ptAt l a body pt = atP (llq a.rs) b m
  mx : m.x.av = qA m.x.q
  my : m.y.av = qA m.y.q
  qx : Qb 4000 m.x.q
  qy : Qb 4000 m.y.q
theorem Good.at {l : Li} {a : As} (h : Good l a) {body pt : Int} (h1 : inB body l.bodies.length = true) (h2 : inB pt (ptsAt l body).length = true) : ∃ n k bd m b, AtP l a body pt n k bd m b := by
  obtain ⟨bd, g1, g2, g3, g4⟩ := bodyAt h1
  rw [g2] at h2
  obtain ⟨m, g5, g6, g7, g8⟩ := markAt h2
  obtain ⟨b, hb⟩ := getx (l := a.bs) (i := body.toNat) (by rw [h.ln]; exact (List.getElem?_eq_some_iff.1 g1).1)
  have hv := mk_valid h.li g1 g5
  have ho := (h.lo.bodies bd g3).pts m g7
  exact ⟨body.toNat, pt.toNat, bd, m, b, by omega, by omega, g1, g5, hb, by unfold ptAt; rw [getD_of hb, g2, g6],
    by rw [show qA m.x.q = (rt m.x.q).av from rfl, ← Rt.eq_rt ho.x hv.1], by rw [show qA m.y.q = (rt m.y.q).av from rfl, ← Rt.eq_rt ho.y hv.2], ho.qx.mono (by omega), ho.qy.mono (by omega)⟩
theorem kb4 : kB 40000 = 1240062 := rfl
theorem at_nm {ts : List (List Rat)} {r : Nat} (tw : Tw ts r) {b : Pl} {m : Mk} (hb : Pq.ok ts.length 4000 ⟨lq b.c, lq b.s, lq b.x, lq b.y⟩) (hx : Qb 4000 m.x.q) (hy : Qb 4000 m.y.q) :
    Nm ts.length (4 * (4000 + 4000 + kB r) + 10000) (sh ts.length (atP ts b m).1) ∧ Nm ts.length (4 * (4000 + 4000 + kB r) + 10000) (sh ts.length (atP ts b m).2) := by
  have nx := Nm.ofQ tw.five (Cb.one hx)
  have ny := Nm.ofQ tw.five (Cb.one hy)
  have nX := turn_nmX tw hb.c hb.s nx ny
  have nY := turn_nmY tw hb.c hb.s nx ny
  have h1 := nX.add hb.x
  rw [at_ap1] at h1
  have h2 := nY.add hb.y
  rw [at_ap2] at h2
  exact ⟨h1.mono (by omega), h2.mono (by omega)⟩
/-! ### Errors of linkage and turns -/
def badE (l : Li) (xs : List Tn) : Nat := if liE l ≠ 0 then liE l else if xs.length ≠ l.drivers.length then 10 else firstE (xs.map Tn.err)
theorem badE_li {l : Li} {xs : List Tn} (h : liE l ≠ 0) : badE l xs = liE l := by unfold badE; rw [if_pos h]
theorem badE_len {l : Li} {xs : List Tn} (h : liE l = 0) (h1 : xs.length ≠ l.drivers.length) : badE l xs = 10 := by unfold badE; rw [if_neg (by rw [h]; simp), if_pos h1]
theorem badE_x {l : Li} {xs : List Tn} (h : liE l = 0) (h1 : xs.length = l.drivers.length) {i : Nat} {x : Tn} (hx : xs[i]? = some x) (hb : ∀ y ∈ xs.take i, y.err = 0) (hn : x.err ≠ 0) : badE l xs = x.err := by
  unfold badE; rw [if_neg (by rw [h]; simp), if_neg (by rw [h1]; simp), firstE_at hx hb hn]
theorem badE_0 {l : Li} {xs : List Tn} (h : liE l = 0) (h1 : xs.length = l.drivers.length) (hb : ∀ y ∈ xs, y.err = 0) : badE l xs = 0 := by
  unfold badE; rw [if_neg (by rw [h]; simp), if_neg (by rw [h1]; simp)]
  exact firstE_of (fun e he => by obtain ⟨x, hx, rfl⟩ := List.mem_map.1 he; exact hb x hx)
theorem good_of {l : Li} {a : As} (hl : l.ok) (hli : liE l = 0) (ha : AL a) (hc : chkE a.rs = 0) (hln : a.bs.length = l.bodies.length) (hj : ∀ j, j < a.bs.length → bodyB a.rs j (a.bs.getD j default) = true) : Good l a := by
  refine ⟨hl, hli, ha, hc, fun b hb => ?_, hln⟩
  obtain ⟨i, hi, rfl⟩ := List.mem_iff_getElem.1 hb
  have h := hj i hi
  rw [getD_of (List.getElem?_eq_getElem hi)] at h
  unfold bodyB at h
  rw [Bool.and_eq_true, decide_eq_true_eq] at h
  exact h.1
/-- A driver, its body and turn. -/
structure DrP (l : Li) (xs : List Tn) (a : As) (i : Nat) (d : Dr) (n : Nat) (b : Pl) (x : Tn) : Prop where
  hn : d.body = n
  gb : a.bs[n]? = some b
  gx : xs[i]? = some x
  ec : nR b.c = nA (lq b.c)
  es : nR b.s = nA (lq b.s)
  av : b.av = Pq.av ⟨lq b.c, lq b.s, lq b.x, lq b.y⟩
  po : Pq.ok (llq a.rs).length 4000 ⟨lq b.c, lq b.s, lq b.x, lq b.y⟩
  eq : driverB l xs a i = turnB (llq a.rs) b x
theorem Good.dr {l : Li} {a : As} (h : Good l a) {xs : List Tn} (hx : ∀ x ∈ xs, x.t.ok ∧ x.err = 0 ∧ Qb 1000 x.t.q) (hxl : xs.length = l.drivers.length) {i : Nat} {d : Dr} (hd : l.drivers[i]? = some d) : ∃ n b x, DrP l xs a i d n b x := by
  have h1 := inB_t (dr_in h.li hd)
  obtain ⟨b, hb⟩ := getx (l := a.bs) (i := d.body.toNat) (by rw [h.ln]; omega)
  obtain ⟨x, hxx⟩ := getx (l := xs) (i := i) (by rw [hxl]; exact (List.getElem?_eq_some_iff.1 hd).1)
  obtain ⟨g1, g2⟩ := h.pl hb
  have g3 := (chks_ok (h.cb b (List.mem_of_getElem? hb))).2
  have g4 := h.al.nr b (List.mem_of_getElem? hb)
  exact ⟨d.body.toNat, b, x, by omega, hb, hxx, ((g4 b.c (by simp [Pl.l])).num (g3 b.c (by simp [Pl.l]))).1, ((g4 b.s (by simp [Pl.l])).num (g3 b.s (by simp [Pl.l]))).1, g1, g2,
    by unfold driverB; rw [getD_of hd, getD_of hb, getD_of hxx]⟩
theorem fl2_t {e n m : Nat} (h : cond (!(isNil (errV e))) true (icmp .neq (n : Int) (m : Int)) = true) : e ≠ 0 ∨ n ≠ m := by
  cases h1 : isNil (errV e)
  · exact .inl (isNil_f h1)
  · rw [h1] at h; have := neq_t' h; exact .inr (by omega)
theorem fl2_f {e n m : Nat} (h : cond (!(isNil (errV e))) true (icmp .neq (n : Int) (m : Int)) = false) : ¬ (e ≠ 0 ∨ n ≠ m) := by
  cases h1 : isNil (errV e)
  · rw [h1] at h; cases h
  · rw [h1] at h; have h2 := neq_f' h; have h3 := isNil_t h1; omega
/-- Only the fault of kind 0 is none. -/
theorem flt_k0 (l : Li) (xs : List Tn) (a : As) : (flt l xs a).1 = 0 → (flt l xs a).2 = 0 := by
  unfold flt
  split
  · intro h; cases h
  · split
    · intro h; cases h
    · split
      · intro h; cases h
      · split
        · intro h; cases h
        · intro _; rfl
theorem ver_cond {l : Li} {xs : List Tn} {a : As} : (((flt l xs a).1 : Int) == 0 && ((flt l xs a).2 : Int) == 0) = (decide ((0 : Nat) = 0) && decide ((flt l xs a).1 = 0)) := by
  have h := flt_k0 l xs a
  rw [Bool.eq_iff_iff]
  simp only [Bool.and_eq_true, beq_iff_eq, decide_eq_true_eq]
  constructor
  · rintro ⟨g1, g2⟩; exact ⟨trivial, by omega⟩
  · rintro ⟨_, g⟩; have := h g; exact ⟨by omega, by omega⟩
end Go.Lw
