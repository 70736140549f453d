/- VelocityAt: for any assembly, velocities, body and place the law returns true and leaves its arguments as they were; VelocityRigid, where what comes in is of bulk at most 1048576: for any assembly, velocities and two places the law returns true and leaves its arguments as they were. No other condition. Part 7 of 7: the statement -/
import Derived.Test.YtohejbfhhanckaaGreatXf
import Derived.Deep.CondSized
set_option linter.unusedVariables false
namespace Go.Lw
open Go.Proofs
set_option maxRecDepth 20000
def k42_v0 : AV := .agg [.v (.string ⟨⟨[97]⟩⟩), .v (.bool false), .lst 1 [], .lst 1 [], .v (.bool false), .v (.slice none 0 0), .v (.slice none 0 0)]
def k42_v1 : AV := .lst 3 [.agg [.v (.bool false), .lst 1 [], .lst 1 []], .agg [.v (.bool true), .lst 1 [.v (.int .u32 1)], .lst 1 [.v (.int .u32 1)]]]
def k42_v2 : AV := .lst 3 [.agg [.v (.bool false), .lst 1 [], .lst 1 []], .agg [.v (.bool true), .lst 1 [.v (.int .u32 1)], .lst 1 [.v (.int .u32 5)]]]
def k42_v3 : AV := .lst 3 [.agg [.v (.bool false), .lst 1 [], .lst 1 []], .agg [.v (.bool false), .lst 1 [.v (.int .u32 1)], .lst 1 [.v (.int .u32 1)]]]
def k42_v4 : AV := .lst 3 [.agg [.v (.bool false), .lst 1 [], .lst 1 []], .agg [.v (.bool false), .lst 1 [.v (.int .u32 1)], .lst 1 [.v (.int .u32 5)]]]
def k42_v5 : AV := .agg [.v (.string ⟨⟨[111]⟩⟩), .v (.int .i64 0), .v (.int .i64 1), .v (.int .i64 0), .v (.int .i64 0), .v (.int .i64 0), .v (.int .i64 0)]
def k42_v6 : AV := .agg [.v (.string ⟨⟨[112]⟩⟩), .v (.int .i64 0), .v (.int .i64 2), .v (.int .i64 0), .v (.int .i64 1), .v (.int .i64 1), .v (.int .i64 0)]
def k42_v7 : AV := .agg [.v (.string ⟨⟨[115]⟩⟩), .v (.int .i64 1), .v (.int .i64 2), .v (.int .i64 1), .v (.int .i64 0), .v (.int .i64 0), .v (.int .i64 1)]
def k42_v8 : AV := .agg [.v (.slice none 0 0), .lst 3 [.agg [.v (.bool false), .lst 1 [.v (.int .u32 1)], .lst 1 [.v (.int .u32 1)]]], .lst 3 [], .lst 3 []]
def k42_v9 : AV := .agg [k42_v1, .lst 3 []]
def k42_v10 : AV := .agg [k42_v3, .lst 3 []]
def k42_v11 : AV := .agg [.lst 3 [.agg [.v (.bool false), .lst 1 [.v (.int .u32 1)], .lst 1 [.v (.int .u32 1)]]], .v (.slice none 0 0), .v (.slice none 0 0), .v (.slice none 0 0)]
def k42_v12 : AV := .agg [.v (.slice none 0 0), .lst 3 [.agg [.v (.bool false), .lst 1 [.v (.int .u32 1)], .lst 1 [.v (.int .u32 1)]]], .v (.slice none 0 0), .v (.slice none 0 0)]
def k42_v13 : AV := .agg [.v (.string ⟨⟨[98]⟩⟩), .v (.bool false), .lst 1 [.v (.int .u32 1)], .lst 1 [.v (.int .u32 1)], .v (.bool false), .v (.slice none 0 0), .v (.slice none 0 0)]
def k42_v14 : AV := .agg [.v (.string ⟨⟨[98]⟩⟩), .v (.bool false), .lst 1 [.v (.int .u32 3)], .lst 1 [.v (.int .u32 1)], .v (.bool false), .v (.slice none 0 0), .v (.slice none 0 0)]
def k42_v15 : AV := .agg [.v (.string ⟨⟨[98]⟩⟩), .v (.bool false), .lst 1 [.v (.int .u32 5)], .lst 1 [.v (.int .u32 1)], .v (.bool false), .v (.slice none 0 0), .v (.slice none 0 0)]
def k42_v16 : AV := .lst 7 [k42_v0, k42_v13]
def k42_v17 : AV := .lst 7 [k42_v0, k42_v14]
def k42_v18 : AV := .lst 7 [k42_v0, k42_v15]
def k42_v19 : AV := .lst 2 [k42_v10, k42_v9]
def k42_v20 : AV := .agg [k42_v2, .lst 3 [.agg [.v (.bool true), .lst 1 [.v (.int .u32 3)], .lst 1 [.v (.int .u32 5)]]], .lst 3 [], .lst 3 [.agg [.v (.bool false), .lst 1 [.v (.int .u32 3)], .lst 1 [.v (.int .u32 1)]]]]
def k42_v21 : AV := .agg [k42_v4, .lst 3 [.agg [.v (.bool true), .lst 1 [.v (.int .u32 3)], .lst 1 [.v (.int .u32 5)]]], .lst 3 [], .lst 3 [.agg [.v (.bool false), .lst 1 [.v (.int .u32 3)], .lst 1 [.v (.int .u32 1)]]]]
def k42_v22 : AV := .lst 4 [k42_v20]
def k42_v23 : AV := .lst 4 [k42_v21]
def k42_v24 : AV := .agg [k42_v4, .lst 3 [.agg [.v (.bool true), .lst 1 [.v (.int .u32 3)], .lst 1 [.v (.int .u32 5)]]], .v (.slice none 0 0), .lst 3 [.agg [.v (.bool false), .lst 1 [.v (.int .u32 3)], .lst 1 [.v (.int .u32 1)]]]]
def k42_v25 : AV := .agg [.v (.string ⟨⟨[114, 111, 100]⟩⟩), k42_v18]
def k42_v26 : AV := .agg [.v (.string ⟨⟨[99, 114, 97, 110, 107]⟩⟩), k42_v17]
def k42_v27 : AV := .agg [.v (.string ⟨⟨[102, 114, 97, 109, 101]⟩⟩), k42_v16]
def k42_v28 : AV := .lst 7 [k42_v5, k42_v6, k42_v7]
def k42_v29 : AV := .agg [.lst 1 [.lst 3 [.agg [.v (.bool false), .lst 1 [.v (.int .u32 16)], .lst 1 [.v (.int .u32 1)]]]], k42_v23, .v (.int .i64 1)]
def k42_v30 : AV := .agg [.lst 1 [.lst 3 [.agg [.v (.bool false), .lst 1 [.v (.int .u32 16)], .lst 1 [.v (.int .u32 1)]]]], k42_v22, .v (.int .i64 (-1))]
def k42_v31 : AV := .lst 4 [k42_v11, k42_v12, k42_v24]
def k42_v32 : AV := .agg [.lst 1 [.lst 3 [.agg [.v (.bool false), .lst 1 [.v (.int .u32 16)], .lst 1 [.v (.int .u32 1)]]]], k42_v31, .lst 1 [.v (.int .i64 1), .v (.int .i64 1)]]
def k42_v33 : AV := .lst 2 [k42_v27, k42_v26, k42_v25]
def k42_v34 : AV := .agg [.v (.string ⟨⟨[115, 108, 105, 100, 101, 114]⟩⟩), k42_v33, k42_v28, .lst 2 [.agg [.v (.string ⟨⟨[100]⟩⟩), .v (.int .i64 1)]]]
theorem k42_0 : Con Tryz.prog 43 [] [] (k42_v34) [] := ev_fn ⟨orF [] ((orcT te16 (orcG ck ck_ok ck_li))), feG Tryz.prog, mutF⟩ 6000 (base := 2000) (av := []) (by kernel_rfl)
def k42_l0 : List (Ent Tryz.prog) := ⟨_, _, _, _, k42_0⟩ :: []
theorem k42_1 : Con Tryz.prog 226 [.agg [.v (.slice none 0 0)], .lst 3 [], .lst 3 [.agg [.v (.bool false), .lst 1 [.v (.int .u32 1)], .lst 1 [.v (.int .u32 1)]]]] [] (.tup [.v (.slice none 0 0), .v .nilIface]) [] := ev_fn ⟨orF k42_l0 ((orcT te16 (orcG ck ck_ok ck_li))), feG Tryz.prog, mutF⟩ 6000 (base := 2000) (av := []) (by kernel_rfl)
def k42_l1 : List (Ent Tryz.prog) := ⟨_, _, _, _, k42_1⟩ :: k42_l0
theorem k42_2 : Con Tryz.prog 226 [.agg [.v (.slice none 0 0)], .lst 3 [.agg [.v (.bool false), .lst 1 [.v (.int .u32 1)], .lst 1 [.v (.int .u32 1)]]], .lst 3 [.agg [.v (.bool false), .lst 1 [.v (.int .u32 1)], .lst 1 [.v (.int .u32 1)]]]] [] (.tup [.ms 300 3 0 1, .v .nilIface]) [(300, some (.row 3 [.agg [.v (.bool false), .lst 1 [.v (.int .u32 1)], .lst 1 [.v (.int .u32 1)]]]))] := ev_fn ⟨orF k42_l1 ((orcT te16 (orcG ck ck_ok ck_li))), feG Tryz.prog, mutF⟩ 6000 (base := 2000) (av := []) (by kernel_rfl)
def k42_l2 : List (Ent Tryz.prog) := ⟨_, _, _, _, k42_2⟩ :: k42_l1
theorem k42_3 : Con Tryz.prog 122 [k42_v34, .v (.int .i64 0), .agg [.v (.bool false), .lst 1 [.v (.int .u32 1)], .lst 1 [.v (.int .u32 1)], .v (.bool false)], .agg [.v (.slice none 0 0), .lst 4 [k42_v11, .agg [.v (.slice none 0 0), .v (.slice none 0 0), .v (.slice none 0 0), .v (.slice none 0 0)], .agg [.v (.slice none 0 0), .v (.slice none 0 0), .v (.slice none 0 0), .v (.slice none 0 0)]], .v (.slice none 0 0)]] [] (.tup [.lst 3 [.agg [.v (.slice none 0 0), .lst 4 [k42_v8], .v (.int .i64 1)]], .v .nilIface]) [] := ev_fn ⟨orF k42_l2 ((orcT te16 (orcG ck ck_ok ck_li))), feG Tryz.prog, mutF⟩ 6000 (base := 2000) (av := []) (by kernel_rfl)
def k42_l3 : List (Ent Tryz.prog) := ⟨_, _, _, _, k42_3⟩ :: k42_l2
theorem k42_4 : Con Tryz.prog 226 [.agg [.lst 1 [.lst 3 [.agg [.v (.bool false), .lst 1 [.v (.int .u32 16)], .lst 1 [.v (.int .u32 1)]]]]], k42_v3, .lst 3 [.agg [.v (.bool false), .lst 1 [.v (.int .u32 1)], .lst 1 [.v (.int .u32 1)]]]] [] (.tup [.ms 300 3 0 2, .v .nilIface]) [(300, some (.row 3 [.agg [.v (.bool false), .lst 1 [], .lst 1 []], .agg [.v (.bool false), .lst 1 [.v (.int .u32 1)], .lst 1 [.v (.int .u32 1)]]]))] := ev_fn ⟨orF k42_l3 ((orcT te16 (orcG ck ck_ok ck_li))), feG Tryz.prog, mutF⟩ 6000 (base := 2000) (av := []) (by kernel_rfl)
def k42_l4 : List (Ent Tryz.prog) := ⟨_, _, _, _, k42_4⟩ :: k42_l3
theorem k42_5 : Con Tryz.prog 226 [.agg [.lst 1 [.lst 3 [.agg [.v (.bool false), .lst 1 [.v (.int .u32 16)], .lst 1 [.v (.int .u32 1)]]]]], k42_v1, .lst 3 [.agg [.v (.bool false), .lst 1 [.v (.int .u32 1)], .lst 1 [.v (.int .u32 1)]]]] [] (.tup [.ms 300 3 0 2, .v .nilIface]) [(300, some (.row 3 [.agg [.v (.bool false), .lst 1 [], .lst 1 []], .agg [.v (.bool true), .lst 1 [.v (.int .u32 1)], .lst 1 [.v (.int .u32 1)]]]))] := ev_fn ⟨orF k42_l4 ((orcT te16 (orcG ck ck_ok ck_li))), feG Tryz.prog, mutF⟩ 6000 (base := 2000) (av := []) (by kernel_rfl)
def k42_l5 : List (Ent Tryz.prog) := ⟨_, _, _, _, k42_5⟩ :: k42_l4
theorem k42_6 : Con Tryz.prog 255 [.agg [.v (.slice none 0 0)], .agg [.lst 3 [], .lst 3 [.agg [.v (.bool false), .lst 1 [.v (.int .u32 3)], .lst 1 [.v (.int .u32 1)]]], .lst 3 [.agg [.v (.bool false), .lst 1 [.v (.int .u32 25)], .lst 1 [.v (.int .u32 1)]]]], .agg [.lst 3 [], .lst 3 []], .agg [.lst 3 [.agg [.v (.bool false), .lst 1 [.v (.int .u32 1)], .lst 1 [.v (.int .u32 1)]]], .lst 3 []]] [] (.tup [.agg [.ms 301 1 0 1, k42_v19], .v .nilIface]) [(301, some (.row 1 [.lst 3 [.agg [.v (.bool false), .lst 1 [.v (.int .u32 16)], .lst 1 [.v (.int .u32 1)]]]]))] := ev_fn ⟨orF k42_l5 ((orcT te16 (orcG ck ck_ok ck_li))), feG Tryz.prog, mutF⟩ 6000 (base := 2000) (av := []) (by kernel_rfl)
def k42_l6 : List (Ent Tryz.prog) := ⟨_, _, _, _, k42_6⟩ :: k42_l5
theorem k42_7 : Con Tryz.prog 226 [.agg [.lst 1 [.lst 3 [.agg [.v (.bool false), .lst 1 [.v (.int .u32 16)], .lst 1 [.v (.int .u32 1)]]]]], .lst 3 [.agg [.v (.bool false), .lst 1 [], .lst 1 []], .agg [.v (.bool false), .lst 1 [.v (.int .u32 5)], .lst 1 [.v (.int .u32 1)]]], .lst 3 [.agg [.v (.bool false), .lst 1 [.v (.int .u32 25)], .lst 1 [.v (.int .u32 1)]]]] [] (.tup [.ms 300 3 0 2, .v .nilIface]) [(300, some (.row 3 [.agg [.v (.bool false), .lst 1 [], .lst 1 []], .agg [.v (.bool false), .lst 1 [.v (.int .u32 1)], .lst 1 [.v (.int .u32 5)]]]))] := ev_fn ⟨orF k42_l6 ((orcT te16 (orcG ck ck_ok ck_li))), feG Tryz.prog, mutF⟩ 6000 (base := 2000) (av := []) (by kernel_rfl)
def k42_l7 : List (Ent Tryz.prog) := ⟨_, _, _, _, k42_7⟩ :: k42_l6
theorem k42_8 : Con Tryz.prog 226 [.agg [.lst 1 [.lst 3 [.agg [.v (.bool false), .lst 1 [.v (.int .u32 16)], .lst 1 [.v (.int .u32 1)]]]]], .lst 3 [.agg [.v (.bool true), .lst 1 [.v (.int .u32 15)], .lst 1 [.v (.int .u32 1)]]], .lst 3 [.agg [.v (.bool false), .lst 1 [.v (.int .u32 25)], .lst 1 [.v (.int .u32 1)]]]] [] (.tup [.ms 300 3 0 1, .v .nilIface]) [(300, some (.row 3 [.agg [.v (.bool true), .lst 1 [.v (.int .u32 3)], .lst 1 [.v (.int .u32 5)]]]))] := ev_fn ⟨orF k42_l7 ((orcT te16 (orcG ck ck_ok ck_li))), feG Tryz.prog, mutF⟩ 6000 (base := 2000) (av := []) (by kernel_rfl)
def k42_l8 : List (Ent Tryz.prog) := ⟨_, _, _, _, k42_8⟩ :: k42_l7
theorem k42_9 : Con Tryz.prog 226 [.agg [.lst 1 [.lst 3 [.agg [.v (.bool false), .lst 1 [.v (.int .u32 16)], .lst 1 [.v (.int .u32 1)]]]]], .lst 3 [.agg [.v (.bool false), .lst 1 [], .lst 1 []], .agg [.v (.bool true), .lst 1 [.v (.int .u32 5)], .lst 1 [.v (.int .u32 1)]]], .lst 3 [.agg [.v (.bool false), .lst 1 [.v (.int .u32 25)], .lst 1 [.v (.int .u32 1)]]]] [] (.tup [.ms 300 3 0 2, .v .nilIface]) [(300, some (.row 3 [.agg [.v (.bool false), .lst 1 [], .lst 1 []], .agg [.v (.bool true), .lst 1 [.v (.int .u32 1)], .lst 1 [.v (.int .u32 5)]]]))] := ev_fn ⟨orF k42_l8 ((orcT te16 (orcG ck ck_ok ck_li))), feG Tryz.prog, mutF⟩ 6000 (base := 2000) (av := []) (by kernel_rfl)
def k42_l9 : List (Ent Tryz.prog) := ⟨_, _, _, _, k42_9⟩ :: k42_l8
theorem k42_10 : Con Tryz.prog 253 [.agg [.lst 1 [.lst 3 [.agg [.v (.bool false), .lst 1 [.v (.int .u32 16)], .lst 1 [.v (.int .u32 1)]]]], k42_v19], .lst 14 [.agg [.v (.bool false), .lst 1 [], .lst 1 [], .v (.bool false), .v (.slice none 0 0), .v (.slice none 0 0), .lst 3 [], .lst 3 [.agg [.v (.bool false), .lst 1 [.v (.int .u32 3)], .lst 1 [.v (.int .u32 1)]]], .v (.bool false), .lst 1 [.v (.int .u32 5)], .lst 1 [.v (.int .u32 1)], .v (.bool false), .v (.slice none 0 0), .v (.slice none 0 0)]]] [] (.tup [.ms 300 3 0 2, .v .nilIface]) [(300, some (.row 3 [k42_v29, k42_v30]))] := ev_fn ⟨orF k42_l9 ((orcT te16 (orcG ck ck_ok ck_li))), feG Tryz.prog, mutF⟩ 6000 (base := 2000) (av := []) (by kernel_rfl)
def k42_l10 : List (Ent Tryz.prog) := ⟨_, _, _, _, k42_10⟩ :: k42_l9
theorem k42_11 : Con Tryz.prog 122 [k42_v34, .v (.int .i64 1), .agg [.v (.bool false), .v (.slice none 0 0), .v (.slice none 0 0), .v (.bool false)], .agg [.v (.slice none 0 0), .lst 4 [k42_v11, k42_v8, .agg [.v (.slice none 0 0), .v (.slice none 0 0), .v (.slice none 0 0), .v (.slice none 0 0)]], .lst 1 [.v (.int .i64 1)]]] [] (.tup [.ms 300 3 0 2, .v .nilIface]) [(300, some (.row 3 [k42_v29, k42_v30]))] := ev_fn ⟨orF k42_l10 ((orcT te16 (orcG ck ck_ok ck_li))), feG Tryz.prog, mutF⟩ 6000 (base := 2000) (av := []) (by kernel_rfl)
def k42_l11 : List (Ent Tryz.prog) := ⟨_, _, _, _, k42_11⟩ :: k42_l10
theorem k42_12 : Con Tryz.prog 178 [.lst 3 [.agg [.v (.bool false), .lst 1 [.v (.int .u32 16)], .lst 1 [.v (.int .u32 1)]]]] [] (.ms 300 3 0 1) [(300, some (.row 3 [.agg [.v (.bool false), .lst 1 [.v (.int .u32 16)], .lst 1 [.v (.int .u32 1)]]]))] := ev_fn ⟨orF k42_l11 ((orcT te16 (orcG ck ck_ok ck_li))), feG Tryz.prog, mutF⟩ 6000 (base := 2000) (av := []) (by kernel_rfl)
def k42_l12 : List (Ent Tryz.prog) := ⟨_, _, _, _, k42_12⟩ :: k42_l11
theorem k42_13 : Con Tryz.prog 178 [.lst 3 [.agg [.v (.bool false), .lst 1 [.v (.int .u32 1)], .lst 1 [.v (.int .u32 1)]]]] [] (.ms 300 3 0 1) [(300, some (.row 3 [.agg [.v (.bool false), .lst 1 [.v (.int .u32 1)], .lst 1 [.v (.int .u32 1)]]]))] := ev_fn ⟨orF k42_l12 ((orcT te16 (orcG ck ck_ok ck_li))), feG Tryz.prog, mutF⟩ 6000 (base := 2000) (av := []) (by kernel_rfl)
def k42_l13 : List (Ent Tryz.prog) := ⟨_, _, _, _, k42_13⟩ :: k42_l12
theorem k42_14 : Con Tryz.prog 178 [.v (.slice none 0 0)] [] (.v (.slice none 0 0)) [] := ev_fn ⟨orF k42_l13 ((orcT te16 (orcG ck ck_ok ck_li))), feG Tryz.prog, mutF⟩ 6000 (base := 2000) (av := []) (by kernel_rfl)
def k42_l14 : List (Ent Tryz.prog) := ⟨_, _, _, _, k42_14⟩ :: k42_l13
theorem k42_15 : Con Tryz.prog 178 [.lst 3 []] [] (.v (.slice none 0 0)) [] := ev_fn ⟨orF k42_l14 ((orcT te16 (orcG ck ck_ok ck_li))), feG Tryz.prog, mutF⟩ 6000 (base := 2000) (av := []) (by kernel_rfl)
def k42_l15 : List (Ent Tryz.prog) := ⟨_, _, _, _, k42_15⟩ :: k42_l14
theorem k42_16 : Con Tryz.prog 178 [k42_v4] [] (.ms 300 3 0 2) [(300, some (.row 3 [.agg [.v (.bool false), .lst 1 [], .lst 1 []], .agg [.v (.bool false), .lst 1 [.v (.int .u32 1)], .lst 1 [.v (.int .u32 5)]]]))] := ev_fn ⟨orF k42_l15 ((orcT te16 (orcG ck ck_ok ck_li))), feG Tryz.prog, mutF⟩ 6000 (base := 2000) (av := []) (by kernel_rfl)
def k42_l16 : List (Ent Tryz.prog) := ⟨_, _, _, _, k42_16⟩ :: k42_l15
theorem k42_17 : Con Tryz.prog 178 [.lst 3 [.agg [.v (.bool true), .lst 1 [.v (.int .u32 3)], .lst 1 [.v (.int .u32 5)]]]] [] (.ms 300 3 0 1) [(300, some (.row 3 [.agg [.v (.bool true), .lst 1 [.v (.int .u32 3)], .lst 1 [.v (.int .u32 5)]]]))] := ev_fn ⟨orF k42_l16 ((orcT te16 (orcG ck ck_ok ck_li))), feG Tryz.prog, mutF⟩ 6000 (base := 2000) (av := []) (by kernel_rfl)
def k42_l17 : List (Ent Tryz.prog) := ⟨_, _, _, _, k42_17⟩ :: k42_l16
theorem k42_18 : Con Tryz.prog 178 [.lst 3 [.agg [.v (.bool false), .lst 1 [.v (.int .u32 3)], .lst 1 [.v (.int .u32 1)]]]] [] (.ms 300 3 0 1) [(300, some (.row 3 [.agg [.v (.bool false), .lst 1 [.v (.int .u32 3)], .lst 1 [.v (.int .u32 1)]]]))] := ev_fn ⟨orF k42_l17 ((orcT te16 (orcG ck ck_ok ck_li))), feG Tryz.prog, mutF⟩ 6000 (base := 2000) (av := []) (by kernel_rfl)
def k42_l18 : List (Ent Tryz.prog) := ⟨_, _, _, _, k42_18⟩ :: k42_l17
theorem k42_19 : Con Tryz.prog 42 [k42_v34, .lst 4 [.agg [.v (.bool false), .lst 1 [.v (.int .u32 1)], .lst 1 [.v (.int .u32 1)], .v (.bool false)]], .lst 1 [.v (.int .i64 1), .v (.int .i64 1)]] [] (.tup [k42_v32, .v .nilIface]) [] := ev_fn ⟨orF k42_l18 ((orcT te16 (orcG ck ck_ok ck_li))), feG Tryz.prog, mutF⟩ 6000 (base := 2000) (av := []) (by kernel_rfl)
def k42_l19 : List (Ent Tryz.prog) := ⟨_, _, _, _, k42_19⟩ :: k42_l18
theorem k42_20 : Con Tryz.prog 84 [k42_v34, .lst 4 [.agg [.v (.bool false), .lst 1 [.v (.int .u32 1)], .lst 1 [.v (.int .u32 1)], .v (.bool false)]], k42_v32] [] (.tup [.v (.bool true), .agg [.v (.int .i64 0), .v (.int .i64 0)], .v .nilIface]) [] := ev_fn ⟨orF k42_l19 ((orcT te16 (orcG ck ck_ok ck_li))), feG Tryz.prog, mutF⟩ 6000 (base := 2000) (av := []) (by kernel_rfl)
def k42_l20 : List (Ent Tryz.prog) := ⟨_, _, _, _, k42_20⟩ :: k42_l19
theorem k42_21 : Con Tryz.prog 290 [k42_v34, .v (.int .i64 0), k42_v32] [] (.tup [.lst 3 [.agg [.v (.bool false), .lst 1 [.v (.int .u32 1)], .lst 1 [.v (.int .u32 1)]]], .v .nilIface]) [] := ev_fn ⟨orF k42_l20 ((orcT te16 (orcG ck ck_ok ck_li))), feG Tryz.prog, mutF⟩ 6000 (base := 2000) (av := []) (by kernel_rfl)
def k42_l21 : List (Ent Tryz.prog) := ⟨_, _, _, _, k42_21⟩ :: k42_l20
theorem k42_22 : Con Tryz.prog 290 [k42_v34, .v (.int .i64 1), k42_v32] [] (.tup [k42_v3, .v .nilIface]) [] := ev_fn ⟨orF k42_l21 ((orcT te16 (orcG ck ck_ok ck_li))), feG Tryz.prog, mutF⟩ 6000 (base := 2000) (av := []) (by kernel_rfl)
def k42_l22 : List (Ent Tryz.prog) := ⟨_, _, _, _, k42_22⟩ :: k42_l21
theorem k42_23 : Con Tryz.prog 85 [k42_v34, .lst 4 [.agg [.v (.bool false), .lst 1 [.v (.int .u32 1)], .lst 1 [.v (.int .u32 1)], .v (.bool false)]], k42_v32] [] (.tup [.v (.slice none 0 0), .v .nilIface]) [] := ev_fn ⟨orF k42_l22 ((orcT te16 (orcG ck ck_ok ck_li))), feG Tryz.prog, mutF⟩ 6000 (base := 2000) (av := []) (by kernel_rfl)
def k42_l23 : List (Ent Tryz.prog) := ⟨_, _, _, _, k42_23⟩ :: k42_l22
theorem k42_24 : Con Tryz.prog 226 [.agg [.lst 1 [.lst 3 [.agg [.v (.bool false), .lst 1 [.v (.int .u32 16)], .lst 1 [.v (.int .u32 1)]]]]], .lst 3 [], k42_v3] [] (.tup [.v (.slice none 0 0), .v .nilIface]) [] := ev_fn ⟨orF k42_l23 ((orcT te16 (orcG ck ck_ok ck_li))), feG Tryz.prog, mutF⟩ 6000 (base := 2000) (av := []) (by kernel_rfl)
def k42_l24 : List (Ent Tryz.prog) := ⟨_, _, _, _, k42_24⟩ :: k42_l23
theorem k42_25 : Con Tryz.prog 44 [k42_v34, .lst 4 [.agg [.v (.bool false), .lst 1 [.v (.int .u32 1)], .lst 1 [.v (.int .u32 1)], .v (.bool false)]], k42_v32, .v (.int .i64 0)] [] (.tup [.ms 300 3 0 3, .v .nilIface]) [(300, some (.row 3 [.agg [.v (.slice none 0 0), .v (.slice none 0 0), .v (.slice none 0 0)], .agg [.lst 3 [.agg [.v (.bool false), .lst 1 [.v (.int .u32 1)], .lst 1 [.v (.int .u32 1)]]], .lst 3 [], .lst 3 []], .agg [.lst 3 [], .lst 3 [.agg [.v (.bool true), .lst 1 [.v (.int .u32 3)], .lst 1 [.v (.int .u32 1)]]], .lst 3 []]]))] := ev_fn ⟨orF k42_l24 ((orcT te16 (orcG ck ck_ok ck_li))), feG Tryz.prog, mutF⟩ 6000 (base := 2000) (av := []) (by kernel_rfl)
def k42_l25 : List (Ent Tryz.prog) := ⟨_, _, _, _, k42_25⟩ :: k42_l24
theorem k42_26 : Con Tryz.prog 17 [k42_v32, .lst 3 [.agg [.v (.slice none 0 0), .v (.slice none 0 0), .v (.slice none 0 0)], .agg [.lst 3 [.agg [.v (.bool false), .lst 1 [.v (.int .u32 1)], .lst 1 [.v (.int .u32 1)]]], .lst 3 [], .lst 3 []], .agg [.lst 3 [], .lst 3 [.agg [.v (.bool true), .lst 1 [.v (.int .u32 3)], .lst 1 [.v (.int .u32 1)]]], .lst 3 []]], .v (.int .i64 2), .agg [.v (.bool false), .lst 1 [.v (.int .u32 5)], .lst 1 [.v (.int .u32 1)]], .agg [.v (.bool false), .v (.slice none 0 0), .v (.slice none 0 0)]] [] (.tup [.agg [.lst 3 [.agg [.v (.bool true), .lst 1 [.v (.int .u32 3)], .lst 1 [.v (.int .u32 1)]]], .lst 3 []], .v .nilIface]) [] := ev_fn ⟨orF k42_l25 ((orcT te16 (orcG ck ck_ok ck_li))), feG Tryz.prog, mutF⟩ 6000 (base := 2000) (av := []) (by kernel_rfl)
def k42_l26 : List (Ent Tryz.prog) := ⟨_, _, _, _, k42_26⟩ :: k42_l25
theorem c_l42_awake : FnC Tryz.prog 14 [] (bl true) := ev_fn ⟨orF k42_l26 ((orcT te16 (orcG ck ck_ok ck_li))), feG Tryz.prog, mutF⟩ 6000 (base := 2000) (av := []) (by kernel_rfl)
end Go.Lw
namespace Go.Lw
open Go.Proofs
theorem lwA_f {p q s : Bool} (h : cond (cond (cond (!true) true (!p)) true (!q)) true (!s) = false) : p = true /\ q = true /\ s = true := by cases p <;> cases q <;> cases s <;> simp_all
theorem eqs_refl (z : Int) : icmp .eql z z = true := by simp [icmp]
abbrev atvA (k : Int) (px py : List Rt) (x y : Rt) : List AV := [i64 k, nR px, nR py, bl x.neg, ws x.num, ws x.den, bl y.neg, ws y.num, ws y.den]
theorem c_law_VelAt (a : As) (ha : a.ok) (r : List Vr) (hr : ∀ x ∈ r, RsOk x.l) (hrl : r.length <= 281474976710656) (k : Int) (px py : List Rt) (hpp : RsOk [px, py]) (x y : Rt) (hxw : x.wok) (hyw : y.wok) :
  FnC Tryz.prog 4 [a.av, .lst 3 (r.map Vr.av), .agg (atvA k px py x y)] (bl true) := by
 refine gF0 Tryz.func4 ?_
 refine gc c_l42_awake ?_
 refine gcG (fun _ => (c_l42_Light a ha r hr hrl)) ?_
 refine gcG (fun _ => (c_l11_Light a.rs [px, py] ha.rs hpp ha.rl (by show 2 <= 100; omega))) ?_
 refine gcG (fun _ => (Con.subA (.cons (Sub.agg (.cons (Sub.nil 1 none 0) .nil) rfl) (.cons (.refl _) .nil)) (c_l11_Light [] [[x, y]] rs_nil (rs_xy hxw hyw) (by show 0 <= _; omega) (by show 1 <= 100; omega)))) ?_
 refine gC (fun ht44 => ?_) (fun ht44 => ?_)
 ·refine gc c_l42_awake ?_
  refine gE1 ?_
  first | rfl | (simp; done)
 ·obtain ⟨h1, h2, h3⟩ := lwA_f ht44
  obtain ⟨⟨hx, hy⟩, qx, qy⟩ := light_xy h3 hxw hyw
  have vl := vl_of h1 ha hr
  have hlt := light_lt h2 ha.rs hpp
  have hp := hlt.nr px (by simp)
  have hq := hlt.nr py (by simp)
  refine gc (c_vel_At a r vl k px py 4000 hp hq (by omega)) ?_
  refine gc (c_vel_Point a r vl k x y hx hy qx qy) ?_
  refine gc (c_r42_Bad a r vl) ?_
  refine glG ?_
  refine gJ1 [1, 3, 5, 7, 8, 9, 10] [3, 5, 7, 9] (fun (c : Nat) => [(11, some (i64 c))]) (fun _ => []) (fun c => c = vpE a r k) ?_ ?_
  ·intro K1 hK1
   refine gC (fun ht84 => ?_) (fun ht84 => ?_)
   ·obtain ⟨h4, h5⟩ := ixw_t ht84
    exact jK1 hK1 9 ((vp_2 h4 h5).symm)
   ·have h4 := ixw_f ht84
    exact jK1 hK1 (velE a r) (by unfold vpE; split; rfl; (rename_i h6; rcases h4 with h4 | h4; exact absurd h4 h6; (rw [if_neg h4]; omega)))
  ·rintro c hc
   refine gC (fun ht86 => ?_) (fun ht86 => ?_)
   ·subst hc
    have h4 := neq_t ht86
    have h5 := vat_vp (px := px) (py := py) h4
    have h6 : vatE a r k px py ≠ 0 := by rw [h5]; exact h4
    rw [vax_0 h6, vay_0 h6, vpx_0 h4, vpy_0 h4, h5]
    refine gl ?_
    refine gl ?_
    refine ga rfl ?_
    refine gl ?_
    refine ga rfl ?_
    refine gl ?_
    refine ga rfl ?_
    refine gcG (fun _ => (c_base_Num (vpE a r k))) ?_
    refine gcG (fun _ => (c_base_Num (vpE a r k))) ?_
    refine gE1 ?_
    simp only [eqs_refl]; rfl
   ·subst hc
    have h4 := neq_f ht86
    obtain ⟨i, v, b, rfl, hv, hb, h5⟩ := vp_0 h4
    have hbm := List.mem_of_getElem? hb
    have hvm := List.mem_of_getElem? hv
    have hnr := vl.al.nr b hbm
    have h6 := (vel_ok h5).chk
    have h7 := (vel_ok h5).bs b hbm
    obtain ⟨nx, ny, hc⟩ := wh_num vl.al h6 hnr h7 qx qy
    have pz := pz_of (vl.al.ct h6) nx ny (Nat.le_refl _) hc
    have hR := r42_atR vl h5 hvm pz
    have hE := va_eq vl h5 hvm pz
    have hw := c_r11_AtR a.rs 40000 4000 vl.al.tr h6 b hnr h7 x y hx hy qx qy (al_sz vl.al h6)
    rw [<- wh_pt] at hw
    have hva : vatE a r i px py = chksE a.rs [px, py] := vat_3 h5 (by have := (List.getElem?_eq_some_iff.1 hv).1; omega)
    rw [vpx_1 h4 hv hb, vpy_1 h4 hv hb, h4]
    refine gi (getmap hb) ?_
    refine gc hw ?_
    refine gD ?_
    refine giG (fun _ => (getmap hv)) ?_
    refine gcG (fun _ => hR) ?_
    refine gcG (fun _ => hE) ?_
    refine gD ?_
    refine gC (fun ht145 => ?_) (fun ht145 => ?_) (st1 := (12, 0))
    ·cases ht145
    ·refine gc (c_r11_Bad a.rs 40000 4000 vl.al.tr [px, py] hlt.nr (e4_lm _) (by show 2 <= 1000; omega)) ?_
     refine gC (fun ht157 => ?_) (fun ht157 => ?_)
     ·have h8 := neq_t ht157
      have h9 : vatE a r i px py ≠ 0 := by rw [hva]; exact h8
      rw [vax_0 h9, vay_0 h9, hva]
      refine gl ?_
      refine gl ?_
      refine ga rfl ?_
      refine gcG (fun _ => (c_base_Num (chksE a.rs [px, py]))) ?_
      refine gE1 ?_
      simp only [eqs_refl]; rfl
     ·have h8 := neq_f ht157
      have pz2 := pz_of (vl.al.ct h6) hp hq (by omega) h8
      have hR2 := r42_atR vl h5 hvm pz2
      have hE2 := va_eq vl h5 hvm pz2
      have h9 : vatE a r i px py = 0 := hva.trans h8
      rw [vax_1 h9 hv, vay_1 h9 hv, h9]
      refine giG (fun _ => (getmap hv)) ?_
      refine gcG (fun _ => hR2) ?_
      refine gcG (fun _ => hE2) ?_
      refine gD ?_
      refine gE1 ?_
      first | rfl | (simp; done)
end Go.Lw
namespace Go.Lw
open Go.Proofs Go.Proofs.YtohejbfhhanckaaGreat
open Go.ChangeShapes Go.WideShapes Go.ChangeAt Go.RowKit
set_option maxRecDepth 100000 in
theorem velocityAt_lifted (os : Os) (started : os.Started) (H : Type) (enc : TypeId × Value -> H) :
  ReturnsInHanded {} Tryz.checked os 4 .any (Rows.velocityAtSpec.pre6 enc Tryz.prog Tryz.f4 Rows.velocityAtRow.domain false) (Rows.velocityAtSpec.post enc Tryz.prog Tryz.f4 false true false false) := by
 refine returnsInHanded_of_change_sized (C := Tryz.checked) own started (by kernel_rfl) Tryz.func4
  (ChangeSpec.witness6 (enc := enc) (C := Tryz.checked) false ⟨#[], #[.agg #[.slice none 0 0, .slice none 0 0, .slice none 0 0], .slice none 0 0, .agg #[.int .i64 0, .slice none 0 0, .slice none 0 0, .bool false, .slice none 0 0, .slice none 0 0, .bool false, .slice none 0 0, .slice none 0 0]], []⟩ 8 (by kernel_rfl) (by kernel_rfl) (by kernel_rfl) (by kernel_rfl)) ?_
 intro W base args ds gs before hval0 hW hcnd hwt0 _
 have hval : ∀ (j : Nat) t v, Tryz.f4.params[j]? = some t -> args[j]? = some v -> Value.okWide Tryz.prog W .any base t v := hval0
 have hwt : (DataW.weightsEach Tryz.prog (Tryz.f4.params.toList ++ Rows.velocityAtSpec.plain.varTypes Tryz.prog) (ds ++ gs)).all (· <= reachBytes) = true := hwt0
 have hW' := hW
 obtain ⟨p, q, hA0, hV, rfl, hfz, hnd⟩ := hW
 have hA : DataW.TrodAll enc Tryz.prog W 0 (fun _ => true) true Tryz.f4.params.toList args.toList ds p := hA0
 rw [Tryz.params4] at hA hval hwt
 obtain ⟨v0, v1, v2, d0, d1, d2, p0, p1, p2, rfl, rfl, rfl, h0, h1, h2⟩ := trodAll_three hA
 obtain ⟨rfl, rfl⟩ := trodVars_none hV
 clear hA0 hval0 hwt0
 have hlt : ∀ x ∈ p0 ++ p1 ++ p2, x.block < W.heap.size := fun x hx => hW'.lt x (by simpa using hx)
 have hw0 : ∀ n ∈ d0.weights Tryz.prog 28, n <= reachBytes := fun n hn => by
  have := List.all_eq_true.1 hwt n (DataW.weights_mem_each (j := 0) rfl rfl n hn)
  simpa using this
 have hw1 : ∀ n ∈ d1.weights Tryz.prog 51, n <= reachBytes := fun n hn => by
  have := List.all_eq_true.1 hwt n (DataW.weights_mem_each (j := 1) rfl rfl n hn)
  simpa using this
 have hw2 : ∀ n ∈ d2.weights Tryz.prog 53, n <= reachBytes := fun n hn => by
  have := List.all_eq_true.1 hwt n (DataW.weights_mem_each (j := 2) rfl rfl n hn)
  simpa using this
 obtain ⟨x0, q0, r0⟩ := arg_agg Tryz.underlying28 op_asm (hval 0 28 v0 rfl rfl) h0 hw0
 obtain ⟨x1, q1, r1⟩ := arg_one op_rates (fun _ => rfl) (notAgg_slice Tryz.underlying51 (hval 1 51 v1 rfl rfl)) h1 hw1
 obtain ⟨x2, q2, r2⟩ := arg_agg Tryz.underlying53 op_atv (hval 2 53 v2 rfl rfl) h2 hw2
 have hc := FnC.calls (W := W) (vs := #[v0, v1, v2]) (c_law_VelAt x0 q0 x1 q1.1 q1.2 x2.k x2.px x2.py q2.1 x2.x x2.y q2.2.1 q2.2.2) rfl (fun j v x hv hx => by
  match j, hv, hx with
  | 0, hv, hx => cases hv; cases hx; exact r0
  | 1, hv, hx => cases hv; cases hx; exact r1
  | 2, hv, hx => cases hv; cases hx; exact r2)
 refine hc.mono fun e W' ⟨he, hb⟩ => ?_
 subst he
 refine ⟨_, rfl, post_of_below hW' rfl rfl (fun _ _ _ => trodAll_mk1 (shut_bool Tryz.underlying4 _)) (fun sp hsp => ?_) rfl hb (ok_one (by kernel_rfl) rfl (okWide_bool_mk Tryz.underlying4 _))⟩
 rw [Tryz.params4]
 have hs : ∀ x ∈ p0 ++ p1 ++ p2, sp x.block = true := fun x hx => hsp x (by simpa using hx)
 have g0 := arg_back (sp' := sp) (by kernel_rfl) (of_decide_eq_true (by kernel_rfl)) h0 hb (fun x hx => hlt x (by simp [hx])) (fun x hx => hs x (by simp [hx]))
 have g1 := arg_back (sp' := sp) (by kernel_rfl) (of_decide_eq_true (by kernel_rfl)) h1 hb (fun x hx => hlt x (by simp [hx])) (fun x hx => hs x (by simp [hx]))
 have g2 := arg_back (sp' := sp) (by kernel_rfl) (of_decide_eq_true (by kernel_rfl)) h2 hb (fun x hx => hlt x (by simp [hx])) (fun x hx => hs x (by simp [hx]))
 have g := trodAll_mk3 g0 g1 g2
 rw [show p0 ++ p1 ++ p2 ++ [] = p0 ++ (p1 ++ p2) from by simp]
 exact g
set_option maxRecDepth 100000 in
theorem velocityAt_clo : Tryz.prog.closure 4 = [4, 14, 33, 68, 130, 191, 69, 67, 126, 185, 265, 186, 127, 128, 187, 266, 271, 269, 267, 268, 189, 129, 188, 270, 190, 43, 82, 42, 63, 83, 145, 55, 106, 167, 233, 234, 299, 107, 134, 195, 197, 274, 276, 273, 294, 334, 335, 361, 336, 337, 348, 338, 339, 225, 152, 151, 196, 201, 275, 108, 168, 169, 235, 200, 222, 293, 109, 207, 282, 340, 367, 342, 370, 371, 369, 283, 341, 368, 344, 343, 284, 146, 208, 119, 136, 120, 81, 65, 88, 150, 223, 224, 291, 292, 87, 149, 221, 135, 133, 198, 199, 64, 121, 177, 178, 123, 122, 179, 36, 71, 72, 137, 203, 278, 279, 280, 277, 202, 157, 228, 241, 301, 351, 242, 303, 362, 302, 352, 358, 378, 353, 373, 354, 374, 375, 355, 376, 377, 379, 356, 357, 359, 360, 92, 156, 180, 243, 304, 313, 363, 349, 372, 244, 245, 305, 306, 37, 73, 75, 74, 140, 159, 204, 139, 158, 141, 160, 138, 76, 93, 246, 307, 312, 227, 171, 236, 296, 260, 263, 226, 295, 114, 172, 261, 308, 247, 181, 248, 309, 250, 249, 310, 364, 311, 252, 251, 314, 326, 47, 327, 110, 315, 365, 170, 328, 323, 319, 329, 320, 316, 317, 318, 366, 321, 322, 324, 259, 332, 333, 253, 264, 182, 254, 325, 255, 183, 256, 330, 112, 257, 331, 258, 262, 124, 184, 44, 84, 147, 210, 211, 285, 286, 345, 212, 209, 214, 215, 287, 288, 289, 346, 213, 217, 218, 216, 85, 148, 219, 220, 290, 347, 86, 57, 111, 59, 48, 95, 113, 94, 96, 89, 90, 58, 60, 154, 153, 91, 155, 17, 46, 16, 22, 51, 79, 38, 77, 142, 143, 205, 206, 281, 193, 78, 101, 162, 131, 192, 144, 80, 102, 163, 194, 272, 99, 132, 100, 161, 34, 70, 12, 24, 52, 15, 45, 35, 8, 18, 10, 39, 11, 13, 41, 26, 53, 49, 97, 50, 98, 40, 19] := by kernel_rfl
theorem velocityAt_closed : joinedFacts Tryz.prog 4 Tryz.f4 Rows.velocityAtSpec Rows.velocityAtRow = true := by
 unfold joinedFacts Program.recurses Program.inPlace Program.unfollowed Program.varsNamed
 rw [velocityAt_clo, laidOut, pw_heard, pw_plain, pw_maps, pw_enter, pw_final]
 kernel_rfl
theorem velocityAt_holds : Rows.VelocityAtSaid :=
 OpenClaim.holds_of_wide 4 Tryz.f4 rfl rfl rfl rfl rfl rfl rfl ⟨rfl, rfl, rfl, rfl, rfl⟩ rfl rfl rfl rfl rfl (by kernel_rfl) Tryz.func4 velocityAt_closed
  (of_decide_eq_true (by kernel_rfl)) (by unfold Func.isWrapper; first | (rw [if_pos (by decide +kernel)]; kernel_rfl) | (rw [if_neg (by decide +kernel)]; exact ⟨rfl, rfl⟩))
  (fun os started H enc _ => velocityAt_lifted os started H enc)
end Go.Lw
namespace Go.Lw
open Go.Proofs
theorem c_base_Clip (x lo hi : Int) : FnC Tryz.prog 20 [i64 x, i64 lo, i64 hi] (i64 (max lo (min x hi))) := by
 refine gF0 Tryz.func20 ?_
 refine gs (s_min (.tmp rfl) (.tmp rfl) rfl) ?_
 refine gs (s_max (.tmp rfl) (.tmp rfl) rfl) ?_
 refine gE1 ?_
 first | rfl | (simp; done)
def clipN (n : Nat) (k : Int) : Nat := (max 0 (min k ((n - 1 : Nat) : Int))).toNat
theorem clip_lt {n : Nat} (h : 0 < n) (k : Int) : clipN n k < n := by unfold clipN; omega
theorem clip_at (n : Nat) (k : Int) : FnC Tryz.prog 20 [i64 k, i64 0, i64 ((n - 1 : Nat) : Int)] (i64 (clipN n k : Nat)) := by
 have h := c_base_Clip k 0 ((n - 1 : Nat) : Int)
 rw [show ((clipN n k : Nat) : Int) = max 0 (min k ((n - 1 : Nat) : Int)) from by unfold clipN; omega]
 exact h
section
variable {a : As} {r : List Vr} {v : Vr} {px py px2 py2 : List Rt}
abbrev tR (a : As) : List (List Rat) := llq a.rs
abbrev veX (a : As) (v : Vr) (py : List Rt) : Et (tR a) := dE (tR a) (lq v.x) - dE (tR a) (lq v.w) * dE (tR a) (lq py)
abbrev veY (a : As) (v : Vr) (px : List Rt) : Et (tR a) := dE (tR a) (lq v.y) + dE (tR a) (lq v.w) * dE (tR a) (lq px)
abbrev wyE (a : As) (q p : List Rt) : Et (tR a) := dE (tR a) (lq q) - dE (tR a) (lq p)
theorem vat0 (vl : VL a r) (h : velE a r = 0) {i : Nat} (hi : i < r.length) (hv : r[i]? = some v) (p1 : PZ a.rs px py) (hp : NR px 4000) (hq : NR py 4000) (hc : chksE a.rs [px, py] = 0) :
  FnC Tryz.prog 16 [a.av, .lst 3 (r.map Vr.av), i64 (i : Nat), ptR px py] (.tup [ptA (sX (veX a v py)) (sX (veY a v px)), .v .nilIface]) := by
 have h1 := c_vel_At a r vl (i : Nat) px py 4000 hp hq (by omega)
 have h2 : vatE a r (i : Nat) px py = 0 := by rw [vat_3 h (by omega)]; exact hc
 have h1 : FnC Tryz.prog 16 [a.av, .lst 3 (r.map Vr.av), i64 (i : Nat), ptR px py] (.tup [.agg [nA (vaxL a r (i : Nat) px py), nA (vayL a r (i : Nat) px py)], errA (vatE a r (i : Nat) px py)]) := h1
 rw [vax_1 h2 hv, vay_1 h2 hv, h2] at h1
 exact h1
theorem rg_bad (vl : VL a r) (h : velE a r = 0) (hv : v ∈ r) (p1 : PZ a.rs px py) (p2 : PZ a.rs px2 py2) :
  FnC Tryz.prog 10 [towR a.rs, .lst 1 [nA (sX (veX a v py)), nA (sX (veY a v px)), nA (sX (veX a v py2)), nA (sX (veY a v px2))]] (i64 (0 : Nat)) := by
 have vz := vz_of vl h hv
 haveI c := vl.al.ct (vel_ok h).chk
 haveI := vz.w.zu; haveI := vz.x.zu; haveI := vz.y.zu; haveI := p1.x.zu; haveI := p1.y.zu; haveI := p2.x.zu; haveI := p2.y.zu
 have z1 : Zl (tR a) 4000 300000 (sX (veX a v py)) (veX a v py) _ _ := inferInstance
 have z2 : Zl (tR a) 4000 300000 (sX (veY a v px)) (veY a v px) _ _ := inferInstance
 have z3 : Zl (tR a) 4000 300000 (sX (veX a v py2)) (veX a v py2) _ _ := inferInstance
 have z4 : Zl (tR a) 4000 300000 (sX (veY a v px2)) (veY a v px2) _ _ := inferInstance
 have hlm := lm_ge (llq a.rs).length
 have n1 := z1.up (m := 1000) c (by decide)
 have n2 := z2.up (m := 1000) c (by decide)
 have n3 := z3.up (m := 1000) c (by decide)
 have n4 := z4.up (m := 1000) c (by decide)
 have hl : (llq a.rs).length = a.rs.length := llq_len a.rs
 have hr : ∀ x ∈ [(sX (veX a v py)).map rt, (sX (veY a v px)).map rt, (sX (veX a v py2)).map rt, (sX (veY a v px2)).map rt], NR x (1000 * 1000000) := by
  intro x hx
  simp only [List.mem_cons, List.not_mem_nil, or_false] at hx
  rcases hx with rfl | rfl | rfl | rfl
  ·exact n1.rt (by omega)
  ·exact n2.rt (by omega)
  ·exact n3.rt (by omega)
  ·exact n4.rt (by omega)
 have h1 := c_r11_Bad a.rs 40000 (1000 * 1000000) vl.al.tr _ hr (by rw [<- hl]; omega) (by show 4 <= 1000; omega)
 have h2 : chksE a.rs [(sX (veX a v py)).map rt, (sX (veY a v px)).map rt, (sX (veX a v py2)).map rt, (sX (veY a v px2)).map rt] = 0 := by
  refine chks_of (vel_ok h).chk fun x hx => ?_
  simp only [List.mem_cons, List.not_mem_nil, or_false] at hx
  rw [<- hl]
  rcases hx with rfl | rfl | rfl | rfl
  ·exact numE_rt n1.nl
  ·exact numE_rt n2.nl
  ·exact numE_rt n3.nl
  ·exact numE_rt n4.nl
 rw [h2] at h1
 have h3 : ([(sX (veX a v py)).map rt, (sX (veY a v px)).map rt, (sX (veX a v py2)).map rt, (sX (veY a v px2)).map rt]).map nR = [nA (sX (veX a v py)), nA (sX (veY a v px)), nA (sX (veX a v py2)), nA (sX (veY a v px2))] := by
  simp only [List.map_cons, List.map_nil, nR_rt]
 rw [h3] at h1
 exact h1
theorem rg_way (vl : VL a r) (h : velE a r = 0) (p1 : PZ a.rs px py) (p2 : PZ a.rs px2 py2) :
  FnC Tryz.prog 21 [towR a.rs, ptR px2 py2, ptR px py] (ptA (sX (wyE a px2 px)) (sX (wyE a py2 py))) := by
 haveI c := vl.al.ct (vel_ok h).chk
 rw [p1.av, p2.av, (chk_tw vl.al.tr (vel_ok h).chk).2]
 exact xr_Sub (ha := p2.x) (hb := p2.y) (ha2 := p1.x) (hb2 := p1.y) (by decide)
theorem rg_dif (vl : VL a r) (h : velE a r = 0) (hv : v ∈ r) (p1 : PZ a.rs px py) (p2 : PZ a.rs px2 py2) :
  FnC Tryz.prog 21 [towR a.rs, ptA (sX (veX a v py2)) (sX (veY a v px2)), ptA (sX (veX a v py)) (sX (veY a v px))] (ptA (sX (veX a v py2 - veX a v py)) (sX (veY a v px2 - veY a v px))) := by
 have vz := vz_of vl h hv
 haveI c := vl.al.ct (vel_ok h).chk
 rw [(chk_tw vl.al.tr (vel_ok h).chk).2]
 haveI := vz.w.zu; haveI := vz.x.zu; haveI := vz.y.zu; haveI := p1.x.zu; haveI := p1.y.zu; haveI := p2.x.zu; haveI := p2.y.zu
 exact xr_Sub (ts := tR a) (u := 4000) (k := 300000) (by decide)
theorem rg_dot (vl : VL a r) (h : velE a r = 0) (hv : v ∈ r) (p1 : PZ a.rs px py) (p2 : PZ a.rs px2 py2) :
  FnC Tryz.prog 23 [towR a.rs, ptA (sX (wyE a px2 px)) (sX (wyE a py2 py)), ptA (sX (veX a v py2 - veX a v py)) (sX (veY a v px2 - veY a v px))] (nA (sX (dotE (wyE a px2 px) (wyE a py2 py) (veX a v py2 - veX a v py) (veY a v px2 - veY a v px)))) := by
 have vz := vz_of vl h hv
 haveI c := vl.al.ct (vel_ok h).chk
 rw [(chk_tw vl.al.tr (vel_ok h).chk).2]
 haveI := vz.w.zu; haveI := vz.x.zu; haveI := vz.y.zu; haveI := p1.x.zu; haveI := p1.y.zu; haveI := p2.x.zu; haveI := p2.y.zu
 exact xr_Dot (ts := tR a) (u := 4000) (k := 300000) (by decide)
theorem rg_sgn (vl : VL a r) (h : velE a r = 0) (hv : v ∈ r) (p1 : PZ a.rs px py) (p2 : PZ a.rs px2 py2) :
  FnC Tryz.prog 22 [towR a.rs, nA (sX (dotE (wyE a px2 px) (wyE a py2 py) (veX a v py2 - veX a v py) (veY a v px2 - veY a v px)))] (i64 0) := by
 have vz := vz_of vl h hv
 haveI c := vl.al.ct (vel_ok h).chk
 rw [(chk_tw vl.al.tr (vel_ok h).chk).2]
 haveI := vz.w.zu; haveI := vz.x.zu; haveI := vz.y.zu; haveI := p1.x.zu; haveI := p1.y.zu; haveI := p2.x.zu; haveI := p2.y.zu
 have h1 := xr_Sign (ts := tR a) (u := 4000) (k := 300000) (a := sX (dotE (wyE a px2 px) (wyE a py2 py) (veX a v py2 - veX a v py) (veY a v px2 - veY a v px))) (by decide)
 have h2 : dotE (wyE a px2 px) (wyE a py2 py) (veX a v py2 - veX a v py) (veY a v px2 - veY a v px) = 0 := by unfold dotE; grind
 rw [h2] at h1 ⊢
 have h3 : sgE (0 : Et (tR a)) = 0 := by
  have := eqE_refl (0 : Et (tR a))
  unfold eqE at this
  rw [show (0 : Et (tR a)) - 0 = 0 from by grind] at this
  exact of_decide_eq_true this
 rw [h3] at h1
 exact h1
theorem rg_crs (vl : VL a r) (h : velE a r = 0) (hv : v ∈ r) (p1 : PZ a.rs px py) (p2 : PZ a.rs px2 py2) :
  FnC Tryz.prog 25 [towR a.rs, ptA (sX (wyE a px2 px)) (sX (wyE a py2 py)), ptA (sX (veX a v py2 - veX a v py)) (sX (veY a v px2 - veY a v px))] (nA (sX (crsE (wyE a px2 px) (wyE a py2 py) (veX a v py2 - veX a v py) (veY a v px2 - veY a v px)))) := by
 have vz := vz_of vl h hv
 haveI c := vl.al.ct (vel_ok h).chk
 rw [(chk_tw vl.al.tr (vel_ok h).chk).2]
 haveI := vz.w.zu; haveI := vz.x.zu; haveI := vz.y.zu; haveI := p1.x.zu; haveI := p1.y.zu; haveI := p2.x.zu; haveI := p2.y.zu
 exact xr_Cross (ts := tR a) (u := 4000) (k := 300000) (by decide)
theorem rg_len (vl : VL a r) (h : velE a r = 0) (p1 : PZ a.rs px py) (p2 : PZ a.rs px2 py2) :
  FnC Tryz.prog 23 [towR a.rs, ptA (sX (wyE a px2 px)) (sX (wyE a py2 py)), ptA (sX (wyE a px2 px)) (sX (wyE a py2 py))] (nA (sX (dotE (wyE a px2 px) (wyE a py2 py) (wyE a px2 px) (wyE a py2 py)))) := by
 haveI c := vl.al.ct (vel_ok h).chk
 rw [(chk_tw vl.al.tr (vel_ok h).chk).2]
 haveI := p1.x.zu; haveI := p1.y.zu; haveI := p2.x.zu; haveI := p2.y.zu
 exact xr_Dot (ts := tR a) (u := 4000) (k := 300000) (by decide)
theorem rg_tim (vl : VL a r) (h : velE a r = 0) (hv : v ∈ r) (p1 : PZ a.rs px py) (p2 : PZ a.rs px2 py2) :
  FnC Tryz.prog 26 [towR a.rs, nR v.w, nA (sX (dotE (wyE a px2 px) (wyE a py2 py) (wyE a px2 px) (wyE a py2 py)))] (nA (sX (dE (tR a) (lq v.w) * dotE (wyE a px2 px) (wyE a py2 py) (wyE a px2 px) (wyE a py2 py)))) := by
 have vz := vz_of vl h hv
 haveI c := vl.al.ct (vel_ok h).chk
 have e1 : nR v.w = nA (lq v.w) := by
  have := vz.av
  unfold Vr.av at this
  injection this with this
  injection this
 rw [(chk_tw vl.al.tr (vel_ok h).chk).2, e1]
 haveI := p1.x.zu; haveI := p1.y.zu; haveI := p2.x.zu; haveI := p2.y.zu
 exact xr_Times (ts := tR a) (u := 4000) (k := 300000) (ha := vz.w) (by decide)
theorem rg_eq (vl : VL a r) (h : velE a r = 0) (hv : v ∈ r) (p1 : PZ a.rs px py) (p2 : PZ a.rs px2 py2) :
  FnC Tryz.prog 24 [towR a.rs, nA (sX (crsE (wyE a px2 px) (wyE a py2 py) (veX a v py2 - veX a v py) (veY a v px2 - veY a v px))), nA (sX (dE (tR a) (lq v.w) * dotE (wyE a px2 px) (wyE a py2 py) (wyE a px2 px) (wyE a py2 py)))] (bl true) := by
 have vz := vz_of vl h hv
 haveI c := vl.al.ct (vel_ok h).chk
 rw [(chk_tw vl.al.tr (vel_ok h).chk).2]
 haveI := vz.w.zu; haveI := vz.x.zu; haveI := vz.y.zu; haveI := p1.x.zu; haveI := p1.y.zu; haveI := p2.x.zu; haveI := p2.y.zu
 have h1 := xr_Equal (ts := tR a) (u := 4000) (k := 300000) (a := sX (crsE (wyE a px2 px) (wyE a py2 py) (veX a v py2 - veX a v py) (veY a v px2 - veY a v px))) (b := sX (dE (tR a) (lq v.w) * dotE (wyE a px2 px) (wyE a py2 py) (wyE a px2 px) (wyE a py2 py))) (by decide)
 rw [eqE_of (show crsE (wyE a px2 px) (wyE a py2 py) (veX a v py2 - veX a v py) (veY a v px2 - veY a v px) = dE (tR a) (lq v.w) * dotE (wyE a px2 px) (wyE a py2 py) (wyE a px2 px) (wyE a py2 py) from by unfold crsE dotE; grind)] at h1
 exact h1
end
theorem lwR_f {p : Bool} (h : cond (!true) true (!p) = false) : p = true := by cases p <;> simp_all
theorem lwR3_f {p : Bool} {n m : Nat} (h : cond (cond (cond (!true) true (!p)) true (icmp .neq (n : Int) 0)) true (icmp .eql (m : Int) 0) = false) : p = true /\ n = 0 /\ 0 < m := by
 cases p <;> simp_all [icmp]
 omega
theorem lwR4_f {p : Bool} {n : Nat} (h : cond (icmp .neq (n : Int) 0) true (!p) = false) : n = 0 /\ p = true := by
 cases p <;> simp_all [icmp]
abbrev at2A (k : Int) (px py : List Rt) (x y : Rt) (k2 : Int) (px2 py2 : List Rt) (x2 y2 : Rt) : List AV := atvA k px py x y ++ atvA k2 px2 py2 x2 y2
theorem c_law_VelRigid (a : As) (ha : a.ok) (r : List Vr) (hr : ∀ x ∈ r, RsOk x.l) (hrl : r.length <= 281474976710656) (k : Int) (px py : List Rt) (x y : Rt) (k2 : Int) (px2 py2 : List Rt) (x2 y2 : Rt) (hpp : RsOk [px, py, px2, py2])
  (e : Nat) (hn : ∀ z ∈ [px, py, px2, py2], NR z e) (he : e <= 10000000000) :
  FnC Tryz.prog 5 [a.av, .lst 3 (r.map Vr.av), .agg (at2A k px py x y k2 px2 py2 x2 y2)] (bl true) := by
 refine gF0 Tryz.func5 ?_
 refine gc c_l42_awake ?_
 refine gcG (fun _ => (c_l42_Light a ha r hr hrl)) ?_
 refine gcG (fun h => (c_r42_Bad a r (vl_of (lwR_f h) ha hr))) ?_
 refine glG ?_
 refine gC (fun ht33 => ?_) (fun ht33 => ?_)
 ·refine gc c_l42_awake ?_
  refine gE1 ?_
  first | rfl | (simp; done)
 ·obtain ⟨h1, h2, h3⟩ := lwR3_f ht33
  have vl := vl_of h1 ha hr
  have hrl2 := vl.rl
  refine gs (s_idxPA (.tmp rfl) (.const _) T62 rfl T53 rfl (by omega) (by omega) rfl) ?_
  refine gs (s_idxPA (.tmp rfl) (.const _) T62 rfl T53 rfl (by omega) (by omega) rfl) ?_
  refine gs (s_idxPA (.tmp rfl) (.const _) T62 rfl T53 rfl (by omega) (by omega) rfl) ?_
  refine gs (s_idxPA (.tmp rfl) (.const _) T62 rfl T53 rfl (by omega) (by omega) rfl) ?_
  refine gc (c_r11_Bad a.rs 40000 e vl.al.tr [px, py, px2, py2] hn (by have := lm_ge a.rs.length; omega) (by show 4 <= 1000; omega)) ?_
  refine gs (s_guard rfl rfl rfl (fun h => s_idxPA (.tmp rfl) (.const _) T62 rfl T53 rfl (by omega) (by omega) rfl)) ?_
  refine gs (s_guard rfl rfl rfl (fun h => s_idxPA (.tmp rfl) (.const _) T62 rfl T53 rfl (by omega) (by omega) rfl)) ?_
  refine gs (s_guard rfl rfl rfl (fun h => s_idxPA (.tmp rfl) (.const _) T62 rfl T53 rfl (by omega) (by omega) rfl)) ?_
  refine gs (s_guard rfl rfl rfl (fun h => s_idxPA (.tmp rfl) (.const _) T62 rfl T53 rfl (by omega) (by omega) rfl)) ?_
  refine gcG (fun _ => (c_l11_Light a.rs [px, py, px2, py2] ha.rs hpp ha.rl (by show 4 <= 100; omega))) ?_
  refine gC (fun ht78 => ?_) (fun ht78 => ?_)
  ·refine gE1 ?_
   first | rfl | (simp; done)
  ·obtain ⟨h4, h5⟩ := lwR4_f ht78
   have hlt := light_lt h5 ha.rs hpp
   have n1 := hlt.nr px (by simp)
   have n2 := hlt.nr py (by simp)
   have n3 := hlt.nr px2 (by simp)
   have n4 := hlt.nr py2 (by simp)
   have hc := (vel_ok h2).chk
   obtain ⟨_, h6⟩ := chks_ok h4
   have c1 : chksE a.rs [px, py] = 0 := (chks_of hc fun z hz => h6 z (by simp only [List.mem_cons, List.not_mem_nil, or_false] at hz ⊢; rcases hz with h | h <;> simp [h]))
   have c2 : chksE a.rs [px2, py2] = 0 := (chks_of hc fun z hz => h6 z (by simp only [List.mem_cons, List.not_mem_nil, or_false] at hz ⊢; rcases hz with h | h <;> simp [h]))
   have p1 := pz_of (vl.al.ct hc) n1 n2 (by omega) c1
   have p2 := pz_of (vl.al.ct hc) n3 n4 (by omega) c2
   obtain ⟨v, hv⟩ := getx (clip_lt h3 k)
   have hvm := List.mem_of_getElem? hv
   have hA1 := vat0 vl h2 (clip_lt h3 k) hv p1 n1 n2 c1
   have hA2 := vat0 vl h2 (clip_lt h3 k) hv p2 n3 n4 c2
   refine gs (s_idxPA (.tmp rfl) (.const _) T62 rfl T53 rfl (by omega) (by omega) rfl) ?_
   refine gl ?_
   refine ga (i64_sub1 h3 (by unfold maxL; omega)) ?_
   refine gc (clip_at r.length k) ?_
   refine gs (s_idxPA (.tmp rfl) (.const _) T62 rfl T53 rfl (by omega) (by omega) rfl) ?_
   refine gc hA1 ?_
   refine gs (s_idxPA (.tmp rfl) (.const _) T62 rfl T53 rfl (by omega) (by omega) rfl) ?_
   refine gc hA2 ?_
   refine gcG (fun h => (rg_bad vl h2 hvm p1 p2)) ?_
   refine gC (fun ht125 => ?_) (fun ht125 => ?_) (st1 := (10, 0))
   ·cases ht125
   ·refine gs (s_idxPA (.tmp rfl) (.const _) T62 rfl T53 rfl (by omega) (by omega) rfl) ?_
    refine gs (s_idxPA (.tmp rfl) (.const _) T62 rfl T53 rfl (by omega) (by omega) rfl) ?_
    refine gc (rg_way vl h2 p1 p2) ?_
    refine gc (rg_dif vl h2 hvm p1 p2) ?_
    refine gD ?_
    refine gc (rg_dot vl h2 hvm p1 p2) ?_
    refine gc (rg_sgn vl h2 hvm p1 p2) ?_
    refine gcG (fun h => (rg_crs vl h2 hvm p1 p2)) ?_
    refine giG (fun _ => (getmap hv)) ?_
    refine gcG (fun h => (rg_len vl h2 p1 p2)) ?_
    refine gcG (fun h => (rg_tim vl h2 hvm p1 p2)) ?_
    refine gcG (fun h => (rg_eq vl h2 hvm p1 p2)) ?_
    refine gD ?_
    refine gE1 ?_
    first | rfl | (simp; done)
end Go.Lw
namespace Go.Lw
structure Bulk {H : Type} (bk : DataW H -> Nat) (bka : List (DataW H) -> Nat) : Prop where
  one : ∀ d, 1 <= bk d
  nil : bka [] = 0
  cons : ∀ d l, bka (d :: l) = bk d + bka l
  slice : ∀ e s, bka e + 1 <= bk (.slice e s)
  agg : ∀ l, bka l <= bk (.agg l)
section
variable {P : Program} {W : World} {H : Type} {enc : TypeId × Value -> H} {bk : DataW H -> Nat} {bka : List (DataW H) -> Nat}
theorem Bulk.pick (B : Bulk bk bka) {α : Type} {m : α -> Nat} : ∀ {l : List α} {xs : List (DataW H)}, l.length <= xs.length -> (∀ (i : Nat) (a : α), l[i]? = some a -> ∃ x, xs[i]? = some x /\ m a <= bk x) -> (l.map m).sum <= bka xs
 | [], xs, _, _ => by simp
 | a :: l, [], hl, _ => by simp at hl
 | a :: l, x :: xs, hl, h => by
  obtain ⟨y, hy, h1⟩ := h 0 a rfl
  cases hy
  have h2 := B.pick (l := l) (xs := xs) (by simpa using hl) (fun i b hb => h (i + 1) b hb)
  rw [B.cons, List.map_cons, List.sum_cons]
  omega
def OpensM (P : Program) (W : World) (enc : TypeId × Value -> H) (bk : DataW H -> Nat) (t : TypeId) {α : Type} (f : α -> AV) (p : α -> Prop) (m : α -> Nat) : Prop :=
  ∀ (sp : Nat -> Bool) (fuel : Nat) (cs : List Value) (x : DataW H × List MemPlace), DataW.trod enc P W 0 sp true fuel t cs = some x -> (∀ n ∈ x.1.weights P t, n <= reachBytes) -> ∃ a, p a /\ CRp W cs (f a).cells /\ m a <= bk x.1
theorem Opens.m {t : TypeId} {α : Type} {f : α -> AV} {p : α -> Prop} (h : Opens P W enc t f p) : OpensM P W enc bk t f p (fun _ => 0) := by
 intro sp fuel cs x hx hw
 obtain ⟨a, h1, h2⟩ := h sp fuel cs x hx hw
 exact ⟨a, h1, h2, Nat.zero_le _⟩
theorem Opens.m1 (B : Bulk bk bka) {t : TypeId} {α : Type} {f : α -> AV} {p : α -> Prop} (h : Opens P W enc t f p) : OpensM P W enc bk t f p (fun _ => 1) := by
 intro sp fuel cs x hx hw
 obtain ⟨a, h1, h2⟩ := h sp fuel cs x hx hw
 exact ⟨a, h1, h2, B.one _⟩
theorem OpensM.map {α β : Type} {t : TypeId} {f : α -> AV} {p : α -> Prop} {m : α -> Nat} (h : OpensM P W enc bk t f p m) (g : α -> β) (f' : β -> AV) (p' : β -> Prop) (m' : β -> Nat) (hg : ∀ a, p a -> p' (g a) /\ f' (g a) = f a /\ m' (g a) <= m a) : OpensM P W enc bk t f' p' m' := by
 intro sp fuel cs x hx hwt
 obtain ⟨a, ha, hc, hm⟩ := h sp fuel cs x hx hwt
 obtain ⟨h1, h2, h3⟩ := hg a ha
 exact ⟨g a, h1, by rw [h2]; exact hc, Nat.le_trans h3 hm⟩
inductive FlM (P : Program) (W : World) (enc : TypeId × Value -> H) (bk : DataW H -> Nat) : List Field -> Nat -> {α : Type} -> (α -> List AV) -> (α -> Prop) -> (α -> Nat) -> Prop
  | nil (off : Nat) : FlM P W enc bk [] off (fun _ : Unit => []) (fun _ => True) (fun _ => 0)
  | cons {fl : Field} {fls : List Field} {off n : Nat} {α β : Type} {f : α -> AV} {p : α -> Prop} {m : α -> Nat} {g : β -> List AV} {q : β -> Prop} {k : β -> Nat} (ho : fl.offset = off) (hn : P.cellsOf fl.type = n) (hf : OpensM P W enc bk fl.type f p m)
      (hln : ∀ a, (f a).cells.length = n) (hs : FlM P W enc bk fls (off + n) g q k) : FlM P W enc bk (fl :: fls) off (fun z : α × β => (f z.1).cells ++ g z.2) (fun z => p z.1 /\ q z.2) (fun z => m z.1 + k z.2)
theorem FlM.rep (B : Bulk bk bka) {fls : List Field} {off : Nat} {α : Type} {g : α -> List AV} {q : α -> Prop} {k : α -> Nat} (h : FlM P W enc bk fls off g q k) {cs : List Value} {sp : Nat -> Bool} {fuel : Nat} {xs : List (DataW H × List MemPlace)} (hlen : xs.length = fls.length)
  (hr : ∀ (i : Nat) (fl : Field), fls[i]? = some fl -> ∃ x, xs[i]? = some x /\ DataW.trod enc P W 0 sp true fuel fl.type ((cs.drop fl.offset).take (P.cellsOf fl.type)) = some x /\ ∀ n ∈ x.1.weights P fl.type, n <= reachBytes) :
  ∃ a m, q a /\ CRp W ((cs.drop off).take m) (g a) /\ m = (g a).length /\ k a <= bka (xs.map (·.1)) := by
 induction h generalizing xs with
 | nil off => exact ⟨(), 0, trivial, ⟨by simp, fun j x hx => by simp at hx, fun j u x hu hx => by simp at hx⟩, rfl, Nat.zero_le _⟩
 | @cons fl fls off n α β f p m g q k ho hn hf hln hs ih =>
  match xs, hlen with
  | x0 :: xs, hlen =>
   obtain ⟨x, hx0, hx, hwx⟩ := hr 0 fl rfl
   cases hx0
   rw [ho, hn] at hx
   obtain ⟨a, ha, hc, hma⟩ := hf _ _ _ _ hx hwx
   obtain ⟨b, m', hb, hcb, hm, hkb⟩ := ih (xs := xs) (by simpa using hlen) (fun i fl' h' => hr (i + 1) fl' h')
   exact ⟨(a, b), n + m', ⟨ha, hb⟩, cr_app hc (hln a) hcb, by simp only [List.length_append, hln a, hm], by rw [List.map_cons, B.cons]; exact Nat.add_le_add hma hkb⟩
theorem opensm_struct (B : Bulk bk bka) {t : TypeId} {n : Nat} {fs : Array Field} {α : Type} {g : α -> List AV} {q : α -> Prop} {k : α -> Nat} (ht : P.underlying t = some (.struct fs)) (hct : P.cellsOf t = n) (hf : FlM P W enc bk fs.toList 0 g q k) (hn : ∀ a, (g a).length = n) :
  OpensM P W enc bk t (fun a => .agg (g a)) q k := by
 intro sp fuel cs x h hwt
 obtain ⟨xs, n', rfl, hxe, hl, hxl, hel⟩ := DataW.trod_struct ht h
 obtain ⟨a, m, ha, hc, hm, hk⟩ := hf.rep B (cs := cs) (sp := sp) (fuel := n') (xs := xs) (by rw [hxl]; simp) (fun i fl hfl => by
  have hi' : fs[i]? = some fl := by simpa using hfl
  have h1 := hel i fl hi'
  have h2 : i < xs.length := by rw [hxl]; exact (Array.getElem?_eq_some_iff.1 hi').1
  refine ⟨xs[i], List.getElem?_eq_getElem h2, by rw [h1, List.getElem?_eq_getElem h2], fun k hk => hwt k ?_⟩
  rw [hxe]
  simp only [DataW.weights, ht]
  exact DataW.weights_mem_each (j := i) (by simpa using ⟨fl, hi', rfl⟩) (by rw [List.getElem?_map, List.getElem?_eq_getElem h2]; rfl) k hk)
 refine ⟨a, ha, ?_, ?_⟩
 ·rw [hm, hn a, <- hct, <- hl, List.drop_zero, List.take_length] at hc
  exact hc
 ·rw [hxe]; exact Nat.le_trans hk (B.agg _)
theorem opensm_array2 (B : Bulk bk bka) {t e : TypeId} {n : Nat} {α : Type} {f : α -> AV} {p : α -> Prop} {m : α -> Nat} (ht : P.underlying t = some (.array 2 e)) (hc : P.cellsOf e = n) (hct : P.cellsOf t = n + n) (hel : OpensM P W enc bk e f p m) (hln : ∀ a, (f a).cells.length = n) :
  OpensM P W enc bk t (fun z : α × α => .agg ((f z.1).cells ++ (f z.2).cells)) (fun z => p z.1 /\ p z.2) (fun z => m z.1 + m z.2) := by
 intro sp fuel cs x h hwt
 obtain ⟨xs, k, rfl, hxe, hl, hxl, hE⟩ := DataW.trod_array ht h
 match xs, hxl with
 | [x0, x1], _ =>
  have e0 := hE 0 (by omega)
  have e1 := hE 1 (by omega)
  have hw : ∀ y ∈ [x0, x1], ∀ n ∈ y.1.weights P e, n <= reachBytes := fun y hy k hk => hwt k (by
   rw [hxe]
   simp only [DataW.weights, ht]
   exact weights_mem_all (List.mem_map.2 ⟨y, hy, rfl⟩) k hk)
  rw [hc, Nat.zero_mul, List.drop_zero] at e0
  rw [hc, Nat.one_mul] at e1
  obtain ⟨a, ha, hca, hma⟩ := hel _ _ _ _ e0 (hw x0 (by simp))
  obtain ⟨b, hb, hcb, hmb⟩ := hel _ _ _ _ e1 (hw x1 (by simp))
  refine ⟨(a, b), ⟨ha, hb⟩, ?_, ?_⟩
  ·have h9 := cr_app (W := W) (cs := cs) (off := 0) (n := n) (m := n) (by rw [List.drop_zero]; exact hca) (hln a) (by rw [Nat.zero_add]; exact hcb)
   rw [List.drop_zero, <- hct, <- hl, List.take_length] at h9
   exact h9
  ·rw [hxe]
   refine Nat.le_trans ?_ (B.agg _)
   show m a + m b <= bka [x0.1, x1.1]
   rw [B.cons, B.cons, B.nil]
   omega
theorem opensm_slice (B : Bulk bk bka) {t e : TypeId} {n : Nat} {α : Type} {f : α -> AV} {p : α -> Prop} {m : α -> Nat} (ht : P.underlying t = some (.slice e)) (hc : P.cellsOf e = n) (hn : 0 < n) (hby : Nat.blt 0 (P.bytesOf e) = true) (hel : OpensM P W enc bk e f p m) (hln : ∀ a, (f a).cells.length = n) :
  OpensM P W enc bk t (fun l : List α => .lst n (l.map f)) (fun l => (∀ a ∈ l, p a) /\ l.length <= 281474976710656) (fun l => (l.map m).sum) := by
 intro sp fuel cs x h hwt
 rcases DataW.trod_slice ht h with ⟨rfl, _⟩ | ⟨a, len, cap, elems, rest, m', _, rfl, hxe, _, hl, hm, hlen, hE, _, _⟩
 ·exact ⟨[], ⟨fun a ha => by (cases ha), Nat.zero_le _⟩, cr_one (.lst0 _ _ _) rfl, Nat.zero_le _⟩
 ·obtain ⟨l, hll, hq⟩ := choose_list (q := fun i a' => p a' /\ (∃ y, (elems.map (·.1))[i]? = some y /\ m a' <= bk y) /\ ∃ cs', W.cells? 0 (a.add (i * n)) n = some cs' /\ CRp W cs' (f a').cells) len (fun i hi => by
   have h1 := hE i hi
   rw [hc, List.getElem?_eq_getElem (by omega), Option.bind_eq_some_iff] at h1
   obtain ⟨cs', h2, h3⟩ := h1
   obtain ⟨a', ha, hc', hm'⟩ := hel _ _ _ _ h3 (fun k hk => hwt k (by
    rw [hxe]
    simp only [DataW.weights, ht]
    exact List.mem_cons_of_mem _ (List.mem_append_left _ (weights_mem_all (List.mem_map.2 ⟨_, List.getElem_mem (by omega : i < elems.length), rfl⟩) k hk))))
   exact ⟨a', ha, ⟨_, by rw [List.getElem?_map, List.getElem?_eq_getElem (by omega)]; rfl, hm'⟩, cs', h2, hc'⟩)
  have hsum : (l.map m).sum <= bk x.1 := by
   rw [hxe]
   refine Nat.le_trans (B.pick (xs := elems.map (·.1)) (by rw [List.length_map]; omega) (fun i a' ha' => (hq i a' ha').2.1)) (Nat.le_trans (Nat.le_succ _) (B.slice _ _))
  have hcm : len <= 281474976710656 := by
   have h1 := hwt ((elems.length + rest.length) * P.bytesOf e) (by
    rw [hxe]
    simp only [DataW.weights, ht, List.length_map]
    exact List.mem_cons_self ..)
   rw [Nat.blt_eq] at hby
   have h2 : elems.length + rest.length <= (elems.length + rest.length) * P.bytesOf e := Nat.le_mul_of_pos_right _ hby
   have h3 : reachBytes <= 281474976710656 := by decide
   omega
  refine ⟨l, ⟨fun a' ha => ?_, by omega⟩, cr_one ?_ rfl, hsum⟩
  ·obtain ⟨i, hi⟩ := List.getElem?_of_mem ha
   exact (hq i a' hi).1
  ·by_cases h0 : len = 0
   ·subst h0
    have : l = [] := List.eq_nil_of_length_eq_zero hll
    subst this
    exact .lst0 _ _ _
   ·have hget : ∀ (i j : Nat) (e' c' : AV), (l.map f)[i]? = some e' -> e'.cells[j]? = some c' -> ∃ v, W.cell? ((a.add (i * n)).add j) = some v /\ Rep (Gw W) (Sz W) noKeys v c' := by
     intro i j e' c' he hc'
     rw [List.getElem?_map, Option.map_eq_some_iff] at he
     obtain ⟨a', ha, rfl⟩ := he
     obtain ⟨_, _, cs', h2, h3⟩ := hq i a' ha
     obtain ⟨_, h4, h5⟩ := World.cells?_some h2
     have hj : j < n := by rw [<- hln a']; exact (List.getElem?_eq_some_iff.1 hc').1
     have h6 := h5 j hj
     rw [List.getElem?_eq_getElem (by omega)] at h6
     exact ⟨_, h6, h3.2.2 j _ c' (List.getElem?_eq_getElem (by omega)) hc'⟩
    obtain ⟨a0, ha0⟩ : ∃ a0, l[0]? = some a0 := ⟨l[0]'(by omega), List.getElem?_eq_getElem (by omega)⟩
    obtain ⟨c0, hc0⟩ : ∃ c0, (f a0).cells[0]? = some c0 := ⟨(f a0).cells[0]'(by rw [hln]; omega), List.getElem?_eq_getElem (by rw [hln]; omega)⟩
    obtain ⟨v0, hv0, _⟩ := hget 0 0 _ _ (by rw [List.getElem?_map, ha0]; rfl) hc0
    have e0 : (a.add (0 * n)).add 0 = a := by simp [Addr.add]
    rw [e0] at hv0
    obtain ⟨b, off, rfl⟩ := cell_nospot hv0
    obtain ⟨c, t', fr, hb, _⟩ := cell_block hv0
    have hll' : (l.map f).length = len := by rw [List.length_map, hll]
    have hcell : ∀ (i j : Nat) (e' c' : AV), (l.map f)[i]? = some e' -> e'.cells[j]? = some c' -> ∃ v, c[off + i * n + j]? = some v /\ Rep (Gw W) (Sz W) noKeys v c' := by
     intro i j e' c' he hc'
     obtain ⟨v, hv, hr⟩ := hget i j e' c' he hc'
     rw [addr_add, addr_add] at hv
     obtain ⟨c2, t2, fr2, hb2, hv2⟩ := cell_block hv
     rw [hb] at hb2
     cases hb2
     exact ⟨v, hv2, hr⟩
    have := Rep.lst (g := Gw W) (S := Sz W) (m := noKeys) (b := b) (off := off) (cap := cap) (sz := n) (es := l.map f) (cs := c) (fun i j => c.getD (off + i * n + j) undef) (gw_of hb) (by omega) (by rw [hll']; exact hcm)
     (fun i e' he => by
      rw [List.getElem?_map, Option.map_eq_some_iff] at he
      obtain ⟨a', _, rfl⟩ := he
      exact hln a')
     (fun i j e' c' he hc' => by
      rw [List.getElem?_map, Option.map_eq_some_iff] at he
      obtain ⟨a', ha, rfl⟩ := he
      obtain ⟨_, _, cs', _, h3⟩ := hq i a' ha
      exact h3.2.1 j c' hc')
     (fun i j e' c' he hc' => by
      obtain ⟨v, hv, _⟩ := hcell i j e' c' he hc'
      rw [Array.getD_eq_getD_getElem?, hv]; rfl)
     (fun i j e' c' he hc' => by
      obtain ⟨v, hv, hr⟩ := hcell i j e' c' he hc'
      rw [Array.getD_eq_getD_getElem?, hv]; exact hr)
    rwa [hll'] at this
theorem argm_agg {t : TypeId} {α : Type} {g : α -> List AV} {q : α -> Prop} {m : α -> Nat} {v : Value} {d : DataW H} {ps : List MemPlace} {sp : Nat -> Bool} {b0 : Nat} (hu : (∃ fs, P.underlying t = some (.struct fs)) \/ ∃ n e, P.underlying t = some (.array n e))
  (ho : OpensM P W enc bk t (fun a => .agg (g a)) q m) (hval : Value.okWide P W .any b0 t v) (hd : DataW.Trod enc P W 0 sp true t v d ps) (hwt : ∀ n ∈ d.weights P t, n <= reachBytes) : ∃ a, q a /\ Rep (Gw W) (Sz W) noKeys v (.agg (g a)) /\ m a <= bk d := by
 have hv : ∃ cs, v = .agg cs := by
  unfold Value.okWide at hval
  rcases hu with ⟨fs, ht⟩ | ⟨n, e, ht⟩
  ·rw [ht] at hval
   obtain ⟨cs, rfl, _, _⟩ := hval
   exact ⟨cs, rfl⟩
  ·rw [ht] at hval
   obtain ⟨cs, rfl, _, _⟩ := hval
   exact ⟨cs, rfl⟩
 obtain ⟨cs, rfl⟩ := hv
 obtain ⟨fuel, hf⟩ := hd
 obtain ⟨a, ha, hc, hm⟩ := ho _ _ _ _ hf hwt
 exact ⟨a, ha, .agg (by have := hc.1; simpa [Value.cells, AV.cells] using this) (fun j c h => hc.2.1 j c h) (fun j u c hu h => hc.2.2 j u c (by simpa [Value.cells] using hu) h), hm⟩
end
end Go.Lw
namespace Go.Lw
def mRt (r : Rt) : Nat := 1 + (r.num.length + r.den.length)
def mNum (x : List Rt) : Nat := (x.map mRt).sum
theorem mNum_mem {x : List Rt} {r : Rt} (h : r ∈ x) : mRt r <= mNum x := by
 induction x with
 | nil => cases h
 | cons y x ih =>
  have e : mNum (y :: x) = mRt y + mNum x := by unfold mNum; rw [List.map_cons, List.sum_cons]
  rw [e]
  rcases List.mem_cons.1 h with rfl | h
  ·omega
  ·have := ih h; omega
theorem mRt_ok {r : Rt} (h : r.wok) (hm : mRt r <= 2000000) : r.ok := by
 unfold mRt at hm
 exact ⟨h.1, h.2, by unfold lim; omega, by unfold lim; omega⟩
theorem cd_count : ∀ {x : List Rt}, (∀ r ∈ x, r.ok) -> ∃ D N, Cd D N (lq x) /\ D <= 2 ^ (32 * mNum x) /\ N <= 2 ^ (64 * mNum x)
 | [], _ => ⟨1, 1, Cd.nil (by omega), Nat.one_le_two_pow, Nat.one_le_two_pow⟩
 | r :: x, h => by
  obtain ⟨D, N, h1, h2, h3⟩ := cd_count (x := x) (fun p hp => h p (List.mem_cons_of_mem _ hp))
  have hr := h r (List.mem_cons_self ..)
  have hq : Qb (32 * mRt r) r.q := Rt.qb hr (by unfold mRt; omega) (by unfold mRt; omega) (by unfold mRt; omega)
  have e1 : mNum (r :: x) = mRt r + mNum x := by unfold mNum; rw [List.map_cons, List.sum_cons]
  have k1 := (h1.scale (Nat.pos_of_ne_zero r.q.den_nz))
  have k2 := ((cd_one hq).scale h1.1)
  rw [Nat.mul_comm] at k2
  refine ⟨D * r.q.den, 2 ^ (64 * mNum (r :: x)), ?_, ?_, Nat.le_refl _⟩
  ·refine (Cd.app (a := [r.q]) (k2.mono ?_) (k1.mono ?_))
   ·refine Nat.le_trans (Nat.mul_le_mul_left _ h2) ?_
    rw [<- Nat.pow_add]; exact pow_le2 (by omega)
   ·refine Nat.le_trans (Nat.mul_le_mul h3 (Nat.le_of_lt hq.2)) ?_
    rw [<- Nat.pow_add]; exact pow_le2 (by omega)
  ·have h9 := Nat.mul_le_mul h2 (Nat.le_of_lt hq.2)
   rw [<- Nat.pow_add] at h9
   exact Nat.le_trans h9 (pow_le2 (by omega))
theorem nr_count {x : List Rt} {B : Nat} (hw : ∀ r ∈ x, r.wok) (hl : x.length <= 281474976710656) (h : mNum x <= B) (hB : B <= 2000000) : NR x (64 * B) := by
 have ho : ∀ r ∈ x, r.ok := fun r hr => mRt_ok (hw r hr) (by have := mNum_mem hr; omega)
 obtain ⟨D, N, h1, h2, h3⟩ := cd_count ho
 exact ⟨ho, hl, D, N, h1, Nat.le_trans h2 (pow_le2 (by omega)), Nat.le_trans h3 (pow_le2 (by omega))⟩
end Go.Lw
namespace Go.Lw
open Go.Proofs Go.Proofs.YtohejbfhhanckaaGreat
open Go.ChangeShapes Go.WideShapes Go.ChangeAt Go.RowKit
theorem bulkR {H : Type} : Bulk (H := H) Rows.uptoBulk Rows.uptoBulkAll where
 one := fun d => by
  cases d with
  | lit l => cases l <;> simp [Rows.uptoBulk]
  | nil => simp [Rows.uptoBulk]
  | ptr d => simp [Rows.uptoBulk]
  | slice elems spare => simp [Rows.uptoBulk]
  | agg parts => simp [Rows.uptoBulk]
  | iface t d => simp [Rows.uptoBulk]
  | map entries => simp [Rows.uptoBulk]
  | held h => simp [Rows.uptoBulk]
 nil := by simp [Rows.uptoBulkAll]
 cons := fun d l => by simp [Rows.uptoBulkAll]
 slice := fun e s => by simp only [Rows.uptoBulk]; omega
 agg := fun l => by simp only [Rows.uptoBulk]; omega
section
variable {W : World} {H : Type} {enc : TypeId × Value -> H}
theorem sum_ones {α : Type} (l : List α) : (l.map (fun _ => 1)).sum = l.length := by
 induction l with
 | nil => rfl
 | cons a l ih => rw [List.map_cons, List.sum_cons, ih, List.length_cons]; omega
theorem om_ws : OpensM Tryz.prog W enc Rows.uptoBulk 29 ws (fun l => Ws l /\ l.length <= 281474976710656) (fun l => l.length) :=
 (opensm_slice bulkR Tryz.underlying29 (n := 1) (by kernel_rfl) (by omega) (by kernel_rfl) (op_u32.m1 bulkR) (fun _ => rfl)).map id _ _ _ (fun l h => ⟨⟨fun x hx => h.1 x hx, h.2⟩, rfl, by rw [sum_ones]; exact Nat.le_refl _⟩)
theorem om_rat : OpensM Tryz.prog W enc Rows.uptoBulk 31 Rt.av Rt.wok mRt :=
 (opensm_struct bulkR (n := 3) Tryz.underlying31 (by kernel_rfl)
  (.cons rfl (n := 1) (by kernel_rfl) (op_bool.m1 bulkR) (fun _ => rfl) (.cons rfl (n := 1) (by kernel_rfl) om_ws (fun _ => rfl) (.cons rfl (n := 1) (by kernel_rfl) om_ws (fun _ => rfl) (.nil _)))) (fun _ => rfl)).map
  (fun z => ⟨z.1, z.2.1, z.2.2.1⟩) _ _ _ (fun z h => ⟨⟨h.2.1.1, h.2.2.1.1⟩, rfl, Nat.le_refl _⟩)
theorem om_num : OpensM Tryz.prog W enc Rows.uptoBulk 37 nR NumOk mNum := opensm_slice bulkR Tryz.underlying37 (n := 3) (by kernel_rfl) (by omega) (by kernel_rfl) om_rat (fun _ => rfl)
theorem om_point : OpensM Tryz.prog W enc Rows.uptoBulk 41 (fun z : List Rt × List Rt => .agg [nR z.1, nR z.2]) (fun z => NumOk z.1 /\ NumOk z.2) (fun z => mNum z.1 + mNum z.2) :=
 (opensm_struct bulkR (n := 2) Tryz.underlying41 (by kernel_rfl) (.cons rfl (n := 1) (by kernel_rfl) om_num (fun _ => rfl) (.cons rfl (n := 1) (by kernel_rfl) om_num (fun _ => rfl) (.nil _))) (fun _ => rfl)).map
  (fun z => (z.1, z.2.1)) _ _ _ (fun z h => ⟨⟨h.1, h.2.1⟩, rfl, Nat.le_refl _⟩)
def mAtv (z : Atv) : Nat := mNum z.px + mNum z.py
theorem om_atv : OpensM Tryz.prog W enc Rows.uptoBulk 53 (fun z : Atv => .agg (atvG z)) (fun z => NumOk z.px /\ NumOk z.py) mAtv :=
 (opensm_struct bulkR (n := 9) Tryz.underlying53 (by kernel_rfl) (.cons rfl (n := 1) (by kernel_rfl) op_int.m (fun _ => rfl) (.cons rfl (n := 2) (by kernel_rfl) om_point (fun _ => rfl) (.cons rfl (n := 3) (by kernel_rfl) op_rat.m (fun _ => rfl) (.cons rfl (n := 3) (by kernel_rfl) op_rat.m (fun _ => rfl) (.nil _))))) (fun _ => rfl)).map
  (fun z => ⟨z.1, z.2.1.1, z.2.1.2, z.2.2.1, z.2.2.2.1⟩) _ _ _ (fun z h => ⟨⟨h.2.1.1, h.2.1.2⟩, rfl, by show mNum z.2.1.1 + mNum z.2.1.2 <= 0 + (mNum z.2.1.1 + mNum z.2.1.2 + _); omega⟩)
theorem om_at2 : OpensM Tryz.prog W enc Rows.uptoBulk 62 (fun z : Atv × Atv => .agg (atvG z.1 ++ atvG z.2)) (fun z => (NumOk z.1.px /\ NumOk z.1.py) /\ (NumOk z.2.px /\ NumOk z.2.py)) (fun z => mAtv z.1 + mAtv z.2) :=
 opensm_array2 bulkR Tryz.underlying62 (n := 9) (by kernel_rfl) (by kernel_rfl) om_atv (fun _ => rfl)
end
theorem at2_nr {z : Atv × Atv} (h : (NumOk z.1.px /\ NumOk z.1.py) /\ (NumOk z.2.px /\ NumOk z.2.py)) (hm : mAtv z.1 + mAtv z.2 <= 1048576) :
  RsOk [z.1.px, z.1.py, z.2.px, z.2.py] /\ ∀ x ∈ [z.1.px, z.1.py, z.2.px, z.2.py], NR x 67108864 := by
 unfold mAtv at hm
 refine ⟨fun x hx => ?_, fun x hx => ?_⟩
 ·simp only [List.mem_cons, List.not_mem_nil, or_false] at hx
  rcases hx with rfl | rfl | rfl | rfl
  ·exact h.1.1
  ·exact h.1.2
  ·exact h.2.1
  ·exact h.2.2
 ·simp only [List.mem_cons, List.not_mem_nil, or_false] at hx
  rcases hx with rfl | rfl | rfl | rfl
  ·exact nr_count (B := 1048576) h.1.1.1 h.1.1.2 (by omega) (by omega)
  ·exact nr_count (B := 1048576) h.1.2.1 h.1.2.2 (by omega) (by omega)
  ·exact nr_count (B := 1048576) h.2.1.1 h.2.1.2 (by omega) (by omega)
  ·exact nr_count (B := 1048576) h.2.2.1 h.2.2.2 (by omega) (by omega)
set_option maxRecDepth 100000 in
theorem velocityRigid_lifted (os : Os) (started : os.Started) (H : Type) (enc : TypeId × Value -> H) (F : Stop.Interp) :
  ReturnsInHanded {} Tryz.checked os 5 .any ((Rows.OpenSpec.upto Rows.velocityRigidSpec).pre6 enc Tryz.prog Tryz.f5 Rows.velocityRigidUptoRow.domain false)
   (((Rows.OpenSpec.upto Rows.velocityRigidSpec).at F).post enc Tryz.prog Tryz.f5 false true false false) := by
 refine returnsInHanded_of_cond_sized (C := Tryz.checked) (s := Rows.OpenSpec.upto Rows.velocityRigidSpec) (k := Rows.uptoSmall) rfl own started (by kernel_rfl) Tryz.func5
  (OpenSpec.witness (enc := enc) (C := Tryz.checked) (s := Rows.OpenSpec.upto Rows.velocityRigidSpec) (k := Rows.uptoSmall) rfl false ⟨#[], #[.agg #[.slice none 0 0, .slice none 0 0, .slice none 0 0], .slice none 0 0,
   .agg #[.int .i64 0, .slice none 0 0, .slice none 0 0, .bool false, .slice none 0 0, .slice none 0 0, .bool false, .slice none 0 0, .slice none 0 0, .int .i64 0, .slice none 0 0, .slice none 0 0, .bool false, .slice none 0 0, .slice none 0 0, .bool false, .slice none 0 0, .slice none 0 0]], []⟩ 8 (by kernel_rfl) (by kernel_rfl) (by kernel_rfl)
   (x := ([.agg [.agg [.nil], .nil, .nil], .nil, .agg [.agg [.lit (.int .i64 0), .agg [.nil, .nil], .agg [.lit (.bool false), .nil, .nil], .agg [.lit (.bool false), .nil, .nil]], .agg [.lit (.int .i64 0), .agg [.nil, .nil], .agg [.lit (.bool false), .nil, .nil], .agg [.lit (.bool false), .nil, .nil]]]], [], []))
   (by kernel_rfl) rfl (by kernel_rfl)) ?_
 intro W base args ds gs before hval0 hW hcnd hk hwt0 _
 have hval : ∀ (j : Nat) t v, Tryz.f5.params[j]? = some t -> args[j]? = some v -> Value.okWide Tryz.prog W .any base t v := hval0
 have hwt : (DataW.weightsEach Tryz.prog (Tryz.f5.params.toList ++ Rows.velocityRigidSpec.plain.varTypes Tryz.prog) (ds ++ gs)).all (· <= reachBytes) = true := hwt0
 have hW' : DataW.Whole enc Tryz.prog Tryz.f5.params.toList Rows.velocityRigidSpec.vars false W args.toList ds gs before := hW
 obtain ⟨p, q, hA0, hV, rfl, hfz, hnd⟩ := hW
 have hA : DataW.TrodAll enc Tryz.prog W 0 (fun _ => true) true Tryz.f5.params.toList args.toList ds p := hA0
 rw [Tryz.params5] at hA hval hwt
 obtain ⟨v0, v1, v2, d0, d1, d2, p0, p1, p2, rfl, rfl, rfl, h0, h1, h2⟩ := trodAll_three hA
 obtain ⟨rfl, rfl⟩ := trodVars_none hV
 clear hA0 hval0 hwt0
 have hlt : ∀ x ∈ p0 ++ p1 ++ p2, x.block < W.heap.size := fun x hx => hW'.lt x (by simpa using hx)
 have hw0 : ∀ n ∈ d0.weights Tryz.prog 28, n <= reachBytes := fun n hn => by
  have := List.all_eq_true.1 hwt n (DataW.weights_mem_each (j := 0) rfl rfl n hn)
  simpa using this
 have hw1 : ∀ n ∈ d1.weights Tryz.prog 51, n <= reachBytes := fun n hn => by
  have := List.all_eq_true.1 hwt n (DataW.weights_mem_each (j := 1) rfl rfl n hn)
  simpa using this
 have hw2 : ∀ n ∈ d2.weights Tryz.prog 62, n <= reachBytes := fun n hn => by
  have := List.all_eq_true.1 hwt n (DataW.weights_mem_each (j := 2) rfl rfl n hn)
  simpa using this
 have hb2 : Rows.uptoBulk d2 <= 1048576 := by
  have h9 : Rows.uptoBulkAll [d0, d1, d2] <= 1048576 := of_decide_eq_true hk
  simp only [Rows.uptoBulkAll] at h9
  omega
 obtain ⟨x0, q0, r0⟩ := arg_agg Tryz.underlying28 op_asm (hval 0 28 v0 rfl rfl) h0 hw0
 obtain ⟨x1, q1, r1⟩ := arg_one op_rates (fun _ => rfl) (notAgg_slice Tryz.underlying51 (hval 1 51 v1 rfl rfl)) h1 hw1
 obtain ⟨x2, q2, r2, m2⟩ := argm_agg (.inr ⟨_, _, Tryz.underlying62⟩) om_at2 (hval 2 62 v2 rfl rfl) h2 hw2
 obtain ⟨k1, k2⟩ := at2_nr q2 (Nat.le_trans m2 hb2)
 have hc := FnC.calls (W := W) (vs := #[v0, v1, v2]) (c_law_VelRigid x0 q0 x1 q1.1 q1.2 x2.1.k x2.1.px x2.1.py x2.1.x x2.1.y x2.2.k x2.2.px x2.2.py x2.2.x x2.2.y k1 67108864 k2 (by omega)) rfl (fun j v x hv hx => by
  match j, hv, hx with
  | 0, hv, hx => cases hv; cases hx; exact r0
  | 1, hv, hx => cases hv; cases hx; exact r1
  | 2, hv, hx => cases hv; cases hx; exact r2)
 refine hc.mono fun e W' ⟨he, hb⟩ => ?_
 subst he
 have hpost : Rows.velocityRigidSpec.post enc Tryz.prog Tryz.f5 false true false false W #[v0, v1, v2] (.bool true) W' := by
  refine post_of_below hW' rfl rfl (fun _ _ _ => trodAll_mk1 (shut_bool Tryz.underlying4 _)) (fun sp hsp => ?_) rfl hb (ok_one (by kernel_rfl) rfl (okWide_bool_mk Tryz.underlying4 _))
  rw [Tryz.params5]
  have hs : ∀ x ∈ p0 ++ p1 ++ p2, sp x.block = true := fun x hx => hsp x (by simpa using hx)
  have g0 := arg_back (sp' := sp) (by kernel_rfl) (of_decide_eq_true (by kernel_rfl)) h0 hb (fun x hx => hlt x (by simp [hx])) (fun x hx => hs x (by simp [hx]))
  have g1 := arg_back (sp' := sp) (by kernel_rfl) (of_decide_eq_true (by kernel_rfl)) h1 hb (fun x hx => hlt x (by simp [hx])) (fun x hx => hs x (by simp [hx]))
  have g2 := arg_back (sp' := sp) (by kernel_rfl) (of_decide_eq_true (by kernel_rfl)) h2 hb (fun x hx => hlt x (by simp [hx])) (fun x hx => hs x (by simp [hx]))
  have g := trodAll_mk3 g0 g1 g2
  rw [show p0 ++ p1 ++ p2 ++ [] = p0 ++ (p1 ++ p2) from by simp]
  exact g
 exact ⟨_, rfl, hpost⟩
set_option maxRecDepth 100000 in
theorem velocityRigid_clo : Tryz.prog.closure 5 = [5, 14, 33, 68, 130, 191, 69, 67, 126, 185, 265, 186, 127, 128, 187, 266, 271, 269, 267, 268, 189, 129, 188, 270, 190, 43, 82, 42, 63, 83, 145, 55, 106, 167, 233, 234, 299, 107, 134, 195, 197, 274, 276, 273, 294, 334, 335, 361, 336, 337, 348, 338, 339, 225, 152, 151, 196, 201, 275, 108, 168, 169, 235, 200, 222, 293, 109, 207, 282, 340, 367, 342, 370, 371, 369, 283, 341, 368, 344, 343, 284, 146, 208, 119, 136, 120, 81, 65, 88, 150, 223, 224, 291, 292, 87, 149, 221, 135, 133, 198, 199, 64, 121, 177, 178, 123, 122, 179, 36, 71, 72, 137, 203, 278, 279, 280, 277, 202, 157, 228, 241, 301, 351, 242, 303, 362, 302, 352, 358, 378, 353, 373, 354, 374, 375, 355, 376, 377, 379, 356, 357, 359, 360, 92, 156, 180, 243, 304, 313, 363, 349, 372, 244, 245, 305, 306, 37, 73, 75, 74, 140, 159, 204, 139, 158, 141, 160, 138, 76, 93, 246, 307, 312, 227, 171, 236, 296, 260, 263, 226, 295, 114, 172, 261, 308, 247, 181, 248, 309, 250, 249, 310, 364, 311, 252, 251, 314, 326, 47, 327, 110, 315, 365, 170, 328, 323, 319, 329, 320, 316, 317, 318, 366, 321, 322, 324, 259, 332, 333, 253, 264, 182, 254, 325, 255, 183, 256, 330, 112, 257, 331, 258, 262, 124, 184, 44, 84, 147, 210, 211, 285, 286, 345, 212, 209, 214, 215, 287, 288, 289, 346, 213, 217, 218, 216, 85, 148, 219, 220, 290, 347, 86, 57, 111, 59, 48, 95, 113, 94, 96, 89, 90, 58, 60, 154, 153, 91, 155, 17, 46, 16, 22, 51, 79, 38, 77, 142, 143, 205, 206, 281, 193, 78, 101, 162, 131, 192, 144, 80, 102, 163, 194, 272, 99, 132, 100, 161, 34, 70, 12, 24, 52, 15, 45, 35, 8, 18, 10, 39, 20, 21, 49, 97, 23, 26, 53, 50, 98, 25] := by kernel_rfl
theorem velocityRigid_closed : joinedFacts Tryz.prog 5 Tryz.f5 (Rows.OpenSpec.upto Rows.velocityRigidSpec).bare Rows.velocityRigidUptoRow = true := by
 unfold joinedFacts Program.recurses Program.inPlace Program.unfollowed Program.varsNamed
 rw [velocityRigid_clo, laidOut, pw_heard, pw_plain, pw_maps, pw_enter, pw_final]
 kernel_rfl
theorem velocityRigid_holds : Rows.VelocityRigidUptoSaid :=
 OpenClaim.holds_of_cond 5 Tryz.f5 rfl rfl rfl rfl rfl rfl rfl ⟨rfl, rfl, rfl, rfl, rfl⟩ rfl rfl rfl rfl rfl (by kernel_rfl) Tryz.func5 velocityRigid_closed
  (of_decide_eq_true (by kernel_rfl)) (by unfold Func.isWrapper; first | (rw [if_pos (by decide +kernel)]; kernel_rfl) | (rw [if_neg (by decide +kernel)]; exact ⟨rfl, rfl⟩))
  (fun os started H enc _ F => velocityRigid_lifted os started H enc F)
end Go.Lw

namespace Go.Proofs.YtohejbfhhanckaaGreat
theorem velocityAt_proved : Rows.VelocityAtSaid := Go.Lw.velocityAt_holds
end Go.Proofs.YtohejbfhhanckaaGreat
namespace Go.Proofs.YtohejbfhhanckaaGreat
theorem velocityRigid_proved : Rows.VelocityRigidUptoSaid := Go.Lw.velocityRigid_holds
end Go.Proofs.YtohejbfhhanckaaGreat
