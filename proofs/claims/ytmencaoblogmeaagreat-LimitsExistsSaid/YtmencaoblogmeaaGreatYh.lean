/- LimitsExists: for any linkage and any turn the law returns true and leaves its arguments as they were. No other condition. Part 8 of 8: the statement -/
import Derived.Test.YtmencaoblogmeaaGreatYg
set_option linter.unusedVariables false
open List renaming all_eq_true → aif
open Go renaming Value → ajq, TypeId → ajr
open Go.Proofs.Tryz
namespace Go.Lw
open Go.Proofs
set_option maxRecDepth 20000
def oW:AV:=.lst 3 [.agg [.v (.bool false),.lst 1 [],.lst 1 []],.agg [.v (.bool false),.lst 1 [.v (.int .u32 1)],.lst 1 [.v (.int .u32 1)]]]
def Zc:AV:=.agg [.v (.string ⟨⟨[98]⟩⟩),.v (.bool false),.lst 1 [.v (.int .u32 1)],.lst 1 [.v (.int .u32 1)],.v (.bool false),.lst 1 [],.lst 1 []]
def Ye:AV:=.agg [.v (.string ⟨⟨[99]⟩⟩),.v (.bool false),.lst 1 [.v (.int .u32 4)],.lst 1 [.v (.int .u32 1)],.v (.bool false),.lst 1 [],.lst 1 []]
def Xm:AV:=.agg [.v (.string ⟨⟨[99]⟩⟩),.v (.bool false),.lst 1 [.v (.int .u32 2)],.lst 1 [.v (.int .u32 1)],.v (.bool false),.lst 1 [],.lst 1 []]
def YM:AV:=.agg [.v (.string ⟨⟨[99]⟩⟩),.v (.bool false),.lst 1 [.v (.int .u32 1)],.lst 1 [.v (.int .u32 1)],.v (.bool false),.lst 1 [],.lst 1 []]
def Xo:AV:=.agg [.v (.string ⟨⟨[100]⟩⟩),.v (.bool false),.lst 1 [.v (.int .u32 4)],.lst 1 [.v (.int .u32 1)],.v (.bool false),.lst 1 [],.lst 1 []]
def Vj:AV:=.agg [.v (.string ⟨⟨[106,49]⟩⟩),.v (.int .i64 0),.v (.int .i64 0),.v (.int .i64 0),.v (.int .i64 1),.v (.int .i64 0),.v (.int .i64 0)]
def R7:AV:=.agg [.v (.string ⟨⟨[106,50]⟩⟩),.v (.int .i64 0),.v (.int .i64 1),.v (.int .i64 1),.v (.int .i64 2),.v (.int .i64 0),.v (.int .i64 0)]
def VS:AV:=.agg [.v (.string ⟨⟨[106,51]⟩⟩),.v (.int .i64 0),.v (.int .i64 0),.v (.int .i64 1),.v (.int .i64 3),.v (.int .i64 0),.v (.int .i64 0)]
def acl:AV:=.agg [.v (.string ⟨⟨[106,52]⟩⟩),.v (.int .i64 0),.v (.int .i64 2),.v (.int .i64 1),.v (.int .i64 3),.v (.int .i64 1),.v (.int .i64 0)]
def Ax:AV:=.lst 3 [.agg [.v (.bool false),.lst 1 [],.lst 1 []],.agg [.v (.bool true),.lst 1 [.v (.int .u32 262144)],.lst 1 [.v (.int .u32 71841)]]]
def qN:AV:=.lst 3 [.agg [.v (.bool false),.lst 1 [],.lst 1 []],.agg [.v (.bool false),.lst 1 [],.lst 1 []],.agg [.v (.bool false),.lst 1 [.v (.int .u32 256)],.lst 1 [.v (.int .u32 1)]]]
def zJ:AV:=.lst 1 [qN]
def x9:AV:=.lst 3 [.agg [.v (.bool true),.lst 1 [.v (.int .u32 45)],.lst 1 [.v (.int .u32 77)]],.agg [.v (.bool false),.lst 1 [],.lst 1 []],.agg [.v (.bool true),.lst 1 [.v (.int .u32 311)],.lst 1 [.v (.int .u32 231)]]]
def Ob:AV:=.lst 1 [oW,.lst 3 [.agg [.v (.bool false),.lst 1 [.v (.int .u32 1)],.lst 1 [.v (.int .u32 1)]]]]
def SQ:AV:=.lst 7 [.agg [.v (.string ⟨⟨[97]⟩⟩),.v (.bool false),.lst 1 [],.lst 1 [],.v (.bool false),.lst 1 [],.lst 1 []],Zc]
def Y5:AV:=.lst 7 [.agg [.v (.string ⟨⟨[98]⟩⟩),.v (.bool false),.lst 1 [],.lst 1 [],.v (.bool false),.lst 1 [],.lst 1 []],Ye]
def Ro:AV:=.lst 7 [.agg [.v (.string ⟨⟨[97]⟩⟩),.v (.bool false),.lst 1 [],.lst 1 [],.v (.bool false),.lst 1 [],.lst 1 []],Xo]
def Ts:AV:=.lst 7 [.agg [.v (.string ⟨⟨[100]⟩⟩),.v (.bool false),.lst 1 [],.lst 1 [],.v (.bool false),.lst 1 [],.lst 1 []],Xm]
def TF:AV:=.lst 7 [.agg [.v (.string ⟨⟨[100]⟩⟩),.v (.bool false),.lst 1 [],.lst 1 [],.v (.bool false),.lst 1 [],.lst 1 []],YM]
def zf:AV:=.lst 3 [.agg [.v (.bool false),.lst 1 [],.lst 1 []],.agg [.v (.bool false),.lst 1 [.v (.int .u32 1244)],.lst 1 [.v (.int .u32 231)]],.agg [.v (.bool false),.lst 1 [],.lst 1 []],.agg [.v (.bool false),.lst 1 [.v (.int .u32 4)],.lst 1 [.v (.int .u32 1)]]]
def zQ:AV:=.agg [oW,.v (.bool true),.lst 1 [.v (.int .u32 2)],.lst 1 [.v (.int .u32 1)],.v (.bool false),.lst 1 [.v (.int .u32 2)],.lst 1 [.v (.int .u32 1)]]
def D8:AV:=.lst 7 [zQ]
def N7:AV:=.agg [.v (.string ⟨⟨[99,114,97,110,107]⟩⟩),SQ]
def HQ:AV:=.agg [.v (.string ⟨⟨[102,114,97,109,101]⟩⟩),Ro]
def Zo:AV:=.agg [.v (.string ⟨⟨[114,111,99,107,101,114]⟩⟩),Ts]
def VU:AV:=.agg [.v (.string ⟨⟨[114,111,99,107,101,114]⟩⟩),TF]
def NE:AV:=.agg [.v (.string ⟨⟨[99,111,117,112,108,101,114]⟩⟩),Y5]
def tg:AV:=.lst 3 [.agg [.v (.bool false),.lst 1 [.v (.int .u32 135)],.lst 1 [.v (.int .u32 1)]],.agg [.v (.bool false),.lst 1 [],.lst 1 []],.agg [.v (.bool false),.lst 1 [.v (.int .u32 622)],.lst 1 [.v (.int .u32 1)]],.agg [.v (.bool false),.lst 1 [],.lst 1 []],.agg [.v (.bool false),.lst 1 [.v (.int .u32 231)],.lst 1 [.v (.int .u32 1)]]]
def y9:AV:=.lst 3 [.agg [.v (.bool false),.lst 1 [.v (.int .u32 45)],.lst 1 [.v (.int .u32 77)]],.agg [.v (.bool false),.lst 1 [],.lst 1 []],.agg [.v (.bool false),.lst 1 [.v (.int .u32 622)],.lst 1 [.v (.int .u32 231)]],.agg [.v (.bool false),.lst 1 [],.lst 1 []],.agg [.v (.bool false),.lst 1 [.v (.int .u32 1)],.lst 1 [.v (.int .u32 1)]]]
def KG:AV:=.lst 1 [tg]
def KJ:AV:=.lst 7 [Vj,R7,VS,acl]
def G6:AV:=.lst 1 [y9,zf,x9,Ax,.lst 3 [.agg [.v (.bool false),.lst 1 [.v (.int .u32 45)],.lst 1 [.v (.int .u32 77)]]]]
def QN:AV:=.lst 2 [HQ,N7,NE,Zo]
def Qo:AV:=.lst 2 [HQ,N7,NE,VU]
def Nf:AV:=.agg [.v (.string ⟨⟨[102,111,117,114,98,97,114]⟩⟩),QN,KJ,.lst 2 [.agg [.v (.string ⟨⟨[109]⟩⟩),.v (.int .i64 1)]]]
def My:AV:=.agg [.v (.string ⟨⟨[102,111,117,114,98,97,114]⟩⟩),Qo,KJ,.lst 2 [.agg [.v (.string ⟨⟨[109]⟩⟩),.v (.int .i64 1)]]]
theorem Rx:Con prog 28 [.v (.int .i64 2)] [] (Nf) []:=bQ ⟨bK [] (bO),bM prog,bJ⟩ 6000 (base:=2000) (av:=[]) (by kernel_rfl)
def LK:List (Ent prog):=⟨_,_,_,_,Rx⟩::[]
theorem QW:Con prog 28 [.v (.int .i64 1)] [] (My) []:=bQ ⟨bK LK (bO),bM prog,bJ⟩ 6000 (base:=2000) (av:=[]) (by kernel_rfl)
def G4:List (Ent prog):=⟨_,_,_,_,QW⟩::LK
theorem Uf:Con prog 343 [tg] [] (.tup [.agg [.v (.bool false),.lst 1 [.v (.int .u32 4)],.lst 1 [.v (.int .u32 1)]],.v .nilIface]) []:=bQ ⟨bK G4 (bO),bM prog,bJ⟩ 6000 (base:=2000) (av:=[]) (by kernel_rfl)
def Ll:List (Ent prog):=⟨_,_,_,_,Uf⟩::G4
theorem TE:Con prog 266 [tg] [] (.tup [.ms 300 3 0 5,.v .nilIface]) [pP 300 (.row 3 [.agg [.v (.bool false),.lst 1 [.v (.int .u32 45)],.lst 1 [.v (.int .u32 77)]],.agg [.v (.bool false),.lst 1 [],.lst 1 []],.agg [.v (.bool false),.lst 1 [.v (.int .u32 622)],.lst 1 [.v (.int .u32 231)]],.agg [.v (.bool false),.lst 1 [],.lst 1 []],.agg [.v (.bool false),.lst 1 [.v (.int .u32 1)],.lst 1 [.v (.int .u32 1)]]])]:=bQ ⟨bK Ll (bO),bM prog,bJ⟩ 6000 (base:=2000) (av:=[]) (by kernel_rfl)
def MZ:List (Ent prog):=⟨_,_,_,_,TE⟩::Ll
theorem R8:Con prog 267 [y9] [] (.tup [.ms 300 3 0 4,.v .nilIface]) [pP 300 (.row 3 [.agg [.v (.bool false),.lst 1 [],.lst 1 []],.agg [.v (.bool false),.lst 1 [.v (.int .u32 1244)],.lst 1 [.v (.int .u32 231)]],.agg [.v (.bool false),.lst 1 [],.lst 1 []],.agg [.v (.bool false),.lst 1 [.v (.int .u32 4)],.lst 1 [.v (.int .u32 1)]]])]:=bQ ⟨bK MZ (bO),bM prog,bJ⟩ 6000 (base:=2000) (av:=[]) (by kernel_rfl)
def Kg:List (Ent prog):=⟨_,_,_,_,R8⟩::MZ
theorem Vf:Con prog 366 [y9,zf] [] (.tup [.ms 300 3 0 2,.ms 301 3 0 3,.v .nilIface]) [pP 300 (.row 3 [.agg [.v (.bool false),.lst 1 [],.lst 1 []],.agg [.v (.bool false),.lst 1 [.v (.int .u32 1)],.lst 1 [.v (.int .u32 4)]]]),pP 301 (.row 3 [.agg [.v (.bool false),.lst 1 [.v (.int .u32 45)],.lst 1 [.v (.int .u32 77)]],.agg [.v (.bool false),.lst 1 [],.lst 1 []],.agg [.v (.bool false),.lst 1 [.v (.int .u32 311)],.lst 1 [.v (.int .u32 231)]],.agg [.v (.bool false),.lst 1 [],.lst 1 []],.agg [.v (.bool false),.lst 1 [],.lst 1 []]])]:=bQ ⟨bK Kg (bO),bM prog,bJ⟩ 6000 (base:=2000) (av:=[]) (by kernel_rfl)
def JU:List (Ent prog):=⟨_,_,_,_,Vf⟩::Kg
theorem YN:Con prog 287 [.lst 3 [.agg [.v (.bool false),.lst 1 [.v (.int .u32 45)],.lst 1 [.v (.int .u32 77)]],.agg [.v (.bool false),.lst 1 [],.lst 1 []],.agg [.v (.bool false),.lst 1 [.v (.int .u32 311)],.lst 1 [.v (.int .u32 231)]]],.agg [.v (.bool true),.lst 1 [.v (.int .u32 1)],.lst 1 [.v (.int .u32 1)]]] [] (.tup [.ms 300 3 0 3,.v .nilIface]) [pP 300 (.row 3 [.agg [.v (.bool true),.lst 1 [.v (.int .u32 45)],.lst 1 [.v (.int .u32 77)]],.agg [.v (.bool false),.lst 1 [],.lst 1 []],.agg [.v (.bool true),.lst 1 [.v (.int .u32 311)],.lst 1 [.v (.int .u32 231)]]])]:=bQ ⟨bK JU (bO),bM prog,bJ⟩ 6000 (base:=2000) (av:=[]) (by kernel_rfl)
def Ib:List (Ent prog):=⟨_,_,_,_,YN⟩::JU
theorem Vs:Con prog 366 [zf,x9] [] (.tup [.ms 300 3 0 2,.ms 301 3 0 2,.v .nilIface]) [pP 300 (.row 3 [.agg [.v (.bool false),.lst 1 [],.lst 1 []],.agg [.v (.bool true),.lst 1 [.v (.int .u32 924)],.lst 1 [.v (.int .u32 311)]]]),pP 301 (.row 3 [.agg [.v (.bool false),.lst 1 [],.lst 1 []],.agg [.v (.bool false),.lst 1 [.v (.int .u32 262144)],.lst 1 [.v (.int .u32 71841)]],.agg [.v (.bool false),.lst 1 [],.lst 1 []],.agg [.v (.bool false),.lst 1 [],.lst 1 []]])]:=bQ ⟨bK Ib (bO),bM prog,bJ⟩ 6000 (base:=2000) (av:=[]) (by kernel_rfl)
def Mm:List (Ent prog):=⟨_,_,_,_,Vs⟩::Ib
theorem ZO:Con prog 287 [.lst 3 [.agg [.v (.bool false),.lst 1 [],.lst 1 []],.agg [.v (.bool false),.lst 1 [.v (.int .u32 262144)],.lst 1 [.v (.int .u32 71841)]]],.agg [.v (.bool true),.lst 1 [.v (.int .u32 1)],.lst 1 [.v (.int .u32 1)]]] [] (.tup [.ms 300 3 0 2,.v .nilIface]) [pP 300 (.row 3 [.agg [.v (.bool false),.lst 1 [],.lst 1 []],.agg [.v (.bool true),.lst 1 [.v (.int .u32 262144)],.lst 1 [.v (.int .u32 71841)]]])]:=bQ ⟨bK Mm (bO),bM prog,bJ⟩ 6000 (base:=2000) (av:=[]) (by kernel_rfl)
def HM:List (Ent prog):=⟨_,_,_,_,ZO⟩::Mm
theorem Qg:Con prog 366 [x9,Ax] [] (.tup [.ms 300 3 0 2,.ms 301 3 0 1,.v .nilIface]) [pP 300 (.row 3 [.agg [.v (.bool false),.lst 1 [],.lst 1 []],.agg [.v (.bool false),.lst 1 [.v (.int .u32 96721)],.lst 1 [.v (.int .u32 262144)]]]),pP 301 (.row 3 [.agg [.v (.bool true),.lst 1 [.v (.int .u32 45)],.lst 1 [.v (.int .u32 77)]],.agg [.v (.bool false),.lst 1 [],.lst 1 []],.agg [.v (.bool false),.lst 1 [],.lst 1 []]])]:=bQ ⟨bK HM (bO),bM prog,bJ⟩ 6000 (base:=2000) (av:=[]) (by kernel_rfl)
def KF:List (Ent prog):=⟨_,_,_,_,Qg⟩::HM
theorem TC:Con prog 287 [.lst 3 [.agg [.v (.bool true),.lst 1 [.v (.int .u32 45)],.lst 1 [.v (.int .u32 77)]]],.agg [.v (.bool true),.lst 1 [.v (.int .u32 1)],.lst 1 [.v (.int .u32 1)]]] [] (.tup [.ms 300 3 0 1,.v .nilIface]) [pP 300 (.row 3 [.agg [.v (.bool false),.lst 1 [.v (.int .u32 45)],.lst 1 [.v (.int .u32 77)]]])]:=bQ ⟨bK KF (bO),bM prog,bJ⟩ 6000 (base:=2000) (av:=[]) (by kernel_rfl)
def Iq:List (Ent prog):=⟨_,_,_,_,TC⟩::KF
theorem Vb:Con prog 366 [Ax,.lst 3 [.agg [.v (.bool false),.lst 1 [.v (.int .u32 45)],.lst 1 [.v (.int .u32 77)]]]] [] (.tup [.ms 300 3 0 2,.ms 301 3 0 0,.v .nilIface]) [pP 300 (.row 3 [.agg [.v (.bool false),.lst 1 [],.lst 1 []],.agg [.v (.bool true),.lst 1 [.v (.int .u32 262144)],.lst 1 [.v (.int .u32 41985)]]]),pP 301 (.row 3 [.agg [.v (.bool false),.lst 1 [],.lst 1 []],.agg [.v (.bool false),.lst 1 [],.lst 1 []]])]:=bQ ⟨bK Iq (bO),bM prog,bJ⟩ 6000 (base:=2000) (av:=[]) (by kernel_rfl)
def GQ:List (Ent prog):=⟨_,_,_,_,Vb⟩::Iq
theorem VE:Con prog 287 [.lst 3 [],.agg [.v (.bool true),.lst 1 [.v (.int .u32 1)],.lst 1 [.v (.int .u32 1)]]] [] (.tup [.v (.slice none 0 0),.v .nilIface]) []:=bQ ⟨bK GQ (bO),bM prog,bJ⟩ 6000 (base:=2000) (av:=[]) (by kernel_rfl)
def NU:List (Ent prog):=⟨_,_,_,_,VE⟩::GQ
theorem Zb:Con prog 344 [tg] [] (.tup [.ms 300 1 0 5,.v .nilIface]) [pP 300 (.row 1 [y9,zf,x9,Ax,.lst 3 [.agg [.v (.bool false),.lst 1 [.v (.int .u32 45)],.lst 1 [.v (.int .u32 77)]]]])]:=bQ ⟨bK NU (bO),bM prog,bJ⟩ 6000 (base:=2000) (av:=[]) (by kernel_rfl)
def NJ:List (Ent prog):=⟨_,_,_,_,Zb⟩::NU
theorem abz:Con prog 391 [G6,.agg [.v (.bool true),.lst 1 [.v (.int .u32 4)],.lst 1 [.v (.int .u32 1)]]] [] (.v (.int .i64 2)) []:=bQ ⟨bK NJ (bO),bM prog,bJ⟩ 6000 (base:=2000) (av:=[]) (by kernel_rfl)
def Np:List (Ent prog):=⟨_,_,_,_,abz⟩::NJ
theorem Ty:Con prog 391 [G6,.agg [.v (.bool false),.lst 1 [.v (.int .u32 4)],.lst 1 [.v (.int .u32 1)]]] [] (.v (.int .i64 2)) []:=bQ ⟨bK Np (bO),bM prog,bJ⟩ 6000 (base:=2000) (av:=[]) (by kernel_rfl)
def Js:List (Ent prog):=⟨_,_,_,_,Ty⟩::Np
theorem XJ:Con prog 265 [tg] [] (.tup [.v (.slice none 0 0),.v .nilIface]) []:=bQ ⟨bK Js (bO),bM prog,bJ⟩ 6000 (base:=2000) (av:=[]) (by kernel_rfl)
def Oa:List (Ent prog):=⟨_,_,_,_,XJ⟩::Js
theorem Yp:Con prog 167 [tg] [] (.tup [.v (.slice none 0 0),.v .nilIface]) []:=bQ ⟨bK Oa (bO),bM prog,bJ⟩ 6000 (base:=2000) (av:=[]) (by kernel_rfl)
def MX:List (Ent prog):=⟨_,_,_,_,Yp⟩::Oa
theorem aa0:Con prog 79 [KG,.lst 1 [.v (.int .i64 4)]] [] (.tup [.v (.slice none 0 0),.v (.bool false),.v .nilIface]) []:=bQ ⟨bK MX (bO),bM prog,bJ⟩ 6000 (base:=2000) (av:=[]) (by kernel_rfl)
def Ls:List (Ent prog):=⟨_,_,_,_,aa0⟩::MX
theorem RT:Con prog 81 [.v (.slice none 0 0),.v (.bool false),.v (.int .i64 0)] [] (.tup [.agg [.v (.bool false),.v (.slice none 0 0),.v (.slice none 0 0),.v (.bool false)],.v .nilIface]) []:=bQ ⟨bK Ls (bO),bM prog,bJ⟩ 6000 (base:=2000) (av:=[]) (by kernel_rfl)
def J7:List (Ent prog):=⟨_,_,_,_,RT⟩::Ls
theorem SC:Con prog 38 [KG,.lst 1 [.v (.int .i64 4)],.agg [.v (.bool false),.v (.slice none 0 0),.v (.slice none 0 0),.v (.bool false)]] [] (.tup [.ms 300 1 0 1,.v .nilIface]) [pP 300 (.row 1 [.v (.int .i64 1)])]:=bQ ⟨bK J7 (bO),bM prog,bJ⟩ 6000 (base:=2000) (av:=[]) (by kernel_rfl)
def GR:List (Ent prog):=⟨_,_,_,_,SC⟩::J7
theorem WR:Con prog 30 [Nf] [] (.tup [.agg [.v (.slice none 0 0),.v (.bool false),.ms 301 1 0 1,.v (.slice none 0 0)],.v .nilIface]) [pP 301 (.row 1 [.v (.bool true)])]:=bQ ⟨bK GR (bO),bM prog,bJ⟩ 6000 (base:=2000) (av:=[]) (by kernel_rfl)
def LY:List (Ent prog):=⟨_,_,_,_,WR⟩::GR
theorem RL:Con prog 343 [qN] [] (.tup [.agg [.v (.bool false),.lst 1 [.v (.int .u32 2)],.lst 1 [.v (.int .u32 1)]],.v .nilIface]) []:=bQ ⟨bK LY (bO),bM prog,bJ⟩ 6000 (base:=2000) (av:=[]) (by kernel_rfl)
def L3:List (Ent prog):=⟨_,_,_,_,RL⟩::LY
theorem Si:Con prog 266 [qN] [] (.tup [.ms 300 3 0 2,.v .nilIface]) [pP 300 (.row 3 [.agg [.v (.bool false),.lst 1 [],.lst 1 []],.agg [.v (.bool false),.lst 1 [.v (.int .u32 1)],.lst 1 [.v (.int .u32 1)]]])]:=bQ ⟨bK L3 (bO),bM prog,bJ⟩ 6000 (base:=2000) (av:=[]) (by kernel_rfl)
def Ks:List (Ent prog):=⟨_,_,_,_,Si⟩::L3
theorem ZX:Con prog 267 [oW] [] (.tup [.ms 300 3 0 1,.v .nilIface]) [pP 300 (.row 3 [.agg [.v (.bool false),.lst 1 [.v (.int .u32 1)],.lst 1 [.v (.int .u32 1)]]])]:=bQ ⟨bK Ks (bO),bM prog,bJ⟩ 6000 (base:=2000) (av:=[]) (by kernel_rfl)
def KX:List (Ent prog):=⟨_,_,_,_,ZX⟩::Ks
theorem Zm:Con prog 366 [oW,.lst 3 [.agg [.v (.bool false),.lst 1 [.v (.int .u32 1)],.lst 1 [.v (.int .u32 1)]]]] [] (.tup [.ms 300 3 0 2,.ms 301 3 0 0,.v .nilIface]) [pP 300 (.row 3 [.agg [.v (.bool false),.lst 1 [],.lst 1 []],.agg [.v (.bool false),.lst 1 [.v (.int .u32 1)],.lst 1 [.v (.int .u32 1)]]]),pP 301 (.row 3 [.agg [.v (.bool false),.lst 1 [],.lst 1 []],.agg [.v (.bool false),.lst 1 [],.lst 1 []]])]:=bQ ⟨bK KX (bO),bM prog,bJ⟩ 6000 (base:=2000) (av:=[]) (by kernel_rfl)
def OF:List (Ent prog):=⟨_,_,_,_,Zm⟩::KX
theorem XM:Con prog 344 [qN] [] (.tup [.ms 300 1 0 2,.v .nilIface]) [pP 300 (.row 1 [oW,.lst 3 [.agg [.v (.bool false),.lst 1 [.v (.int .u32 1)],.lst 1 [.v (.int .u32 1)]]]])]:=bQ ⟨bK OF (bO),bM prog,bJ⟩ 6000 (base:=2000) (av:=[]) (by kernel_rfl)
def KM:List (Ent prog):=⟨_,_,_,_,XM⟩::OF
theorem We:Con prog 391 [Ob,.agg [.v (.bool true),.lst 1 [.v (.int .u32 2)],.lst 1 [.v (.int .u32 1)]]] [] (.v (.int .i64 1)) []:=bQ ⟨bK KM (bO),bM prog,bJ⟩ 6000 (base:=2000) (av:=[]) (by kernel_rfl)
def Ha:List (Ent prog):=⟨_,_,_,_,We⟩::KM
theorem V2:Con prog 391 [Ob,.agg [.v (.bool false),.lst 1 [.v (.int .u32 2)],.lst 1 [.v (.int .u32 1)]]] [] (.v (.int .i64 0)) []:=bQ ⟨bK Ha (bO),bM prog,bJ⟩ 6000 (base:=2000) (av:=[]) (by kernel_rfl)
def G9:List (Ent prog):=⟨_,_,_,_,V2⟩::Ha
theorem WZ:Con prog 265 [qN] [] (.tup [.ms 300 6 0 1,.v .nilIface]) [pP 300 (.row 6 [.agg [.v (.bool true),.lst 1 [.v (.int .u32 2)],.lst 1 [.v (.int .u32 1)],.v (.bool false),.lst 1 [.v (.int .u32 2)],.lst 1 [.v (.int .u32 1)]]])]:=bQ ⟨bK G9 (bO),bM prog,bJ⟩ 6000 (base:=2000) (av:=[]) (by kernel_rfl)
def L6:List (Ent prog):=⟨_,_,_,_,WZ⟩::G9
theorem ZD:Con prog 167 [qN] [] (.tup [.ms 300 7 0 1,.v .nilIface]) [pP 300 (.row 7 [zQ])]:=bQ ⟨bK L6 (bO),bM prog,bJ⟩ 6000 (base:=2000) (av:=[]) (by kernel_rfl)
def L9:List (Ent prog):=⟨_,_,_,_,ZD⟩::L6
theorem XC:Con prog 79 [zJ,.lst 1 [.v (.int .i64 4)]] [] (.tup [.ms 300 7 0 1,.v (.bool true),.v .nilIface]) [pP 300 (.row 7 [zQ])]:=bQ ⟨bK L9 (bO),bM prog,bJ⟩ 6000 (base:=2000) (av:=[]) (by kernel_rfl)
def LT:List (Ent prog):=⟨_,_,_,_,XC⟩::L9
theorem RO:Con prog 266 [oW] [] (.tup [.ms 300 3 0 2,.v .nilIface]) [pP 300 (.row 3 [.agg [.v (.bool false),.lst 1 [],.lst 1 []],.agg [.v (.bool false),.lst 1 [.v (.int .u32 1)],.lst 1 [.v (.int .u32 1)]]])]:=bQ ⟨bK LT (bO),bM prog,bJ⟩ 6000 (base:=2000) (av:=[]) (by kernel_rfl)
def G8:List (Ent prog):=⟨_,_,_,_,RO⟩::LT
theorem RI:Con prog 344 [oW] [] (.tup [.ms 300 1 0 2,.v .nilIface]) [pP 300 (.row 1 [oW,.lst 3 [.agg [.v (.bool false),.lst 1 [.v (.int .u32 1)],.lst 1 [.v (.int .u32 1)]]]])]:=bQ ⟨bK G8 (bO),bM prog,bJ⟩ 6000 (base:=2000) (av:=[]) (by kernel_rfl)
def IW:List (Ent prog):=⟨_,_,_,_,RI⟩::G8
theorem Z6:Con prog 80 [qN,zQ] [] (.tup [.v (.int .i64 0),.v .nilIface]) []:=bQ ⟨bK IW (bO),bM prog,bJ⟩ 6000 (base:=2000) (av:=[]) (by kernel_rfl)
def Kq:List (Ent prog):=⟨_,_,_,_,Z6⟩::IW
theorem ZE:Con prog 38 [zJ,.lst 1 [.v (.int .i64 4)],.agg [.v (.bool false),.v (.slice none 0 0),.v (.slice none 0 0),.v (.bool true)]] [] (.tup [.ms 300 1 0 1,.v .nilIface]) [pP 300 (.row 1 [.v (.int .i64 0)])]:=bQ ⟨bK Kq (bO),bM prog,bJ⟩ 6000 (base:=2000) (av:=[]) (by kernel_rfl)
def JD:List (Ent prog):=⟨_,_,_,_,ZE⟩::Kq
theorem Wu:Con prog 81 [D8,.v (.bool true),.v (.int .i64 0)] [] (.tup [.agg [.v (.bool false),.lst 1 [.v (.int .u32 1)],.lst 1 [.v (.int .u32 1)],.v (.bool false)],.v .nilIface]) []:=bQ ⟨bK JD (bO),bM prog,bJ⟩ 6000 (base:=2000) (av:=[]) (by kernel_rfl)
def MJ:List (Ent prog):=⟨_,_,_,_,Wu⟩::JD
theorem aam:Con prog 38 [zJ,.lst 1 [.v (.int .i64 4)],.agg [.v (.bool false),.lst 1 [.v (.int .u32 1)],.lst 1 [.v (.int .u32 1)],.v (.bool false)]] [] (.tup [.ms 300 1 0 1,.v .nilIface]) [pP 300 (.row 1 [.v (.int .i64 1)])]:=bQ ⟨bK MJ (bO),bM prog,bJ⟩ 6000 (base:=2000) (av:=[]) (by kernel_rfl)
def Jv:List (Ent prog):=⟨_,_,_,_,aam⟩::MJ
theorem Vm:Con prog 81 [D8,.v (.bool true),.v (.int .i64 1)] [] (.tup [.agg [.v (.bool true),.lst 1 [.v (.int .u32 1)],.lst 1 [.v (.int .u32 1)],.v (.bool false)],.v .nilIface]) []:=bQ ⟨bK Jv (bO),bM prog,bJ⟩ 6000 (base:=2000) (av:=[]) (by kernel_rfl)
def IQ:List (Ent prog):=⟨_,_,_,_,Vm⟩::Jv
theorem Q0:Con prog 38 [zJ,.lst 1 [.v (.int .i64 4)],.agg [.v (.bool true),.lst 1 [.v (.int .u32 1)],.lst 1 [.v (.int .u32 1)],.v (.bool false)]] [] (.tup [.ms 300 1 0 1,.v .nilIface]) [pP 300 (.row 1 [.v (.int .i64 1)])]:=bQ ⟨bK IQ (bO),bM prog,bJ⟩ 6000 (base:=2000) (av:=[]) (by kernel_rfl)
def KI:List (Ent prog):=⟨_,_,_,_,Q0⟩::IQ
theorem YV:Con prog 30 [My] [] (.tup [.agg [D8,.v (.bool true),.ms 301 1 0 2,.ms 302 1 0 2],.v .nilIface]) [pP 301 (.row 1 [.v (.bool true),.v (.bool true)]),pP 302 (.row 1 [.v (.bool true),.v (.bool true)])]:=bQ ⟨bK KI (bO),bM prog,bJ⟩ 6000 (base:=2000) (av:=[]) (by kernel_rfl)
def TG:List (Ent prog):=⟨_,_,_,_,YV⟩::KI
theorem Xt:FP 7 [] (bl true):=bQ ⟨bK TG (bO),bM prog,bJ⟩ 6000 (base:=2000) (av:=[]) (by kernel_rfl)
end Go.Lw
namespace Go.Lw
open Go.Proofs Go.Proofs.YtmencaoblogmeaaGreat
open Go.ChangeShapes Go.WideShapes Go.ChangeAt Go.RowKit
set_option maxRecDepth 100000 in
theorem Qt(os:Os)(started:os.Started)(H:Type)(enc:ajr×ajq->H) :
  ReturnsInHanded {} Tryz.checked os 4 .any (Rows.limitsExistsSpec.pre6 enc prog Tryz.f4 Rows.limitsExistsRow.domain false) (Rows.limitsExistsSpec.post enc prog Tryz.f4 false true false false):=by
 refine returnsInHanded_of_change_sized (C := Tryz.checked) own started (by kernel_rfl) func4
  (ChangeSpec.witness6 (enc:=enc) (C:=Tryz.checked) false ⟨#[],#[.agg #[.string ⟨#[]⟩,.slice none 0 0,.slice none 0 0,.slice none 0 0],.agg #[.bool false,.slice none 0 0,.slice none 0 0,.bool false]],[]⟩ 8 (by kernel_rfl) (by kernel_rfl) (by kernel_rfl) (by kernel_rfl)) ?_
 intro W base args ds gs before P6 hW ad4 P7 _;have ji:∀(j:Nat) t v,Tryz.f4.params[j]?=some t->args[j]?=some v->Value.okWide prog W .any base t v:=P6;have c9:(DataW.weightsEach prog (Tryz.f4.params.toList++Rows.limitsExistsSpec.plain.varTypes prog) (ds++gs)).all (· <= reachBytes)=true:=P7;have hW':=hW;obtain⟨p,q,P8,hV,rfl,hfz,b7⟩:=hW;have hA:DataW.TrodAll enc prog W 0 (fun _=>true) true Tryz.f4.params.toList args.toList ds p:=P8;rw[Tryz.params4]at hA ji c9;obtain⟨v0,v1,d0,d1,p0,p1,rfl,rfl,rfl,h0,h1⟩:=trodAll_two hA;obtain⟨rfl,rfl⟩:=trodVars_none hV;clear P8 P6 P7;have hlt:∀x∈p0++p1,x.block<W.heap.size:=fun x hx=>hW'.lt x (by simpa using hx)
 have Gk:∀n∈d0.weights prog 26,n<=reachBytes:=fun n hn=>by
  have:=aif.1 c9 n (DataW.weights_mem_each (j:=0) rfl rfl n hn);simpa using this
 have jN:∀n∈d1.weights prog 46,n<=reachBytes:=fun n hn=>by
  have:=aif.1 c9 n (DataW.weights_mem_each (j:=1) rfl rfl n hn);simpa using this
 obtain⟨x0,q0,r0⟩:=On Tryz.underlying26 VX (ji 0 26 v0 rfl rfl) h0 Gk;obtain⟨x1,q1,r1⟩:=On Tryz.underlying46 Ux (ji 1 46 v1 rfl rfl) h1 jN
 have hc:=jF.calls (W:=W) (vs:=#[v0,v1]) (WY Xt x0 q0 x1 q1) rfl (fun j v x hv hx=>by
  match j,hv,hx with
  |0,hv,hx=>cases hv;cases hx;exact r0
  |1,hv,hx=>cases hv;cases hx;exact r1)
 refine hc.mono fun e W' ⟨he,hb⟩=>?_
 subst he;refine⟨_,rfl,S1 hW' rfl rfl (fun _ _ _=>trodAll_mk1 (shut_bool Tryz.underlying4 _)) (fun sp gq=>?_) rfl hb (ok_one (by kernel_rfl) rfl (okWide_bool_mk Tryz.underlying4 _))⟩;rw[Tryz.params4];have hs:∀x∈p0++p1,sp x.block=true:=fun x hx=>gq x (by simpa using hx)
 have g0:=M4 (sp':=sp) (by kernel_rfl) (aji (by kernel_rfl)) h0 hb (fun x hx=>hlt x (by simp[hx])) (fun x hx=>hs x (by simp[hx]));have g1:=M4 (sp':=sp) (by kernel_rfl) (aji (by kernel_rfl)) h1 hb (fun x hx=>hlt x (by simp[hx])) (fun x hx=>hs x (by simp[hx]));have g:=trodAll_mk2 g0 g1;rw[show p0++p1++[]=p0++p1 from by simp];exact g
set_option maxRecDepth 100000 in
theorem Yw:prog.closure 4=[4,6,25,26,74,161,259,258,260,75,162,106,205,207,303,372,305,365,373,401,375,370,374,363,282,175,174,206,304,280,301,294,364,208,76,163,164,261,96,197,200,173,281,362,400,193,201,302,107,77,9,34,85,190,289,191,290,368,291,369,403,292,86,35,87,88,102,95,192,82,293,94,196,298,297,99,97,198,295,93,195,89,90,92,98,199,300,299,91,194,296,371,404,100,101,27,13,7,28,78,8,33,17,42,110,209,306,376,377,405,210,104,203,119,160,221,218,222,315,316,331,317,318,314,319,320,121,48,47,204,73,216,211,307,308,352,72,117,220,212,111,213,309,378,311,381,382,380,214,310,379,313,312,215,43,112,83,123,223,321,84,176,177,178,283,179,19,46,118,120,217,219,165,262,45,116,24,186,287,70,367,402,71,284,182,172,279,185,286,263,180,188,288,181,183,184,187,166,264,285,366,346,389,361,189,29,30,79,105,167,265,343,350,390,344,266,348,347,349,267,345,391,392,23,278,357,356,393,396,407,80,168,268,269,351,353,169,270,271,355,394,395,354,272,273,277,38,39,81,170,274,358,397,398,275,359,399,360,276,171,31,12,36,103,202,11,32,14,37,15,40,41,108,109,10]:=by kernel_rfl
theorem Yy:joinedFacts prog 4 Tryz.f4 Rows.limitsExistsSpec Rows.limitsExistsRow=true:=by
 unfold joinedFacts Program.recurses Program.inPlace Program.unfollowed Program.varsNamed;rw[Yw,LZ,S3,Tf,VC,XH,X4]
 kernel_rfl
theorem limitsExists_holds:Rows.LimitsExistsSaid :=
 OpenClaim.holds_of_wide 4 Tryz.f4 rfl rfl rfl rfl rfl rfl rfl ⟨rfl, rfl, rfl, rfl, rfl⟩ rfl rfl rfl rfl rfl (by kernel_rfl) func4 Yy
  (aji (by kernel_rfl)) (by unfold Func.isWrapper;first |(rw[ajg (by decide +kernel)];kernel_rfl) |(rw[ajf (by decide +kernel)];exact⟨rfl,rfl⟩))
  (fun os started H enc _=>Qt os started H enc)
end Go.Lw
namespace Go.Proofs.YtmencaoblogmeaaGreat
theorem limitsExists_proved:Rows.LimitsExistsSaid:=Go.Lw.limitsExists_holds
end Go.Proofs.YtmencaoblogmeaaGreat
