/- LimitsRadicands: for any linkage the law returns true and leaves its argument as it was. No other condition. Part 8 of 8: the statement -/
import Derived.Test.YtmencaoblogmeaaGreatXg
set_option linter.unusedVariables false
open List renaming all_eq_true → ahs
open Go renaming Value → ai3, TypeId → ai4
open Go.Proofs.Tryz
namespace Go.Lw
open Go.Proofs
set_option maxRecDepth 20000
def pu:AV:=.lst 3 [.agg [.v (.bool false),.lst 1 [],.lst 1 []],.agg [.v (.bool false),.lst 1 [.v (.int .u32 1)],.lst 1 [.v (.int .u32 1)]]]
def YJ:AV:=.agg [.v (.string ⟨⟨[98]⟩⟩),.v (.bool false),.lst 1 [.v (.int .u32 1)],.lst 1 [.v (.int .u32 1)],.v (.bool false),.lst 1 [],.lst 1 []]
def abi:AV:=.agg [.v (.string ⟨⟨[99]⟩⟩),.v (.bool false),.lst 1 [.v (.int .u32 4)],.lst 1 [.v (.int .u32 1)],.v (.bool false),.lst 1 [],.lst 1 []]
def XB:AV:=.agg [.v (.string ⟨⟨[99]⟩⟩),.v (.bool false),.lst 1 [.v (.int .u32 2)],.lst 1 [.v (.int .u32 1)],.v (.bool false),.lst 1 [],.lst 1 []]
def PU:AV:=.agg [.v (.string ⟨⟨[99]⟩⟩),.v (.bool false),.lst 1 [.v (.int .u32 1)],.lst 1 [.v (.int .u32 1)],.v (.bool false),.lst 1 [],.lst 1 []]
def Vb:AV:=.agg [.v (.string ⟨⟨[100]⟩⟩),.v (.bool false),.lst 1 [.v (.int .u32 4)],.lst 1 [.v (.int .u32 1)],.v (.bool false),.lst 1 [],.lst 1 []]
def ab7:AV:=.agg [.v (.string ⟨⟨[106,49]⟩⟩),.v (.int .i64 0),.v (.int .i64 0),.v (.int .i64 0),.v (.int .i64 1),.v (.int .i64 0),.v (.int .i64 0)]
def X6:AV:=.agg [.v (.string ⟨⟨[106,50]⟩⟩),.v (.int .i64 0),.v (.int .i64 1),.v (.int .i64 1),.v (.int .i64 2),.v (.int .i64 0),.v (.int .i64 0)]
def YX:AV:=.agg [.v (.string ⟨⟨[106,51]⟩⟩),.v (.int .i64 0),.v (.int .i64 0),.v (.int .i64 1),.v (.int .i64 3),.v (.int .i64 0),.v (.int .i64 0)]
def WQ:AV:=.agg [.v (.string ⟨⟨[106,52]⟩⟩),.v (.int .i64 0),.v (.int .i64 2),.v (.int .i64 1),.v (.int .i64 3),.v (.int .i64 1),.v (.int .i64 0)]
def AL:AV:=.lst 3 [.agg [.v (.bool false),.lst 1 [],.lst 1 []],.agg [.v (.bool true),.lst 1 [.v (.int .u32 262144)],.lst 1 [.v (.int .u32 71841)]]]
def qO:AV:=.lst 3 [.agg [.v (.bool false),.lst 1 [],.lst 1 []],.agg [.v (.bool false),.lst 1 [],.lst 1 []],.agg [.v (.bool false),.lst 1 [.v (.int .u32 256)],.lst 1 [.v (.int .u32 1)]]]
def AK:AV:=.lst 1 [qO]
def yg:AV:=.lst 3 [.agg [.v (.bool true),.lst 1 [.v (.int .u32 45)],.lst 1 [.v (.int .u32 77)]],.agg [.v (.bool false),.lst 1 [],.lst 1 []],.agg [.v (.bool true),.lst 1 [.v (.int .u32 311)],.lst 1 [.v (.int .u32 231)]]]
def MV:AV:=.lst 1 [pu,.lst 3 [.agg [.v (.bool false),.lst 1 [.v (.int .u32 1)],.lst 1 [.v (.int .u32 1)]]]]
def Vw:AV:=.lst 7 [.agg [.v (.string ⟨⟨[97]⟩⟩),.v (.bool false),.lst 1 [],.lst 1 [],.v (.bool false),.lst 1 [],.lst 1 []],YJ]
def X3:AV:=.lst 7 [.agg [.v (.string ⟨⟨[98]⟩⟩),.v (.bool false),.lst 1 [],.lst 1 [],.v (.bool false),.lst 1 [],.lst 1 []],abi]
def ZF:AV:=.lst 7 [.agg [.v (.string ⟨⟨[97]⟩⟩),.v (.bool false),.lst 1 [],.lst 1 [],.v (.bool false),.lst 1 [],.lst 1 []],Vb]
def S9:AV:=.lst 7 [.agg [.v (.string ⟨⟨[100]⟩⟩),.v (.bool false),.lst 1 [],.lst 1 [],.v (.bool false),.lst 1 [],.lst 1 []],XB]
def Rz:AV:=.lst 7 [.agg [.v (.string ⟨⟨[100]⟩⟩),.v (.bool false),.lst 1 [],.lst 1 [],.v (.bool false),.lst 1 [],.lst 1 []],PU]
def zr:AV:=.lst 3 [.agg [.v (.bool false),.lst 1 [],.lst 1 []],.agg [.v (.bool false),.lst 1 [.v (.int .u32 1244)],.lst 1 [.v (.int .u32 231)]],.agg [.v (.bool false),.lst 1 [],.lst 1 []],.agg [.v (.bool false),.lst 1 [.v (.int .u32 4)],.lst 1 [.v (.int .u32 1)]]]
def yN:AV:=.agg [pu,.v (.bool true),.lst 1 [.v (.int .u32 2)],.lst 1 [.v (.int .u32 1)],.v (.bool false),.lst 1 [.v (.int .u32 2)],.lst 1 [.v (.int .u32 1)]]
def Cl:AV:=.lst 7 [yN]
def IZ:AV:=.agg [.v (.string ⟨⟨[99,114,97,110,107]⟩⟩),Vw]
def H6:AV:=.agg [.v (.string ⟨⟨[102,114,97,109,101]⟩⟩),ZF]
def SN:AV:=.agg [.v (.string ⟨⟨[114,111,99,107,101,114]⟩⟩),S9]
def Q3:AV:=.agg [.v (.string ⟨⟨[114,111,99,107,101,114]⟩⟩),Rz]
def HB:AV:=.agg [.v (.string ⟨⟨[99,111,117,112,108,101,114]⟩⟩),X3]
def tz:AV:=.lst 3 [.agg [.v (.bool false),.lst 1 [.v (.int .u32 135)],.lst 1 [.v (.int .u32 1)]],.agg [.v (.bool false),.lst 1 [],.lst 1 []],.agg [.v (.bool false),.lst 1 [.v (.int .u32 622)],.lst 1 [.v (.int .u32 1)]],.agg [.v (.bool false),.lst 1 [],.lst 1 []],.agg [.v (.bool false),.lst 1 [.v (.int .u32 231)],.lst 1 [.v (.int .u32 1)]]]
def zz:AV:=.lst 3 [.agg [.v (.bool false),.lst 1 [.v (.int .u32 45)],.lst 1 [.v (.int .u32 77)]],.agg [.v (.bool false),.lst 1 [],.lst 1 []],.agg [.v (.bool false),.lst 1 [.v (.int .u32 622)],.lst 1 [.v (.int .u32 231)]],.agg [.v (.bool false),.lst 1 [],.lst 1 []],.agg [.v (.bool false),.lst 1 [.v (.int .u32 1)],.lst 1 [.v (.int .u32 1)]]]
def GG:AV:=.lst 1 [tz]
def LG:AV:=.lst 7 [ab7,X6,YX,WQ]
def LR:AV:=.lst 1 [zz,zr,yg,AL,.lst 3 [.agg [.v (.bool false),.lst 1 [.v (.int .u32 45)],.lst 1 [.v (.int .u32 77)]]]]
def abx:AV:=.lst 2 [H6,IZ,HB,SN]
def QK:AV:=.lst 2 [H6,IZ,HB,Q3]
def HU:AV:=.agg [.v (.string ⟨⟨[102,111,117,114,98,97,114]⟩⟩),abx,LG,.lst 2 [.agg [.v (.string ⟨⟨[109]⟩⟩),.v (.int .i64 1)]]]
def HV:AV:=.agg [.v (.string ⟨⟨[102,111,117,114,98,97,114]⟩⟩),QK,LG,.lst 2 [.agg [.v (.string ⟨⟨[109]⟩⟩),.v (.int .i64 1)]]]
theorem Rs:Con prog 28 [.v (.int .i64 2)] [] (HU) []:=bK ⟨bN [] (bH),bO prog,bM⟩ 6000 (base:=2000) (av:=[]) (by kernel_rfl)
def GM:List (Ent prog):=⟨_,_,_,_,Rs⟩::[]
theorem Rr:Con prog 28 [.v (.int .i64 1)] [] (HV) []:=bK ⟨bN GM (bH),bO prog,bM⟩ 6000 (base:=2000) (av:=[]) (by kernel_rfl)
def IT:List (Ent prog):=⟨_,_,_,_,Rr⟩::GM
theorem Z4:Con prog 343 [tz] [] (.tup [.agg [.v (.bool false),.lst 1 [.v (.int .u32 4)],.lst 1 [.v (.int .u32 1)]],.v .nilIface]) []:=bK ⟨bN IT (bH),bO prog,bM⟩ 6000 (base:=2000) (av:=[]) (by kernel_rfl)
def LN:List (Ent prog):=⟨_,_,_,_,Z4⟩::IT
theorem Zx:Con prog 266 [tz] [] (.tup [.ms 300 3 0 5,.v .nilIface]) [pP 300 (.row 3 [.agg [.v (.bool false),.lst 1 [.v (.int .u32 45)],.lst 1 [.v (.int .u32 77)]],.agg [.v (.bool false),.lst 1 [],.lst 1 []],.agg [.v (.bool false),.lst 1 [.v (.int .u32 622)],.lst 1 [.v (.int .u32 231)]],.agg [.v (.bool false),.lst 1 [],.lst 1 []],.agg [.v (.bool false),.lst 1 [.v (.int .u32 1)],.lst 1 [.v (.int .u32 1)]]])]:=bK ⟨bN LN (bH),bO prog,bM⟩ 6000 (base:=2000) (av:=[]) (by kernel_rfl)
def Gx:List (Ent prog):=⟨_,_,_,_,Zx⟩::LN
theorem RK:Con prog 267 [zz] [] (.tup [.ms 300 3 0 4,.v .nilIface]) [pP 300 (.row 3 [.agg [.v (.bool false),.lst 1 [],.lst 1 []],.agg [.v (.bool false),.lst 1 [.v (.int .u32 1244)],.lst 1 [.v (.int .u32 231)]],.agg [.v (.bool false),.lst 1 [],.lst 1 []],.agg [.v (.bool false),.lst 1 [.v (.int .u32 4)],.lst 1 [.v (.int .u32 1)]]])]:=bK ⟨bN Gx (bH),bO prog,bM⟩ 6000 (base:=2000) (av:=[]) (by kernel_rfl)
def IH:List (Ent prog):=⟨_,_,_,_,RK⟩::Gx
theorem V2:Con prog 366 [zz,zr] [] (.tup [.ms 300 3 0 2,.ms 301 3 0 3,.v .nilIface]) [pP 300 (.row 3 [.agg [.v (.bool false),.lst 1 [],.lst 1 []],.agg [.v (.bool false),.lst 1 [.v (.int .u32 1)],.lst 1 [.v (.int .u32 4)]]]),pP 301 (.row 3 [.agg [.v (.bool false),.lst 1 [.v (.int .u32 45)],.lst 1 [.v (.int .u32 77)]],.agg [.v (.bool false),.lst 1 [],.lst 1 []],.agg [.v (.bool false),.lst 1 [.v (.int .u32 311)],.lst 1 [.v (.int .u32 231)]],.agg [.v (.bool false),.lst 1 [],.lst 1 []],.agg [.v (.bool false),.lst 1 [],.lst 1 []]])]:=bK ⟨bN IH (bH),bO prog,bM⟩ 6000 (base:=2000) (av:=[]) (by kernel_rfl)
def JY:List (Ent prog):=⟨_,_,_,_,V2⟩::IH
theorem V9:Con prog 287 [.lst 3 [.agg [.v (.bool false),.lst 1 [.v (.int .u32 45)],.lst 1 [.v (.int .u32 77)]],.agg [.v (.bool false),.lst 1 [],.lst 1 []],.agg [.v (.bool false),.lst 1 [.v (.int .u32 311)],.lst 1 [.v (.int .u32 231)]]],.agg [.v (.bool true),.lst 1 [.v (.int .u32 1)],.lst 1 [.v (.int .u32 1)]]] [] (.tup [.ms 300 3 0 3,.v .nilIface]) [pP 300 (.row 3 [.agg [.v (.bool true),.lst 1 [.v (.int .u32 45)],.lst 1 [.v (.int .u32 77)]],.agg [.v (.bool false),.lst 1 [],.lst 1 []],.agg [.v (.bool true),.lst 1 [.v (.int .u32 311)],.lst 1 [.v (.int .u32 231)]]])]:=bK ⟨bN JY (bH),bO prog,bM⟩ 6000 (base:=2000) (av:=[]) (by kernel_rfl)
def HR:List (Ent prog):=⟨_,_,_,_,V9⟩::JY
theorem SF:Con prog 366 [zr,yg] [] (.tup [.ms 300 3 0 2,.ms 301 3 0 2,.v .nilIface]) [pP 300 (.row 3 [.agg [.v (.bool false),.lst 1 [],.lst 1 []],.agg [.v (.bool true),.lst 1 [.v (.int .u32 924)],.lst 1 [.v (.int .u32 311)]]]),pP 301 (.row 3 [.agg [.v (.bool false),.lst 1 [],.lst 1 []],.agg [.v (.bool false),.lst 1 [.v (.int .u32 262144)],.lst 1 [.v (.int .u32 71841)]],.agg [.v (.bool false),.lst 1 [],.lst 1 []],.agg [.v (.bool false),.lst 1 [],.lst 1 []]])]:=bK ⟨bN HR (bH),bO prog,bM⟩ 6000 (base:=2000) (av:=[]) (by kernel_rfl)
def I0:List (Ent prog):=⟨_,_,_,_,SF⟩::HR
theorem R4:Con prog 287 [.lst 3 [.agg [.v (.bool false),.lst 1 [],.lst 1 []],.agg [.v (.bool false),.lst 1 [.v (.int .u32 262144)],.lst 1 [.v (.int .u32 71841)]]],.agg [.v (.bool true),.lst 1 [.v (.int .u32 1)],.lst 1 [.v (.int .u32 1)]]] [] (.tup [.ms 300 3 0 2,.v .nilIface]) [pP 300 (.row 3 [.agg [.v (.bool false),.lst 1 [],.lst 1 []],.agg [.v (.bool true),.lst 1 [.v (.int .u32 262144)],.lst 1 [.v (.int .u32 71841)]]])]:=bK ⟨bN I0 (bH),bO prog,bM⟩ 6000 (base:=2000) (av:=[]) (by kernel_rfl)
def GS:List (Ent prog):=⟨_,_,_,_,R4⟩::I0
theorem ZU:Con prog 366 [yg,AL] [] (.tup [.ms 300 3 0 2,.ms 301 3 0 1,.v .nilIface]) [pP 300 (.row 3 [.agg [.v (.bool false),.lst 1 [],.lst 1 []],.agg [.v (.bool false),.lst 1 [.v (.int .u32 96721)],.lst 1 [.v (.int .u32 262144)]]]),pP 301 (.row 3 [.agg [.v (.bool true),.lst 1 [.v (.int .u32 45)],.lst 1 [.v (.int .u32 77)]],.agg [.v (.bool false),.lst 1 [],.lst 1 []],.agg [.v (.bool false),.lst 1 [],.lst 1 []]])]:=bK ⟨bN GS (bH),bO prog,bM⟩ 6000 (base:=2000) (av:=[]) (by kernel_rfl)
def JX:List (Ent prog):=⟨_,_,_,_,ZU⟩::GS
theorem R8:Con prog 287 [.lst 3 [.agg [.v (.bool true),.lst 1 [.v (.int .u32 45)],.lst 1 [.v (.int .u32 77)]]],.agg [.v (.bool true),.lst 1 [.v (.int .u32 1)],.lst 1 [.v (.int .u32 1)]]] [] (.tup [.ms 300 3 0 1,.v .nilIface]) [pP 300 (.row 3 [.agg [.v (.bool false),.lst 1 [.v (.int .u32 45)],.lst 1 [.v (.int .u32 77)]]])]:=bK ⟨bN JX (bH),bO prog,bM⟩ 6000 (base:=2000) (av:=[]) (by kernel_rfl)
def Ig:List (Ent prog):=⟨_,_,_,_,R8⟩::JX
theorem YZ:Con prog 366 [AL,.lst 3 [.agg [.v (.bool false),.lst 1 [.v (.int .u32 45)],.lst 1 [.v (.int .u32 77)]]]] [] (.tup [.ms 300 3 0 2,.ms 301 3 0 0,.v .nilIface]) [pP 300 (.row 3 [.agg [.v (.bool false),.lst 1 [],.lst 1 []],.agg [.v (.bool true),.lst 1 [.v (.int .u32 262144)],.lst 1 [.v (.int .u32 41985)]]]),pP 301 (.row 3 [.agg [.v (.bool false),.lst 1 [],.lst 1 []],.agg [.v (.bool false),.lst 1 [],.lst 1 []]])]:=bK ⟨bN Ig (bH),bO prog,bM⟩ 6000 (base:=2000) (av:=[]) (by kernel_rfl)
def Iz:List (Ent prog):=⟨_,_,_,_,YZ⟩::Ig
theorem PQ:Con prog 287 [.lst 3 [],.agg [.v (.bool true),.lst 1 [.v (.int .u32 1)],.lst 1 [.v (.int .u32 1)]]] [] (.tup [.v (.slice none 0 0),.v .nilIface]) []:=bK ⟨bN Iz (bH),bO prog,bM⟩ 6000 (base:=2000) (av:=[]) (by kernel_rfl)
def L8:List (Ent prog):=⟨_,_,_,_,PQ⟩::Iz
theorem WE:Con prog 344 [tz] [] (.tup [.ms 300 1 0 5,.v .nilIface]) [pP 300 (.row 1 [zz,zr,yg,AL,.lst 3 [.agg [.v (.bool false),.lst 1 [.v (.int .u32 45)],.lst 1 [.v (.int .u32 77)]]]])]:=bK ⟨bN L8 (bH),bO prog,bM⟩ 6000 (base:=2000) (av:=[]) (by kernel_rfl)
def HH:List (Ent prog):=⟨_,_,_,_,WE⟩::L8
theorem Xg:Con prog 391 [LR,.agg [.v (.bool true),.lst 1 [.v (.int .u32 4)],.lst 1 [.v (.int .u32 1)]]] [] (.v (.int .i64 2)) []:=bK ⟨bN HH (bH),bO prog,bM⟩ 6000 (base:=2000) (av:=[]) (by kernel_rfl)
def Mr:List (Ent prog):=⟨_,_,_,_,Xg⟩::HH
theorem TY:Con prog 391 [LR,.agg [.v (.bool false),.lst 1 [.v (.int .u32 4)],.lst 1 [.v (.int .u32 1)]]] [] (.v (.int .i64 2)) []:=bK ⟨bN Mr (bH),bO prog,bM⟩ 6000 (base:=2000) (av:=[]) (by kernel_rfl)
def Gy:List (Ent prog):=⟨_,_,_,_,TY⟩::Mr
theorem RM:Con prog 265 [tz] [] (.tup [.v (.slice none 0 0),.v .nilIface]) []:=bK ⟨bN Gy (bH),bO prog,bM⟩ 6000 (base:=2000) (av:=[]) (by kernel_rfl)
def I8:List (Ent prog):=⟨_,_,_,_,RM⟩::Gy
theorem VL:Con prog 167 [tz] [] (.tup [.v (.slice none 0 0),.v .nilIface]) []:=bK ⟨bN I8 (bH),bO prog,bM⟩ 6000 (base:=2000) (av:=[]) (by kernel_rfl)
def J7:List (Ent prog):=⟨_,_,_,_,VL⟩::I8
theorem aal:Con prog 79 [GG,.lst 1 [.v (.int .i64 4)]] [] (.tup [.v (.slice none 0 0),.v (.bool false),.v .nilIface]) []:=bK ⟨bN J7 (bH),bO prog,bM⟩ 6000 (base:=2000) (av:=[]) (by kernel_rfl)
def Hg:List (Ent prog):=⟨_,_,_,_,aal⟩::J7
theorem Ro:Con prog 81 [.v (.slice none 0 0),.v (.bool false),.v (.int .i64 0)] [] (.tup [.agg [.v (.bool false),.v (.slice none 0 0),.v (.slice none 0 0),.v (.bool false)],.v .nilIface]) []:=bK ⟨bN Hg (bH),bO prog,bM⟩ 6000 (base:=2000) (av:=[]) (by kernel_rfl)
def KR:List (Ent prog):=⟨_,_,_,_,Ro⟩::Hg
theorem W7:Con prog 38 [GG,.lst 1 [.v (.int .i64 4)],.agg [.v (.bool false),.v (.slice none 0 0),.v (.slice none 0 0),.v (.bool false)]] [] (.tup [.ms 300 1 0 1,.v .nilIface]) [pP 300 (.row 1 [.v (.int .i64 1)])]:=bK ⟨bN KR (bH),bO prog,bM⟩ 6000 (base:=2000) (av:=[]) (by kernel_rfl)
def Lc:List (Ent prog):=⟨_,_,_,_,W7⟩::KR
theorem Uq:Con prog 30 [HU] [] (.tup [.agg [.v (.slice none 0 0),.v (.bool false),.ms 301 1 0 1,.v (.slice none 0 0)],.v .nilIface]) [pP 301 (.row 1 [.v (.bool true)])]:=bK ⟨bN Lc (bH),bO prog,bM⟩ 6000 (base:=2000) (av:=[]) (by kernel_rfl)
def L5:List (Ent prog):=⟨_,_,_,_,Uq⟩::Lc
theorem Tq:Con prog 343 [qO] [] (.tup [.agg [.v (.bool false),.lst 1 [.v (.int .u32 2)],.lst 1 [.v (.int .u32 1)]],.v .nilIface]) []:=bK ⟨bN L5 (bH),bO prog,bM⟩ 6000 (base:=2000) (av:=[]) (by kernel_rfl)
def IR:List (Ent prog):=⟨_,_,_,_,Tq⟩::L5
theorem ZM:Con prog 266 [qO] [] (.tup [.ms 300 3 0 2,.v .nilIface]) [pP 300 (.row 3 [.agg [.v (.bool false),.lst 1 [],.lst 1 []],.agg [.v (.bool false),.lst 1 [.v (.int .u32 1)],.lst 1 [.v (.int .u32 1)]]])]:=bK ⟨bN IR (bH),bO prog,bM⟩ 6000 (base:=2000) (av:=[]) (by kernel_rfl)
def Km:List (Ent prog):=⟨_,_,_,_,ZM⟩::IR
theorem Xt:Con prog 267 [pu] [] (.tup [.ms 300 3 0 1,.v .nilIface]) [pP 300 (.row 3 [.agg [.v (.bool false),.lst 1 [.v (.int .u32 1)],.lst 1 [.v (.int .u32 1)]]])]:=bK ⟨bN Km (bH),bO prog,bM⟩ 6000 (base:=2000) (av:=[]) (by kernel_rfl)
def I1:List (Ent prog):=⟨_,_,_,_,Xt⟩::Km
theorem UC:Con prog 366 [pu,.lst 3 [.agg [.v (.bool false),.lst 1 [.v (.int .u32 1)],.lst 1 [.v (.int .u32 1)]]]] [] (.tup [.ms 300 3 0 2,.ms 301 3 0 0,.v .nilIface]) [pP 300 (.row 3 [.agg [.v (.bool false),.lst 1 [],.lst 1 []],.agg [.v (.bool false),.lst 1 [.v (.int .u32 1)],.lst 1 [.v (.int .u32 1)]]]),pP 301 (.row 3 [.agg [.v (.bool false),.lst 1 [],.lst 1 []],.agg [.v (.bool false),.lst 1 [],.lst 1 []]])]:=bK ⟨bN I1 (bH),bO prog,bM⟩ 6000 (base:=2000) (av:=[]) (by kernel_rfl)
def Mz:List (Ent prog):=⟨_,_,_,_,UC⟩::I1
theorem Up:Con prog 344 [qO] [] (.tup [.ms 300 1 0 2,.v .nilIface]) [pP 300 (.row 1 [pu,.lst 3 [.agg [.v (.bool false),.lst 1 [.v (.int .u32 1)],.lst 1 [.v (.int .u32 1)]]]])]:=bK ⟨bN Mz (bH),bO prog,bM⟩ 6000 (base:=2000) (av:=[]) (by kernel_rfl)
def Jj:List (Ent prog):=⟨_,_,_,_,Up⟩::Mz
theorem WS:Con prog 391 [MV,.agg [.v (.bool true),.lst 1 [.v (.int .u32 2)],.lst 1 [.v (.int .u32 1)]]] [] (.v (.int .i64 1)) []:=bK ⟨bN Jj (bH),bO prog,bM⟩ 6000 (base:=2000) (av:=[]) (by kernel_rfl)
def L7:List (Ent prog):=⟨_,_,_,_,WS⟩::Jj
theorem Qw:Con prog 391 [MV,.agg [.v (.bool false),.lst 1 [.v (.int .u32 2)],.lst 1 [.v (.int .u32 1)]]] [] (.v (.int .i64 0)) []:=bK ⟨bN L7 (bH),bO prog,bM⟩ 6000 (base:=2000) (av:=[]) (by kernel_rfl)
def KO:List (Ent prog):=⟨_,_,_,_,Qw⟩::L7
theorem abz:Con prog 265 [qO] [] (.tup [.ms 300 6 0 1,.v .nilIface]) [pP 300 (.row 6 [.agg [.v (.bool true),.lst 1 [.v (.int .u32 2)],.lst 1 [.v (.int .u32 1)],.v (.bool false),.lst 1 [.v (.int .u32 2)],.lst 1 [.v (.int .u32 1)]]])]:=bK ⟨bN KO (bH),bO prog,bM⟩ 6000 (base:=2000) (av:=[]) (by kernel_rfl)
def K8:List (Ent prog):=⟨_,_,_,_,abz⟩::KO
theorem XZ:Con prog 167 [qO] [] (.tup [.ms 300 7 0 1,.v .nilIface]) [pP 300 (.row 7 [yN])]:=bK ⟨bN K8 (bH),bO prog,bM⟩ 6000 (base:=2000) (av:=[]) (by kernel_rfl)
def Kl:List (Ent prog):=⟨_,_,_,_,XZ⟩::K8
theorem YP:Con prog 79 [AK,.lst 1 [.v (.int .i64 4)]] [] (.tup [.ms 300 7 0 1,.v (.bool true),.v .nilIface]) [pP 300 (.row 7 [yN])]:=bK ⟨bN Kl (bH),bO prog,bM⟩ 6000 (base:=2000) (av:=[]) (by kernel_rfl)
def NI:List (Ent prog):=⟨_,_,_,_,YP⟩::Kl
theorem aac:Con prog 266 [pu] [] (.tup [.ms 300 3 0 2,.v .nilIface]) [pP 300 (.row 3 [.agg [.v (.bool false),.lst 1 [],.lst 1 []],.agg [.v (.bool false),.lst 1 [.v (.int .u32 1)],.lst 1 [.v (.int .u32 1)]]])]:=bK ⟨bN NI (bH),bO prog,bM⟩ 6000 (base:=2000) (av:=[]) (by kernel_rfl)
def IQ:List (Ent prog):=⟨_,_,_,_,aac⟩::NI
theorem Y0:Con prog 344 [pu] [] (.tup [.ms 300 1 0 2,.v .nilIface]) [pP 300 (.row 1 [pu,.lst 3 [.agg [.v (.bool false),.lst 1 [.v (.int .u32 1)],.lst 1 [.v (.int .u32 1)]]]])]:=bK ⟨bN IQ (bH),bO prog,bM⟩ 6000 (base:=2000) (av:=[]) (by kernel_rfl)
def Mg:List (Ent prog):=⟨_,_,_,_,Y0⟩::IQ
theorem SE:Con prog 80 [qO,yN] [] (.tup [.v (.int .i64 0),.v .nilIface]) []:=bK ⟨bN Mg (bH),bO prog,bM⟩ 6000 (base:=2000) (av:=[]) (by kernel_rfl)
def IL:List (Ent prog):=⟨_,_,_,_,SE⟩::Mg
theorem aa1:Con prog 38 [AK,.lst 1 [.v (.int .i64 4)],.agg [.v (.bool false),.v (.slice none 0 0),.v (.slice none 0 0),.v (.bool true)]] [] (.tup [.ms 300 1 0 1,.v .nilIface]) [pP 300 (.row 1 [.v (.int .i64 0)])]:=bK ⟨bN IL (bH),bO prog,bM⟩ 6000 (base:=2000) (av:=[]) (by kernel_rfl)
def Mi:List (Ent prog):=⟨_,_,_,_,aa1⟩::IL
theorem Ts:Con prog 81 [Cl,.v (.bool true),.v (.int .i64 0)] [] (.tup [.agg [.v (.bool false),.lst 1 [.v (.int .u32 1)],.lst 1 [.v (.int .u32 1)],.v (.bool false)],.v .nilIface]) []:=bK ⟨bN Mi (bH),bO prog,bM⟩ 6000 (base:=2000) (av:=[]) (by kernel_rfl)
def I7:List (Ent prog):=⟨_,_,_,_,Ts⟩::Mi
theorem SJ:Con prog 38 [AK,.lst 1 [.v (.int .i64 4)],.agg [.v (.bool false),.lst 1 [.v (.int .u32 1)],.lst 1 [.v (.int .u32 1)],.v (.bool false)]] [] (.tup [.ms 300 1 0 1,.v .nilIface]) [pP 300 (.row 1 [.v (.int .i64 1)])]:=bK ⟨bN I7 (bH),bO prog,bM⟩ 6000 (base:=2000) (av:=[]) (by kernel_rfl)
def NV:List (Ent prog):=⟨_,_,_,_,SJ⟩::I7
theorem QL:Con prog 81 [Cl,.v (.bool true),.v (.int .i64 1)] [] (.tup [.agg [.v (.bool true),.lst 1 [.v (.int .u32 1)],.lst 1 [.v (.int .u32 1)],.v (.bool false)],.v .nilIface]) []:=bK ⟨bN NV (bH),bO prog,bM⟩ 6000 (base:=2000) (av:=[]) (by kernel_rfl)
def Hv:List (Ent prog):=⟨_,_,_,_,QL⟩::NV
theorem Yk:Con prog 38 [AK,.lst 1 [.v (.int .i64 4)],.agg [.v (.bool true),.lst 1 [.v (.int .u32 1)],.lst 1 [.v (.int .u32 1)],.v (.bool false)]] [] (.tup [.ms 300 1 0 1,.v .nilIface]) [pP 300 (.row 1 [.v (.int .i64 1)])]:=bK ⟨bN Hv (bH),bO prog,bM⟩ 6000 (base:=2000) (av:=[]) (by kernel_rfl)
def Io:List (Ent prog):=⟨_,_,_,_,Yk⟩::Hv
theorem V4:Con prog 30 [HV] [] (.tup [.agg [Cl,.v (.bool true),.ms 301 1 0 2,.ms 302 1 0 2],.v .nilIface]) [pP 301 (.row 1 [.v (.bool true),.v (.bool true)]),pP 302 (.row 1 [.v (.bool true),.v (.bool true)])]:=bK ⟨bN Io (bH),bO prog,bM⟩ 6000 (base:=2000) (av:=[]) (by kernel_rfl)
def aad:List (Ent prog):=⟨_,_,_,_,V4⟩::Io
theorem S0:FP 7 [] (bl true):=bK ⟨bN aad (bH),bO prog,bM⟩ 6000 (base:=2000) (av:=[]) (by kernel_rfl)
end Go.Lw
namespace Go.Lw
open Go.Proofs Go.Proofs.YtmencaoblogmeaaGreat
open Go.ChangeShapes Go.WideShapes Go.ChangeAt Go.RowKit
set_option maxRecDepth 100000 in
theorem Yd(os:Os)(started:os.Started)(H:Type)(enc:ai4×ai3->H) :
  ReturnsInHanded {} Tryz.checked os 3 .any (Rows.limitsRadicandsSpec.pre6 enc prog Tryz.f3 Rows.limitsRadicandsRow.domain false) (Rows.limitsRadicandsSpec.post enc prog Tryz.f3 false true false false):=by
 refine returnsInHanded_of_change_sized (C := Tryz.checked) own started (by kernel_rfl) func3
  (ChangeSpec.witness6 (enc:=enc) (C:=Tryz.checked) false ⟨#[],#[.agg #[.string ⟨#[]⟩,.slice none 0 0,.slice none 0 0,.slice none 0 0]],[]⟩ 8 (by kernel_rfl) (by kernel_rfl) (by kernel_rfl) (by kernel_rfl)) ?_
 intro W base args ds gs before PI hW adg PJ _;have jG:∀(j:Nat) t v,Tryz.f3.params[j]?=some t->args[j]?=some v->Value.okWide prog W .any base t v:=PI;have da:(DataW.weightsEach prog (Tryz.f3.params.toList++Rows.limitsRadicandsSpec.plain.varTypes prog) (ds++gs)).all (· <= reachBytes)=true:=PJ;have hW':=hW;obtain⟨p,q,PK,hV,rfl,hfz,b7⟩:=hW;have hA:DataW.TrodAll enc prog W 0 (fun _=>true) true Tryz.f3.params.toList args.toList ds p:=PK;rw[Tryz.params3]at hA jG da;obtain⟨v0,d0,rfl,rfl,h0⟩:=trodAll_one hA;obtain⟨rfl,rfl⟩:=trodVars_none hV;clear PK PI PJ;have hlt:∀x∈p,x.block<W.heap.size:=fun x hx=>hW'.lt x (by simpa using hx)
 have FY:∀n∈d0.weights prog 26,n<=reachBytes:=fun n hn=>by
  have:=ahs.1 da n (DataW.weights_mem_each (j:=0) rfl rfl n hn);simpa using this
 obtain⟨x0,q0,r0⟩:=Xs Tryz.underlying26 Rd (jG 0 26 v0 rfl rfl) h0 FY
 have hc:=jv.calls (W:=W) (vs:=#[v0]) (Tp S0 x0 q0) rfl (fun j v x hv hx=>by
  match j,hv,hx with
  |0,hv,hx=>cases hv;cases hx;exact r0)
 refine hc.mono fun e W' ⟨he,hb⟩=>?_
 subst he;refine⟨_,rfl,Sb hW' rfl rfl (fun _ _ _=>trodAll_mk1 (shut_bool Tryz.underlying4 _)) (fun sp gq=>?_) rfl hb (ok_one (by kernel_rfl) rfl (okWide_bool_mk Tryz.underlying4 _))⟩;rw[Tryz.params3];have hs:∀x∈p,sp x.block=true:=fun x hx=>gq x (by simpa using hx)
 have g0:=YT (sp':=sp) (by kernel_rfl) (aiv (by kernel_rfl)) h0 hb (fun x hx=>hlt x (by simp[hx])) (fun x hx=>hs x (by simp[hx]));have g:=trodAll_mk1 g0;rw[show p++[]=p from by simp];exact g
set_option maxRecDepth 100000 in
theorem Zy:prog.closure 3=[3,6,25,26,74,161,259,258,260,75,162,106,205,207,303,372,305,365,373,401,375,370,374,363,282,175,174,206,304,280,301,294,364,208,76,163,164,261,96,197,200,173,281,362,400,193,201,302,107,77,9,34,85,190,289,191,290,368,291,369,403,292,86,35,87,88,102,95,192,82,293,94,196,298,297,99,97,198,295,93,195,89,90,92,98,199,300,299,91,194,296,371,404,100,101,27,7,28,78,8,33,17,42,110,209,306,376,377,405,210,104,203,119,160,221,218,222,315,316,331,317,318,314,319,320,121,48,47,204,73,216,211,307,308,352,72,117,220,212,111,213,309,378,311,381,382,380,214,310,379,313,312,215,43,112,83,123,223,321,84,176,177,178,283,179,19,46,118,120,217,219,165,262,45,116,24,186,287,70,367,402,71,284,182,172,279,185,286,263,180,188,288,181,183,184,187,166,264,285,366,346,389,361,189,29,30,79,105,167,265,343,350,390,344,266,348,347,349,267,345,391,392,23,278,357,356,393,396,407,80,168,268,269,351,353,169,270,271,355,394,395,354,272,273,277,38,39,81,170,274,358,397,398,275,359,399,360,276,171,31,12,36,103,202,11,32,10]:=by kernel_rfl
theorem Vy:joinedFacts prog 3 Tryz.f3 Rows.limitsRadicandsSpec Rows.limitsRadicandsRow=true:=by
 unfold joinedFacts Program.recurses Program.inPlace Program.unfollowed Program.varsNamed;rw[Zy,Ma,aca,SZ,Z6,Un,V3]
 kernel_rfl
theorem limitsRadicands_holds:Rows.LimitsRadicandsSaid :=
 OpenClaim.holds_of_wide 3 Tryz.f3 rfl rfl rfl rfl rfl rfl rfl ⟨rfl, rfl, rfl, rfl, rfl⟩ rfl rfl rfl rfl rfl (by kernel_rfl) func3 Vy
  (aiv (by kernel_rfl)) (by unfold Func.isWrapper;first |(rw[ait (by decide +kernel)];kernel_rfl) |(rw[ais (by decide +kernel)];exact⟨rfl,rfl⟩))
  (fun os started H enc _=>Yd os started H enc)
end Go.Lw
namespace Go.Proofs.YtmencaoblogmeaaGreat
theorem limitsRadicands_proved:Rows.LimitsRadicandsSaid:=Go.Lw.limitsRadicands_holds
end Go.Proofs.YtmencaoblogmeaaGreat
