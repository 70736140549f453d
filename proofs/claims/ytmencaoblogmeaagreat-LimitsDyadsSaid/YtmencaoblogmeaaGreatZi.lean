/- LimitsDyads: for any linkage and any turn the law returns true and leaves its arguments as they were. No other condition. Part 9 of 9: the statement -/
import Derived.Test.YtmencaoblogmeaaGreatZh
set_option linter.unusedVariables false
open List renaming all_eq_true → asd
open Go renaming Value → ato, TypeId → atp
open Go.Proofs.Tryz
namespace Go.Lw
open Go.Proofs
set_option maxRecDepth 20000
def rT:AV:=.lst 3 [.agg [.v (.bool false),.lst 1 [],.lst 1 []],.agg [.v (.bool false),.lst 1 [.v (.int .u32 1)],.lst 1 [.v (.int .u32 1)]]]
def amp:AV:=.agg [.v (.string ⟨⟨[98]⟩⟩),.v (.bool false),.lst 1 [.v (.int .u32 1)],.lst 1 [.v (.int .u32 1)],.v (.bool false),.lst 1 [],.lst 1 []]
def ald:AV:=.agg [.v (.string ⟨⟨[99]⟩⟩),.v (.bool false),.lst 1 [.v (.int .u32 4)],.lst 1 [.v (.int .u32 1)],.v (.bool false),.lst 1 [],.lst 1 []]
def aip:AV:=.agg [.v (.string ⟨⟨[99]⟩⟩),.v (.bool false),.lst 1 [.v (.int .u32 2)],.lst 1 [.v (.int .u32 1)],.v (.bool false),.lst 1 [],.lst 1 []]
def ah0:AV:=.agg [.v (.string ⟨⟨[99]⟩⟩),.v (.bool false),.lst 1 [.v (.int .u32 1)],.lst 1 [.v (.int .u32 1)],.v (.bool false),.lst 1 [],.lst 1 []]
def Wp:AV:=.agg [.v (.string ⟨⟨[100]⟩⟩),.v (.bool false),.lst 1 [.v (.int .u32 4)],.lst 1 [.v (.int .u32 1)],.v (.bool false),.lst 1 [],.lst 1 []]
def WL:AV:=.agg [.v (.string ⟨⟨[106,49]⟩⟩),.v (.int .i64 0),.v (.int .i64 0),.v (.int .i64 0),.v (.int .i64 1),.v (.int .i64 0),.v (.int .i64 0)]
def afn:AV:=.agg [.v (.string ⟨⟨[106,50]⟩⟩),.v (.int .i64 0),.v (.int .i64 1),.v (.int .i64 1),.v (.int .i64 2),.v (.int .i64 0),.v (.int .i64 0)]
def alh:AV:=.agg [.v (.string ⟨⟨[106,51]⟩⟩),.v (.int .i64 0),.v (.int .i64 0),.v (.int .i64 1),.v (.int .i64 3),.v (.int .i64 0),.v (.int .i64 0)]
def Xo:AV:=.agg [.v (.string ⟨⟨[106,52]⟩⟩),.v (.int .i64 0),.v (.int .i64 2),.v (.int .i64 1),.v (.int .i64 3),.v (.int .i64 1),.v (.int .i64 0)]
def AU:AV:=.lst 3 [.agg [.v (.bool false),.lst 1 [],.lst 1 []],.agg [.v (.bool true),.lst 1 [.v (.int .u32 262144)],.lst 1 [.v (.int .u32 71841)]]]
def un:AV:=.lst 3 [.agg [.v (.bool false),.lst 1 [],.lst 1 []],.agg [.v (.bool false),.lst 1 [],.lst 1 []],.agg [.v (.bool false),.lst 1 [.v (.int .u32 256)],.lst 1 [.v (.int .u32 1)]]]
def CF:AV:=.lst 1 [un]
def Dc:AV:=.lst 3 [.agg [.v (.bool true),.lst 1 [.v (.int .u32 45)],.lst 1 [.v (.int .u32 77)]],.agg [.v (.bool false),.lst 1 [],.lst 1 []],.agg [.v (.bool true),.lst 1 [.v (.int .u32 311)],.lst 1 [.v (.int .u32 231)]]]
def Qx:AV:=.lst 1 [rT,.lst 3 [.agg [.v (.bool false),.lst 1 [.v (.int .u32 1)],.lst 1 [.v (.int .u32 1)]]]]
def WU:AV:=.lst 7 [.agg [.v (.string ⟨⟨[97]⟩⟩),.v (.bool false),.lst 1 [],.lst 1 [],.v (.bool false),.lst 1 [],.lst 1 []],amp]
def ab6:AV:=.lst 7 [.agg [.v (.string ⟨⟨[98]⟩⟩),.v (.bool false),.lst 1 [],.lst 1 [],.v (.bool false),.lst 1 [],.lst 1 []],ald]
def af5:AV:=.lst 7 [.agg [.v (.string ⟨⟨[97]⟩⟩),.v (.bool false),.lst 1 [],.lst 1 [],.v (.bool false),.lst 1 [],.lst 1 []],Wp]
def VD:AV:=.lst 7 [.agg [.v (.string ⟨⟨[100]⟩⟩),.v (.bool false),.lst 1 [],.lst 1 [],.v (.bool false),.lst 1 [],.lst 1 []],aip]
def ali:AV:=.lst 7 [.agg [.v (.string ⟨⟨[100]⟩⟩),.v (.bool false),.lst 1 [],.lst 1 [],.v (.bool false),.lst 1 [],.lst 1 []],ah0]
def A5:AV:=.lst 3 [.agg [.v (.bool false),.lst 1 [],.lst 1 []],.agg [.v (.bool false),.lst 1 [.v (.int .u32 1244)],.lst 1 [.v (.int .u32 231)]],.agg [.v (.bool false),.lst 1 [],.lst 1 []],.agg [.v (.bool false),.lst 1 [.v (.int .u32 4)],.lst 1 [.v (.int .u32 1)]]]
def Dd:AV:=.agg [rT,.v (.bool true),.lst 1 [.v (.int .u32 2)],.lst 1 [.v (.int .u32 1)],.v (.bool false),.lst 1 [.v (.int .u32 2)],.lst 1 [.v (.int .u32 1)]]
def GR:AV:=.lst 7 [Dd]
def NS:AV:=.agg [.v (.string ⟨⟨[99,114,97,110,107]⟩⟩),WU]
def Nw:AV:=.agg [.v (.string ⟨⟨[102,114,97,109,101]⟩⟩),af5]
def aih:AV:=.agg [.v (.string ⟨⟨[114,111,99,107,101,114]⟩⟩),VD]
def acm:AV:=.agg [.v (.string ⟨⟨[114,111,99,107,101,114]⟩⟩),ali]
def Mu:AV:=.agg [.v (.string ⟨⟨[99,111,117,112,108,101,114]⟩⟩),ab6]
def vW:AV:=.lst 3 [.agg [.v (.bool false),.lst 1 [.v (.int .u32 135)],.lst 1 [.v (.int .u32 1)]],.agg [.v (.bool false),.lst 1 [],.lst 1 []],.agg [.v (.bool false),.lst 1 [.v (.int .u32 622)],.lst 1 [.v (.int .u32 1)]],.agg [.v (.bool false),.lst 1 [],.lst 1 []],.agg [.v (.bool false),.lst 1 [.v (.int .u32 231)],.lst 1 [.v (.int .u32 1)]]]
def CG:AV:=.lst 3 [.agg [.v (.bool false),.lst 1 [.v (.int .u32 45)],.lst 1 [.v (.int .u32 77)]],.agg [.v (.bool false),.lst 1 [],.lst 1 []],.agg [.v (.bool false),.lst 1 [.v (.int .u32 622)],.lst 1 [.v (.int .u32 231)]],.agg [.v (.bool false),.lst 1 [],.lst 1 []],.agg [.v (.bool false),.lst 1 [.v (.int .u32 1)],.lst 1 [.v (.int .u32 1)]]]
def NC:AV:=.lst 1 [vW]
def M8:AV:=.lst 7 [WL,afn,alh,Xo]
def Qp:AV:=.lst 1 [CG,A5,Dc,AU,.lst 3 [.agg [.v (.bool false),.lst 1 [.v (.int .u32 45)],.lst 1 [.v (.int .u32 77)]]]]
def aki:AV:=.lst 2 [Nw,NS,Mu,aih]
def WC:AV:=.lst 2 [Nw,NS,Mu,acm]
def Si:AV:=.agg [.v (.string ⟨⟨[102,111,117,114,98,97,114]⟩⟩),aki,M8,.lst 2 [.agg [.v (.string ⟨⟨[109]⟩⟩),.v (.int .i64 1)]]]
def RY:AV:=.agg [.v (.string ⟨⟨[102,111,117,114,98,97,114]⟩⟩),WC,M8,.lst 2 [.agg [.v (.string ⟨⟨[109]⟩⟩),.v (.int .i64 1)]]]
theorem ag9:Con prog 28 [.v (.int .i64 2)] [] (Si) []:=cC ⟨cz [] (cu),cA prog,cw⟩ 6000 (base:=2000) (av:=[]) (by kernel_rfl)
def Of:List (Ent prog):=⟨_,_,_,_,ag9⟩::[]
theorem aid:Con prog 28 [.v (.int .i64 1)] [] (RY) []:=cC ⟨cz Of (cu),cA prog,cw⟩ 6000 (base:=2000) (av:=[]) (by kernel_rfl)
def O6:List (Ent prog):=⟨_,_,_,_,aid⟩::Of
theorem aju:Con prog 343 [vW] [] (.tup [.agg [.v (.bool false),.lst 1 [.v (.int .u32 4)],.lst 1 [.v (.int .u32 1)]],.v .nilIface]) []:=cC ⟨cz O6 (cu),cA prog,cw⟩ 6000 (base:=2000) (av:=[]) (by kernel_rfl)
def Ls:List (Ent prog):=⟨_,_,_,_,aju⟩::O6
theorem ab4:Con prog 266 [vW] [] (.tup [.ms 300 3 0 5,.v .nilIface]) [pP 300 (.row 3 [.agg [.v (.bool false),.lst 1 [.v (.int .u32 45)],.lst 1 [.v (.int .u32 77)]],.agg [.v (.bool false),.lst 1 [],.lst 1 []],.agg [.v (.bool false),.lst 1 [.v (.int .u32 622)],.lst 1 [.v (.int .u32 231)]],.agg [.v (.bool false),.lst 1 [],.lst 1 []],.agg [.v (.bool false),.lst 1 [.v (.int .u32 1)],.lst 1 [.v (.int .u32 1)]]])]:=cC ⟨cz Ls (cu),cA prog,cw⟩ 6000 (base:=2000) (av:=[]) (by kernel_rfl)
def S5:List (Ent prog):=⟨_,_,_,_,ab4⟩::Ls
theorem al0:Con prog 267 [CG] [] (.tup [.ms 300 3 0 4,.v .nilIface]) [pP 300 (.row 3 [.agg [.v (.bool false),.lst 1 [],.lst 1 []],.agg [.v (.bool false),.lst 1 [.v (.int .u32 1244)],.lst 1 [.v (.int .u32 231)]],.agg [.v (.bool false),.lst 1 [],.lst 1 []],.agg [.v (.bool false),.lst 1 [.v (.int .u32 4)],.lst 1 [.v (.int .u32 1)]]])]:=cC ⟨cz S5 (cu),cA prog,cw⟩ 6000 (base:=2000) (av:=[]) (by kernel_rfl)
def Ku:List (Ent prog):=⟨_,_,_,_,al0⟩::S5
theorem ZD:Con prog 366 [CG,A5] [] (.tup [.ms 300 3 0 2,.ms 301 3 0 3,.v .nilIface]) [pP 300 (.row 3 [.agg [.v (.bool false),.lst 1 [],.lst 1 []],.agg [.v (.bool false),.lst 1 [.v (.int .u32 1)],.lst 1 [.v (.int .u32 4)]]]),pP 301 (.row 3 [.agg [.v (.bool false),.lst 1 [.v (.int .u32 45)],.lst 1 [.v (.int .u32 77)]],.agg [.v (.bool false),.lst 1 [],.lst 1 []],.agg [.v (.bool false),.lst 1 [.v (.int .u32 311)],.lst 1 [.v (.int .u32 231)]],.agg [.v (.bool false),.lst 1 [],.lst 1 []],.agg [.v (.bool false),.lst 1 [],.lst 1 []]])]:=cC ⟨cz Ku (cu),cA prog,cw⟩ 6000 (base:=2000) (av:=[]) (by kernel_rfl)
def Kz:List (Ent prog):=⟨_,_,_,_,ZD⟩::Ku
theorem XF:Con prog 287 [.lst 3 [.agg [.v (.bool false),.lst 1 [.v (.int .u32 45)],.lst 1 [.v (.int .u32 77)]],.agg [.v (.bool false),.lst 1 [],.lst 1 []],.agg [.v (.bool false),.lst 1 [.v (.int .u32 311)],.lst 1 [.v (.int .u32 231)]]],.agg [.v (.bool true),.lst 1 [.v (.int .u32 1)],.lst 1 [.v (.int .u32 1)]]] [] (.tup [.ms 300 3 0 3,.v .nilIface]) [pP 300 (.row 3 [.agg [.v (.bool true),.lst 1 [.v (.int .u32 45)],.lst 1 [.v (.int .u32 77)]],.agg [.v (.bool false),.lst 1 [],.lst 1 []],.agg [.v (.bool true),.lst 1 [.v (.int .u32 311)],.lst 1 [.v (.int .u32 231)]]])]:=cC ⟨cz Kz (cu),cA prog,cw⟩ 6000 (base:=2000) (av:=[]) (by kernel_rfl)
def NZ:List (Ent prog):=⟨_,_,_,_,XF⟩::Kz
theorem aet:Con prog 366 [A5,Dc] [] (.tup [.ms 300 3 0 2,.ms 301 3 0 2,.v .nilIface]) [pP 300 (.row 3 [.agg [.v (.bool false),.lst 1 [],.lst 1 []],.agg [.v (.bool true),.lst 1 [.v (.int .u32 924)],.lst 1 [.v (.int .u32 311)]]]),pP 301 (.row 3 [.agg [.v (.bool false),.lst 1 [],.lst 1 []],.agg [.v (.bool false),.lst 1 [.v (.int .u32 262144)],.lst 1 [.v (.int .u32 71841)]],.agg [.v (.bool false),.lst 1 [],.lst 1 []],.agg [.v (.bool false),.lst 1 [],.lst 1 []]])]:=cC ⟨cz NZ (cu),cA prog,cw⟩ 6000 (base:=2000) (av:=[]) (by kernel_rfl)
def Ry:List (Ent prog):=⟨_,_,_,_,aet⟩::NZ
theorem X8:Con prog 287 [.lst 3 [.agg [.v (.bool false),.lst 1 [],.lst 1 []],.agg [.v (.bool false),.lst 1 [.v (.int .u32 262144)],.lst 1 [.v (.int .u32 71841)]]],.agg [.v (.bool true),.lst 1 [.v (.int .u32 1)],.lst 1 [.v (.int .u32 1)]]] [] (.tup [.ms 300 3 0 2,.v .nilIface]) [pP 300 (.row 3 [.agg [.v (.bool false),.lst 1 [],.lst 1 []],.agg [.v (.bool true),.lst 1 [.v (.int .u32 262144)],.lst 1 [.v (.int .u32 71841)]]])]:=cC ⟨cz Ry (cu),cA prog,cw⟩ 6000 (base:=2000) (av:=[]) (by kernel_rfl)
def Ru:List (Ent prog):=⟨_,_,_,_,X8⟩::Ry
theorem amk:Con prog 366 [Dc,AU] [] (.tup [.ms 300 3 0 2,.ms 301 3 0 1,.v .nilIface]) [pP 300 (.row 3 [.agg [.v (.bool false),.lst 1 [],.lst 1 []],.agg [.v (.bool false),.lst 1 [.v (.int .u32 96721)],.lst 1 [.v (.int .u32 262144)]]]),pP 301 (.row 3 [.agg [.v (.bool true),.lst 1 [.v (.int .u32 45)],.lst 1 [.v (.int .u32 77)]],.agg [.v (.bool false),.lst 1 [],.lst 1 []],.agg [.v (.bool false),.lst 1 [],.lst 1 []]])]:=cC ⟨cz Ru (cu),cA prog,cw⟩ 6000 (base:=2000) (av:=[]) (by kernel_rfl)
def OD:List (Ent prog):=⟨_,_,_,_,amk⟩::Ru
theorem ZC:Con prog 287 [.lst 3 [.agg [.v (.bool true),.lst 1 [.v (.int .u32 45)],.lst 1 [.v (.int .u32 77)]]],.agg [.v (.bool true),.lst 1 [.v (.int .u32 1)],.lst 1 [.v (.int .u32 1)]]] [] (.tup [.ms 300 3 0 1,.v .nilIface]) [pP 300 (.row 3 [.agg [.v (.bool false),.lst 1 [.v (.int .u32 45)],.lst 1 [.v (.int .u32 77)]]])]:=cC ⟨cz OD (cu),cA prog,cw⟩ 6000 (base:=2000) (av:=[]) (by kernel_rfl)
def Lp:List (Ent prog):=⟨_,_,_,_,ZC⟩::OD
theorem agd:Con prog 366 [AU,.lst 3 [.agg [.v (.bool false),.lst 1 [.v (.int .u32 45)],.lst 1 [.v (.int .u32 77)]]]] [] (.tup [.ms 300 3 0 2,.ms 301 3 0 0,.v .nilIface]) [pP 300 (.row 3 [.agg [.v (.bool false),.lst 1 [],.lst 1 []],.agg [.v (.bool true),.lst 1 [.v (.int .u32 262144)],.lst 1 [.v (.int .u32 41985)]]]),pP 301 (.row 3 [.agg [.v (.bool false),.lst 1 [],.lst 1 []],.agg [.v (.bool false),.lst 1 [],.lst 1 []]])]:=cC ⟨cz Lp (cu),cA prog,cw⟩ 6000 (base:=2000) (av:=[]) (by kernel_rfl)
def Sr:List (Ent prog):=⟨_,_,_,_,agd⟩::Lp
theorem Z4:Con prog 287 [.lst 3 [],.agg [.v (.bool true),.lst 1 [.v (.int .u32 1)],.lst 1 [.v (.int .u32 1)]]] [] (.tup [.v (.slice none 0 0),.v .nilIface]) []:=cC ⟨cz Sr (cu),cA prog,cw⟩ 6000 (base:=2000) (av:=[]) (by kernel_rfl)
def Rz:List (Ent prog):=⟨_,_,_,_,Z4⟩::Sr
theorem XL:Con prog 344 [vW] [] (.tup [.ms 300 1 0 5,.v .nilIface]) [pP 300 (.row 1 [CG,A5,Dc,AU,.lst 3 [.agg [.v (.bool false),.lst 1 [.v (.int .u32 45)],.lst 1 [.v (.int .u32 77)]]]])]:=cC ⟨cz Rz (cu),cA prog,cw⟩ 6000 (base:=2000) (av:=[]) (by kernel_rfl)
def OE:List (Ent prog):=⟨_,_,_,_,XL⟩::Rz
theorem Zb:Con prog 391 [Qp,.agg [.v (.bool true),.lst 1 [.v (.int .u32 4)],.lst 1 [.v (.int .u32 1)]]] [] (.v (.int .i64 2)) []:=cC ⟨cz OE (cu),cA prog,cw⟩ 6000 (base:=2000) (av:=[]) (by kernel_rfl)
def To:List (Ent prog):=⟨_,_,_,_,Zb⟩::OE
theorem ake:Con prog 391 [Qp,.agg [.v (.bool false),.lst 1 [.v (.int .u32 4)],.lst 1 [.v (.int .u32 1)]]] [] (.v (.int .i64 2)) []:=cC ⟨cz To (cu),cA prog,cw⟩ 6000 (base:=2000) (av:=[]) (by kernel_rfl)
def KU:List (Ent prog):=⟨_,_,_,_,ake⟩::To
theorem ak4:Con prog 265 [vW] [] (.tup [.v (.slice none 0 0),.v .nilIface]) []:=cC ⟨cz KU (cu),cA prog,cw⟩ 6000 (base:=2000) (av:=[]) (by kernel_rfl)
def R8:List (Ent prog):=⟨_,_,_,_,ak4⟩::KU
theorem abl:Con prog 167 [vW] [] (.tup [.v (.slice none 0 0),.v .nilIface]) []:=cC ⟨cz R8 (cu),cA prog,cw⟩ 6000 (base:=2000) (av:=[]) (by kernel_rfl)
def SZ:List (Ent prog):=⟨_,_,_,_,abl⟩::R8
theorem aiv:Con prog 79 [NC,.lst 1 [.v (.int .i64 4)]] [] (.tup [.v (.slice none 0 0),.v (.bool false),.v .nilIface]) []:=cC ⟨cz SZ (cu),cA prog,cw⟩ 6000 (base:=2000) (av:=[]) (by kernel_rfl)
def P7:List (Ent prog):=⟨_,_,_,_,aiv⟩::SZ
theorem ZE:Con prog 81 [.v (.slice none 0 0),.v (.bool false),.v (.int .i64 0)] [] (.tup [.agg [.v (.bool false),.v (.slice none 0 0),.v (.slice none 0 0),.v (.bool false)],.v .nilIface]) []:=cC ⟨cz P7 (cu),cA prog,cw⟩ 6000 (base:=2000) (av:=[]) (by kernel_rfl)
def QI:List (Ent prog):=⟨_,_,_,_,ZE⟩::P7
theorem ack:Con prog 38 [NC,.lst 1 [.v (.int .i64 4)],.agg [.v (.bool false),.v (.slice none 0 0),.v (.slice none 0 0),.v (.bool false)]] [] (.tup [.ms 300 1 0 1,.v .nilIface]) [pP 300 (.row 1 [.v (.int .i64 1)])]:=cC ⟨cz QI (cu),cA prog,cw⟩ 6000 (base:=2000) (av:=[]) (by kernel_rfl)
def O4:List (Ent prog):=⟨_,_,_,_,ack⟩::QI
theorem al6:Con prog 30 [Si] [] (.tup [.agg [.v (.slice none 0 0),.v (.bool false),.ms 301 1 0 1,.v (.slice none 0 0)],.v .nilIface]) [pP 301 (.row 1 [.v (.bool true)])]:=cC ⟨cz O4 (cu),cA prog,cw⟩ 6000 (base:=2000) (av:=[]) (by kernel_rfl)
def Qu:List (Ent prog):=⟨_,_,_,_,al6⟩::O4
theorem ahy:Con prog 343 [un] [] (.tup [.agg [.v (.bool false),.lst 1 [.v (.int .u32 2)],.lst 1 [.v (.int .u32 1)]],.v .nilIface]) []:=cC ⟨cz Qu (cu),cA prog,cw⟩ 6000 (base:=2000) (av:=[]) (by kernel_rfl)
def Td:List (Ent prog):=⟨_,_,_,_,ahy⟩::Qu
theorem Wf:Con prog 266 [un] [] (.tup [.ms 300 3 0 2,.v .nilIface]) [pP 300 (.row 3 [.agg [.v (.bool false),.lst 1 [],.lst 1 []],.agg [.v (.bool false),.lst 1 [.v (.int .u32 1)],.lst 1 [.v (.int .u32 1)]]])]:=cC ⟨cz Td (cu),cA prog,cw⟩ 6000 (base:=2000) (av:=[]) (by kernel_rfl)
def LM:List (Ent prog):=⟨_,_,_,_,Wf⟩::Td
theorem Xf:Con prog 267 [rT] [] (.tup [.ms 300 3 0 1,.v .nilIface]) [pP 300 (.row 3 [.agg [.v (.bool false),.lst 1 [.v (.int .u32 1)],.lst 1 [.v (.int .u32 1)]]])]:=cC ⟨cz LM (cu),cA prog,cw⟩ 6000 (base:=2000) (av:=[]) (by kernel_rfl)
def Mh:List (Ent prog):=⟨_,_,_,_,Xf⟩::LM
theorem abv:Con prog 366 [rT,.lst 3 [.agg [.v (.bool false),.lst 1 [.v (.int .u32 1)],.lst 1 [.v (.int .u32 1)]]]] [] (.tup [.ms 300 3 0 2,.ms 301 3 0 0,.v .nilIface]) [pP 300 (.row 3 [.agg [.v (.bool false),.lst 1 [],.lst 1 []],.agg [.v (.bool false),.lst 1 [.v (.int .u32 1)],.lst 1 [.v (.int .u32 1)]]]),pP 301 (.row 3 [.agg [.v (.bool false),.lst 1 [],.lst 1 []],.agg [.v (.bool false),.lst 1 [],.lst 1 []]])]:=cC ⟨cz Mh (cu),cA prog,cw⟩ 6000 (base:=2000) (av:=[]) (by kernel_rfl)
def P6:List (Ent prog):=⟨_,_,_,_,abv⟩::Mh
theorem acp:Con prog 344 [un] [] (.tup [.ms 300 1 0 2,.v .nilIface]) [pP 300 (.row 1 [rT,.lst 3 [.agg [.v (.bool false),.lst 1 [.v (.int .u32 1)],.lst 1 [.v (.int .u32 1)]]]])]:=cC ⟨cz P6 (cu),cA prog,cw⟩ 6000 (base:=2000) (av:=[]) (by kernel_rfl)
def Mx:List (Ent prog):=⟨_,_,_,_,acp⟩::P6
theorem acn:Con prog 391 [Qx,.agg [.v (.bool true),.lst 1 [.v (.int .u32 2)],.lst 1 [.v (.int .u32 1)]]] [] (.v (.int .i64 1)) []:=cC ⟨cz Mx (cu),cA prog,cw⟩ 6000 (base:=2000) (av:=[]) (by kernel_rfl)
def Ks:List (Ent prog):=⟨_,_,_,_,acn⟩::Mx
theorem alz:Con prog 391 [Qx,.agg [.v (.bool false),.lst 1 [.v (.int .u32 2)],.lst 1 [.v (.int .u32 1)]]] [] (.v (.int .i64 0)) []:=cC ⟨cz Ks (cu),cA prog,cw⟩ 6000 (base:=2000) (av:=[]) (by kernel_rfl)
def SP:List (Ent prog):=⟨_,_,_,_,alz⟩::Ks
theorem W1:Con prog 265 [un] [] (.tup [.ms 300 6 0 1,.v .nilIface]) [pP 300 (.row 6 [.agg [.v (.bool true),.lst 1 [.v (.int .u32 2)],.lst 1 [.v (.int .u32 1)],.v (.bool false),.lst 1 [.v (.int .u32 2)],.lst 1 [.v (.int .u32 1)]]])]:=cC ⟨cz SP (cu),cA prog,cw⟩ 6000 (base:=2000) (av:=[]) (by kernel_rfl)
def PY:List (Ent prog):=⟨_,_,_,_,W1⟩::SP
theorem afz:Con prog 167 [un] [] (.tup [.ms 300 7 0 1,.v .nilIface]) [pP 300 (.row 7 [Dd])]:=cC ⟨cz PY (cu),cA prog,cw⟩ 6000 (base:=2000) (av:=[]) (by kernel_rfl)
def KN:List (Ent prog):=⟨_,_,_,_,afz⟩::PY
theorem alq:Con prog 79 [CF,.lst 1 [.v (.int .i64 4)]] [] (.tup [.ms 300 7 0 1,.v (.bool true),.v .nilIface]) [pP 300 (.row 7 [Dd])]:=cC ⟨cz KN (cu),cA prog,cw⟩ 6000 (base:=2000) (av:=[]) (by kernel_rfl)
def Nr:List (Ent prog):=⟨_,_,_,_,alq⟩::KN
theorem aml:Con prog 266 [rT] [] (.tup [.ms 300 3 0 2,.v .nilIface]) [pP 300 (.row 3 [.agg [.v (.bool false),.lst 1 [],.lst 1 []],.agg [.v (.bool false),.lst 1 [.v (.int .u32 1)],.lst 1 [.v (.int .u32 1)]]])]:=cC ⟨cz Nr (cu),cA prog,cw⟩ 6000 (base:=2000) (av:=[]) (by kernel_rfl)
def QM:List (Ent prog):=⟨_,_,_,_,aml⟩::Nr
theorem Zy:Con prog 344 [rT] [] (.tup [.ms 300 1 0 2,.v .nilIface]) [pP 300 (.row 1 [rT,.lst 3 [.agg [.v (.bool false),.lst 1 [.v (.int .u32 1)],.lst 1 [.v (.int .u32 1)]]]])]:=cC ⟨cz QM (cu),cA prog,cw⟩ 6000 (base:=2000) (av:=[]) (by kernel_rfl)
def Sn:List (Ent prog):=⟨_,_,_,_,Zy⟩::QM
theorem Wa:Con prog 80 [un,Dd] [] (.tup [.v (.int .i64 0),.v .nilIface]) []:=cC ⟨cz Sn (cu),cA prog,cw⟩ 6000 (base:=2000) (av:=[]) (by kernel_rfl)
def QR:List (Ent prog):=⟨_,_,_,_,Wa⟩::Sn
theorem YQ:Con prog 38 [CF,.lst 1 [.v (.int .i64 4)],.agg [.v (.bool false),.v (.slice none 0 0),.v (.slice none 0 0),.v (.bool true)]] [] (.tup [.ms 300 1 0 1,.v .nilIface]) [pP 300 (.row 1 [.v (.int .i64 0)])]:=cC ⟨cz QR (cu),cA prog,cw⟩ 6000 (base:=2000) (av:=[]) (by kernel_rfl)
def NK:List (Ent prog):=⟨_,_,_,_,YQ⟩::QR
theorem XN:Con prog 81 [GR,.v (.bool true),.v (.int .i64 0)] [] (.tup [.agg [.v (.bool false),.lst 1 [.v (.int .u32 1)],.lst 1 [.v (.int .u32 1)],.v (.bool false)],.v .nilIface]) []:=cC ⟨cz NK (cu),cA prog,cw⟩ 6000 (base:=2000) (av:=[]) (by kernel_rfl)
def SX:List (Ent prog):=⟨_,_,_,_,XN⟩::NK
theorem Vm:Con prog 38 [CF,.lst 1 [.v (.int .i64 4)],.agg [.v (.bool false),.lst 1 [.v (.int .u32 1)],.lst 1 [.v (.int .u32 1)],.v (.bool false)]] [] (.tup [.ms 300 1 0 1,.v .nilIface]) [pP 300 (.row 1 [.v (.int .i64 1)])]:=cC ⟨cz SX (cu),cA prog,cw⟩ 6000 (base:=2000) (av:=[]) (by kernel_rfl)
def Oe:List (Ent prog):=⟨_,_,_,_,Vm⟩::SX
theorem alv:Con prog 81 [GR,.v (.bool true),.v (.int .i64 1)] [] (.tup [.agg [.v (.bool true),.lst 1 [.v (.int .u32 1)],.lst 1 [.v (.int .u32 1)],.v (.bool false)],.v .nilIface]) []:=cC ⟨cz Oe (cu),cA prog,cw⟩ 6000 (base:=2000) (av:=[]) (by kernel_rfl)
def MA:List (Ent prog):=⟨_,_,_,_,alv⟩::Oe
theorem acd:Con prog 38 [CF,.lst 1 [.v (.int .i64 4)],.agg [.v (.bool true),.lst 1 [.v (.int .u32 1)],.lst 1 [.v (.int .u32 1)],.v (.bool false)]] [] (.tup [.ms 300 1 0 1,.v .nilIface]) [pP 300 (.row 1 [.v (.int .i64 1)])]:=cC ⟨cz MA (cu),cA prog,cw⟩ 6000 (base:=2000) (av:=[]) (by kernel_rfl)
def Se:List (Ent prog):=⟨_,_,_,_,acd⟩::MA
theorem YR:Con prog 30 [RY] [] (.tup [.agg [GR,.v (.bool true),.ms 301 1 0 2,.ms 302 1 0 2],.v .nilIface]) [pP 301 (.row 1 [.v (.bool true),.v (.bool true)]),pP 302 (.row 1 [.v (.bool true),.v (.bool true)])]:=cC ⟨cz Se (cu),cA prog,cw⟩ 6000 (base:=2000) (av:=[]) (by kernel_rfl)
def ah2:List (Ent prog):=⟨_,_,_,_,YR⟩::Se
theorem Vj:FP 7 [] (bl true):=cC ⟨cz ah2 (cu),cA prog,cw⟩ 6000 (base:=2000) (av:=[]) (by kernel_rfl)
end Go.Lw
namespace Go.Lw
open Go.Proofs Go.Proofs.YtmencaoblogmeaaGreat
open Go.ChangeShapes Go.WideShapes Go.ChangeAt Go.RowKit
set_option maxRecDepth 100000 in
theorem aec(os:Os)(started:os.Started)(H:Type)(enc:atp×ato->H) :
  ReturnsInHanded {} Tryz.checked os 5 .any (Rows.limitsDyadsSpec.pre6 enc prog Tryz.f5 Rows.limitsDyadsRow.domain false) (Rows.limitsDyadsSpec.post enc prog Tryz.f5 false true false false):=by
 refine returnsInHanded_of_change_sized (C := Tryz.checked) own started (by kernel_rfl) func5
  (ChangeSpec.witness6 (enc:=enc) (C:=Tryz.checked) false ⟨#[],#[.agg #[.string ⟨#[]⟩,.slice none 0 0,.slice none 0 0,.slice none 0 0],.agg #[.bool false,.slice none 0 0,.slice none 0 0,.bool false]],[]⟩ 8 (by kernel_rfl) (by kernel_rfl) (by kernel_rfl) (by kernel_rfl)) ?_
 intro W base args ds gs before UU hW an3 UV _;have kt:∀(j:Nat) t v,Tryz.f5.params[j]?=some t->args[j]?=some v->Value.okWide prog W .any base t v:=UU;have d5:(DataW.weightsEach prog (Tryz.f5.params.toList++Rows.limitsDyadsSpec.plain.varTypes prog) (ds++gs)).all (· <= reachBytes)=true:=UV;have hW':=hW;obtain⟨p,q,UW,hV,rfl,hfz,cE⟩:=hW;have hA:DataW.TrodAll enc prog W 0 (fun _=>true) true Tryz.f5.params.toList args.toList ds p:=UW;rw[Tryz.params5]at hA kt d5;obtain⟨v0,v1,d0,d1,p0,p1,rfl,rfl,rfl,h0,h1⟩:=trodAll_two hA;obtain⟨rfl,rfl⟩:=trodVars_none hV;clear UW UU UV;have hlt:∀x∈p0++p1,x.block<W.heap.size:=fun x hx=>hW'.lt x (by simpa using hx)
 have JP:∀n∈d0.weights prog 26,n<=reachBytes:=fun n hn=>by
  have:=asd.1 d5 n (DataW.weights_mem_each (j:=0) rfl rfl n hn);simpa using this
 have lw:∀n∈d1.weights prog 46,n<=reachBytes:=fun n hn=>by
  have:=asd.1 d5 n (DataW.weights_mem_each (j:=1) rfl rfl n hn);simpa using this
 obtain⟨x0,q0,r0⟩:=Px Tryz.underlying26 aaa (kt 0 26 v0 rfl rfl) h0 JP;obtain⟨x1,q1,r1⟩:=Px Tryz.underlying46 XJ (kt 1 46 v1 rfl rfl) h1 lw
 have hc:=kU.calls (W:=W) (vs:=#[v0,v1]) (WI Vj x0 q0 x1 q1) rfl (fun j v x hv hx=>by
  match j,hv,hx with
  |0,hv,hx=>cases hv;cases hx;exact r0
  |1,hv,hx=>cases hv;cases hx;exact r1)
 refine hc.mono fun e W' ⟨he,hb⟩=>?_
 subst he;refine⟨_,rfl,VH hW' rfl rfl (fun _ _ _=>trodAll_mk1 (shut_bool Tryz.underlying4 _)) (fun sp fp=>?_) rfl hb (ok_one (by kernel_rfl) rfl (okWide_bool_mk Tryz.underlying4 _))⟩;rw[Tryz.params5];have hs:∀x∈p0++p1,sp x.block=true:=fun x hx=>fp x (by simpa using hx)
 have g0:=KX (sp':=sp) (by kernel_rfl) (atg (by kernel_rfl)) h0 hb (fun x hx=>hlt x (by simp[hx])) (fun x hx=>hs x (by simp[hx]));have g1:=KX (sp':=sp) (by kernel_rfl) (atg (by kernel_rfl)) h1 hb (fun x hx=>hlt x (by simp[hx])) (fun x hx=>hs x (by simp[hx]));have g:=trodAll_mk2 g0 g1;rw[show p0++p1++[]=p0++p1 from by simp];exact g
set_option maxRecDepth 100000 in
theorem akg:prog.closure 5=[5,16,6,25,26,74,161,259,258,260,75,162,106,205,207,303,372,305,365,373,401,375,370,374,363,282,175,174,206,304,280,301,294,364,208,76,163,164,261,96,197,200,173,281,362,400,193,201,302,107,77,9,34,85,190,289,191,290,368,291,369,403,292,86,35,87,88,102,95,192,82,293,94,196,298,297,99,97,198,295,93,195,89,90,92,98,199,300,299,91,194,296,371,404,100,101,27,13,40,7,28,78,8,33,17,42,110,209,306,376,377,405,210,104,203,119,160,221,218,222,315,316,331,317,318,314,319,320,121,48,47,204,73,216,211,307,308,352,72,117,220,212,111,213,309,378,311,381,382,380,214,310,379,313,312,215,43,112,83,123,223,321,84,176,177,178,283,179,19,46,118,120,217,219,165,262,45,116,24,186,287,70,367,402,71,284,182,172,279,185,286,263,180,188,288,181,183,184,187,166,264,285,366,346,389,361,189,29,30,79,105,167,265,343,350,390,344,266,348,347,349,267,345,391,392,23,278,357,356,393,396,407,80,168,268,269,351,353,169,270,271,355,394,395,354,272,273,277,38,39,81,170,274,358,397,398,275,359,399,360,276,171,31,12,36,103,202,11,32,18,44,113,114,115,20,49,122,158,69,159,256,341,342,337,255,226,124,225,332,224,322,328,388,323,383,324,384,385,325,386,387,406,326,327,329,330,125,68,50,126,37,227,333,127,128,147,148,252,248,130,228,249,155,338,253,154,257,336,150,340,149,129,145,231,65,152,254,156,56,140,250,339,62,153,60,63,131,51,55,142,133,132,229,334,230,58,134,143,241,242,243,22,144,251,151,244,239,235,245,236,232,233,234,335,237,238,240,138,246,247,135,141,52,59,146,136,53,66,157,61,67,64,137,139,21,54,57]:=by kernel_rfl
theorem ala:joinedFacts prog 5 Tryz.f5 Rows.limitsDyadsSpec Rows.limitsDyadsRow=true:=by
 unfold joinedFacts Program.recurses Program.inPlace Program.unfollowed Program.varsNamed;rw[akg,Rv,aca,ahi,ak5,YS,XZ]
 kernel_rfl
theorem limitsDyads_holds:Rows.LimitsDyadsSaid :=
 OpenClaim.holds_of_wide 5 Tryz.f5 rfl rfl rfl rfl rfl rfl rfl ⟨rfl, rfl, rfl, rfl, rfl⟩ rfl rfl rfl rfl rfl (by kernel_rfl) func5 ala
  (atg (by kernel_rfl)) (by unfold Func.isWrapper;first |(rw[ate (by decide +kernel)];kernel_rfl) |(rw[atd (by decide +kernel)];exact⟨rfl,rfl⟩))
  (fun os started H enc _=>aec os started H enc)
end Go.Lw
namespace Go.Proofs.YtmencaoblogmeaaGreat
theorem limitsDyads_proved:Rows.LimitsDyadsSaid:=Go.Lw.limitsDyads_holds
end Go.Proofs.YtmencaoblogmeaaGreat
