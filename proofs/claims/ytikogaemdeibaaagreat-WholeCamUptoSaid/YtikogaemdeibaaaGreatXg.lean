/- WholeCam: for any cam, shift and position whose reading holds at most 1048576 values the law returns true and leaves its arguments as they were. No other condition. Part 7 of 7: the statement -/
import Derived.Test.YtikogaemdeibaaaGreatXf
import Derived.Deep.CondSized
set_option linter.unusedVariables false
open List renaming map_cons → aaz, mem_cons → aai, length_cons → Z7, all_eq_true → Z6
open Nat renaming le_refl → Z0, le_trans → aaj
open Go renaming Value → abc, TypeId → abd, World → abf
open Go.Proofs.Tryz
namespace Go.Lw
open Go.Proofs
set_option maxRecDepth 20000
def MT:AV:=.agg [.v (.string ⟨⟨[97]⟩⟩),.v (.int .i64 0),.v (.int .i64 2),.v (.int .i64 0),.v (.int .i64 1),.v (.int .i64 1),.v (.int .i64 0)]
def N5:AV:=.agg [.v (.string ⟨⟨[98]⟩⟩),.v (.int .i64 0),.v (.int .i64 3),.v (.int .i64 1),.v (.int .i64 2),.v (.int .i64 1),.v (.int .i64 0)]
def Td:AV:=.agg [.v (.string ⟨⟨[111]⟩⟩),.v (.int .i64 0),.v (.int .i64 1),.v (.int .i64 0),.v (.int .i64 0),.v (.int .i64 0),.v (.int .i64 0)]
def JS:AV:=.agg [.v (.string ⟨⟨[113]⟩⟩),.v (.int .i64 0),.v (.int .i64 3),.v (.int .i64 0),.v (.int .i64 0),.v (.int .i64 1),.v (.int .i64 0)]
def C3:AV:=.agg [.v (.slice none 0 0),.lst 3 [.agg [.v (.bool false),.lst 1 [.v (.int .u32 1)],.lst 1 [.v (.int .u32 1)]]],.lst 3 [],.lst 3 []]
def HZ:AV:=.agg [.v (.string ⟨⟨[79]⟩⟩),.v (.bool false),.v (.slice none 0 0),.v (.slice none 0 0),.v (.bool false),.v (.slice none 0 0),.v (.slice none 0 0)]
def JT:AV:=.agg [.v (.string ⟨⟨[65]⟩⟩),.v (.bool false),.v (.slice none 0 0),.v (.slice none 0 0),.v (.bool false),.v (.slice none 0 0),.v (.slice none 0 0)]
def OP:AV:=.agg [.v (.string ⟨⟨[81]⟩⟩),.v (.bool false),.v (.slice none 0 0),.v (.slice none 0 0),.v (.bool false),.v (.slice none 0 0),.v (.slice none 0 0)]
def uF:AV:=.agg [.lst 3 [.agg [.v (.bool false),.lst 1 [.v (.int .u32 1)],.lst 1 [.v (.int .u32 1)]]],.v (.slice none 0 0),.v (.slice none 0 0),.v (.slice none 0 0)]
def Cn:AV:=.agg [.v (.slice none 0 0),.lst 3 [.agg [.v (.bool false),.lst 1 [.v (.int .u32 1)],.lst 1 [.v (.int .u32 1)]]],.v (.slice none 0 0),.v (.slice none 0 0)]
def KC:AV:=.agg [.v (.string ⟨⟨[81]⟩⟩),.v (.bool false),.lst 1 [.v (.int .u32 4)],.lst 1 [.v (.int .u32 1)],.v (.bool false),.v (.slice none 0 0),.v (.slice none 0 0)]
def Rk:AV:=.agg [.v (.string ⟨⟨[65]⟩⟩),.v (.bool false),.lst 1 [.v (.int .u32 1)],.lst 1 [.v (.int .u32 1)],.v (.bool false),.v (.slice none 0 0),.v (.slice none 0 0)]
def Eb:AV:=.agg [.v (.string ⟨⟨[66]⟩⟩),.v (.bool false),.lst 1 [.v (.int .u32 3)],.lst 1 [.v (.int .u32 1)],.v (.bool false),.v (.slice none 0 0),.v (.slice none 0 0)]
def y9:AV:=.lst 3 [.agg [.v (.bool true),.lst 1 [.v (.int .u32 1)],.lst 1 [.v (.int .u32 6)]],.agg [.v (.bool true),.lst 1 [.v (.int .u32 2)],.lst 1 [.v (.int .u32 51)]]]
def Rf:AV:=.lst 3 [.agg [.v (.bool false),.lst 1 [.v (.int .u32 2)],.lst 1 [.v (.int .u32 1)]],.agg [.v (.bool true),.lst 1 [.v (.int .u32 1)],.lst 1 [.v (.int .u32 34)]]]
def Sx:AV:=.lst 3 [.agg [.v (.bool false),.lst 1 [.v (.int .u32 1)],.lst 1 [.v (.int .u32 2)]],.agg [.v (.bool true),.lst 1 [.v (.int .u32 2)],.lst 1 [.v (.int .u32 17)]]]
def xE:AV:=.lst 3 [.agg [.v (.bool true),.lst 1 [.v (.int .u32 1)],.lst 1 [.v (.int .u32 6)]],.agg [.v (.bool false),.lst 1 [.v (.int .u32 2)],.lst 1 [.v (.int .u32 51)]]]
def wt:AV:=.lst 3 [.agg [.v (.bool true),.lst 1 [.v (.int .u32 2)],.lst 1 [.v (.int .u32 3)]],.agg [.v (.bool true),.lst 1 [.v (.int .u32 1)],.lst 1 [.v (.int .u32 102)]]]
def zq:AV:=.lst 3 [.agg [.v (.bool false),.lst 1 [.v (.int .u32 1)],.lst 1 [.v (.int .u32 6)]],.agg [.v (.bool true),.lst 1 [.v (.int .u32 2)],.lst 1 [.v (.int .u32 51)]]]
def TY:AV:=.lst 3 [.agg [.v (.bool false),.lst 1 [.v (.int .u32 2)],.lst 1 [.v (.int .u32 1)]],.agg [.v (.bool false),.lst 1 [.v (.int .u32 1)],.lst 1 [.v (.int .u32 34)]]]
def QG:AV:=.lst 3 [.agg [.v (.bool false),.lst 1 [.v (.int .u32 1)],.lst 1 [.v (.int .u32 2)]],.agg [.v (.bool false),.lst 1 [.v (.int .u32 2)],.lst 1 [.v (.int .u32 17)]]]
def zp:AV:=.lst 3 [.agg [.v (.bool true),.lst 1 [.v (.int .u32 2)],.lst 1 [.v (.int .u32 3)]],.agg [.v (.bool false),.lst 1 [.v (.int .u32 1)],.lst 1 [.v (.int .u32 102)]]]
def y6:AV:=.lst 3 [.agg [.v (.bool false),.lst 1 [.v (.int .u32 1)],.lst 1 [.v (.int .u32 6)]],.agg [.v (.bool false),.lst 1 [.v (.int .u32 2)],.lst 1 [.v (.int .u32 51)]]]
def yb:AV:=.lst 3 [.agg [.v (.bool false),.lst 1 [.v (.int .u32 2)],.lst 1 [.v (.int .u32 3)]],.agg [.v (.bool true),.lst 1 [.v (.int .u32 1)],.lst 1 [.v (.int .u32 102)]]]
def xy:AV:=.lst 3 [.agg [.v (.bool false),.lst 1 [.v (.int .u32 2)],.lst 1 [.v (.int .u32 3)]],.agg [.v (.bool false),.lst 1 [.v (.int .u32 1)],.lst 1 [.v (.int .u32 102)]]]
def Sh:AV:=.lst 7 [HZ,KC]
def M9:AV:=.lst 7 [HZ,Rk]
def NM:AV:=.lst 7 [OP,Eb]
def RM:AV:=.agg [Rf,Sx]
def SZ:AV:=.agg [TY,QG]
def Ua:AV:=.agg [.v (.string ⟨⟨[99,114,97,110,107]⟩⟩),M9]
def PT:AV:=.agg [.v (.string ⟨⟨[102,114,97,109,101]⟩⟩),Sh]
def OV:AV:=.agg [.v (.string ⟨⟨[114,111,99,107,101,114]⟩⟩),NM]
def Qg:AV:=.lst 7 [JT,Eb,.agg [.v (.string ⟨⟨[80]⟩⟩),.v (.bool false),.lst 1 [],.lst 1 [],.v (.bool false),.lst 1 [],.lst 1 []]]
def P5:AV:=.agg [yb,y9,.lst 3 [],.lst 3 [.agg [.v (.bool false),.lst 1 [.v (.int .u32 1)],.lst 1 [.v (.int .u32 1)]]]]
def Rs:AV:=.agg [wt,zq,.lst 3 [.agg [.v (.bool false),.lst 1 [.v (.int .u32 4)],.lst 1 [.v (.int .u32 1)]]],.lst 3 []]
def JV:AV:=.agg [xy,xE,.lst 3 [],.lst 3 [.agg [.v (.bool false),.lst 1 [.v (.int .u32 1)],.lst 1 [.v (.int .u32 1)]]]]
def RT:AV:=.agg [zp,y6,.lst 3 [.agg [.v (.bool false),.lst 1 [.v (.int .u32 4)],.lst 1 [.v (.int .u32 1)]]],.lst 3 []]
def Jy:AV:=.agg [yb,y9,.v (.slice none 0 0),.lst 3 [.agg [.v (.bool false),.lst 1 [.v (.int .u32 1)],.lst 1 [.v (.int .u32 1)]]]]
def Pr:AV:=.agg [wt,zq,.lst 3 [.agg [.v (.bool false),.lst 1 [.v (.int .u32 4)],.lst 1 [.v (.int .u32 1)]]],.v (.slice none 0 0)]
def OW:AV:=.agg [.v (.string ⟨⟨[99,111,117,112,108,101,114]⟩⟩),Qg]
def Lj:AV:=.lst 7 [Td,MT,N5,JS]
def G8:AV:=.lst 2 [SZ,RM]
def Nd:AV:=.lst 4 [P5,Rs]
def Nq:AV:=.lst 4 [JV,RT]
def BO:AV:=.agg [.lst 1 [.lst 3 [.agg [.v (.bool false),.lst 1 [.v (.int .u32 323)],.lst 1 [.v (.int .u32 1)]]]],Nd,.v (.int .i64 (-1))]
def Fb:AV:=.agg [.lst 1 [.lst 3 [.agg [.v (.bool false),.lst 1 [.v (.int .u32 323)],.lst 1 [.v (.int .u32 1)]]]],Nq,.v (.int .i64 1)]
def MH:AV:=.lst 4 [uF,Cn,Jy,Pr]
def zG:AV:=.agg [.lst 1 [.lst 3 [.agg [.v (.bool false),.lst 1 [.v (.int .u32 323)],.lst 1 [.v (.int .u32 1)]]]],MH,.lst 1 [.v (.int .i64 1),.v (.int .i64 (-1))]]
def O0:AV:=.lst 2 [PT,Ua,OW,OV]
def o6:AV:=.agg [.v (.string ⟨⟨[102,111,117,114,98,97,114]⟩⟩),O0,Lj,.lst 2 [.agg [.v (.string ⟨⟨[100]⟩⟩),.v (.int .i64 1)]]]
theorem Ps:Con prog 19 [.agg [.v (.bool false),.lst 1 [.v (.int .u32 4)],.lst 1 [.v (.int .u32 1)],.v (.bool false),.lst 1 [.v (.int .u32 1)],.lst 1 [.v (.int .u32 1)],.v (.bool false),.lst 1 [.v (.int .u32 3)],.lst 1 [.v (.int .u32 1)],.v (.bool false),.lst 1 [.v (.int .u32 3)],.lst 1 [.v (.int .u32 1)],.v (.bool false),.v (.slice none 0 0),.v (.slice none 0 0),.v (.bool false),.v (.slice none 0 0),.v (.slice none 0 0)]] [] (o6) []:=dH ⟨dF [] (dw),dC prog,du⟩ 6000 (base:=2000) (av:=[]) (by kernel_rfl)
def DM:List (Ent prog):=⟨_,_,_,_,Ps⟩::[]
theorem QP:Con prog 117 [o6,.v (.int .i64 0),.agg [.v (.bool false),.lst 1 [.v (.int .u32 1)],.lst 1 [.v (.int .u32 1)],.v (.bool false)],.agg [.v (.slice none 0 0),.lst 4 [uF,.agg [.v (.slice none 0 0),.v (.slice none 0 0),.v (.slice none 0 0),.v (.slice none 0 0)],.agg [.v (.slice none 0 0),.v (.slice none 0 0),.v (.slice none 0 0),.v (.slice none 0 0)],.agg [.v (.slice none 0 0),.v (.slice none 0 0),.v (.slice none 0 0),.v (.slice none 0 0)]],.v (.slice none 0 0)]] [] (.tup [.lst 3 [.agg [.v (.slice none 0 0),.lst 4 [C3],.v (.int .i64 1)]],.v .nilIface]) []:=dH ⟨dF DM (dw),dC prog,du⟩ 6000 (base:=2000) (av:=[]) (by kernel_rfl)
def GI:List (Ent prog):=⟨_,_,_,_,QP⟩::DM
theorem Rr:Con prog 229 [.agg [.v (.slice none 0 0)],.agg [.lst 3 [],.lst 3 [.agg [.v (.bool false),.lst 1 [.v (.int .u32 1)],.lst 1 [.v (.int .u32 1)]]],.lst 3 [.agg [.v (.bool false),.lst 1 [.v (.int .u32 9)],.lst 1 [.v (.int .u32 1)]]]],.agg [.lst 3 [.agg [.v (.bool false),.lst 1 [.v (.int .u32 4)],.lst 1 [.v (.int .u32 1)]]],.lst 3 [],.lst 3 [.agg [.v (.bool false),.lst 1 [.v (.int .u32 9)],.lst 1 [.v (.int .u32 1)]]]]] [] (.tup [.agg [.ms 301 1 0 1,G8],.v .nilIface]) [pP 301 (.row 1 [.lst 3 [.agg [.v (.bool false),.lst 1 [.v (.int .u32 323)],.lst 1 [.v (.int .u32 1)]]]])]:=dH ⟨dF GI (dw),dC prog,du⟩ 6000 (base:=2000) (av:=[]) (by kernel_rfl)
def DY:List (Ent prog):=⟨_,_,_,_,Rr⟩::GI
theorem Ls:Con prog 231 [.agg [.lst 1 [.lst 3 [.agg [.v (.bool false),.lst 1 [.v (.int .u32 323)],.lst 1 [.v (.int .u32 1)]]]],G8],.lst 14 [.agg [.v (.bool false),.v (.slice none 0 0),.v (.slice none 0 0),.v (.bool false),.v (.slice none 0 0),.v (.slice none 0 0),.lst 3 [],.lst 3 [.agg [.v (.bool false),.lst 1 [.v (.int .u32 1)],.lst 1 [.v (.int .u32 1)]]],.v (.bool false),.lst 1 [.v (.int .u32 3)],.lst 1 [.v (.int .u32 1)],.v (.bool false),.v (.slice none 0 0),.v (.slice none 0 0)],.agg [.v (.bool false),.v (.slice none 0 0),.v (.slice none 0 0),.v (.bool false),.v (.slice none 0 0),.v (.slice none 0 0),.lst 3 [.agg [.v (.bool false),.lst 1 [.v (.int .u32 4)],.lst 1 [.v (.int .u32 1)]]],.lst 3 [],.v (.bool false),.lst 1 [.v (.int .u32 3)],.lst 1 [.v (.int .u32 1)],.v (.bool false),.v (.slice none 0 0),.v (.slice none 0 0)]]] [] (.tup [.ms 300 3 0 2,.v .nilIface]) [pP 300 (.row 3 [Fb,BO])]:=dH ⟨dF DY (dw),dC prog,du⟩ 6000 (base:=2000) (av:=[]) (by kernel_rfl)
def GH:List (Ent prog):=⟨_,_,_,_,Ls⟩::DY
theorem S0:Con prog 117 [o6,.v (.int .i64 1),.agg [.v (.bool false),.v (.slice none 0 0),.v (.slice none 0 0),.v (.bool false)],.agg [.v (.slice none 0 0),.lst 4 [uF,C3,.agg [.v (.slice none 0 0),.v (.slice none 0 0),.v (.slice none 0 0),.v (.slice none 0 0)],.agg [.v (.slice none 0 0),.v (.slice none 0 0),.v (.slice none 0 0),.v (.slice none 0 0)]],.lst 1 [.v (.int .i64 1)]]] [] (.tup [.ms 300 3 0 2,.v .nilIface]) [pP 300 (.row 3 [Fb,BO])]:=dH ⟨dF GH (dw),dC prog,du⟩ 6000 (base:=2000) (av:=[]) (by kernel_rfl)
def F5:List (Ent prog):=⟨_,_,_,_,S0⟩::GH
theorem Kk:Con prog 175 [.lst 3 [.agg [.v (.bool false),.lst 1 [.v (.int .u32 323)],.lst 1 [.v (.int .u32 1)]]]] [] (.ms 300 3 0 1) [pP 300 (.row 3 [.agg [.v (.bool false),.lst 1 [.v (.int .u32 323)],.lst 1 [.v (.int .u32 1)]]])]:=dH ⟨dF F5 (dw),dC prog,du⟩ 6000 (base:=2000) (av:=[]) (by kernel_rfl)
def Dz:List (Ent prog):=⟨_,_,_,_,Kk⟩::F5
theorem PA:Con prog 175 [.lst 3 [.agg [.v (.bool false),.lst 1 [.v (.int .u32 1)],.lst 1 [.v (.int .u32 1)]]]] [] (.ms 300 3 0 1) [pP 300 (.row 3 [.agg [.v (.bool false),.lst 1 [.v (.int .u32 1)],.lst 1 [.v (.int .u32 1)]]])]:=dH ⟨dF Dz (dw),dC prog,du⟩ 6000 (base:=2000) (av:=[]) (by kernel_rfl)
def Fu:List (Ent prog):=⟨_,_,_,_,PA⟩::Dz
theorem R4:Con prog 175 [.v (.slice none 0 0)] [] (.v (.slice none 0 0)) []:=dH ⟨dF Fu (dw),dC prog,du⟩ 6000 (base:=2000) (av:=[]) (by kernel_rfl)
def Ey:List (Ent prog):=⟨_,_,_,_,R4⟩::Fu
theorem TL:Con prog 175 [.lst 3 []] [] (.v (.slice none 0 0)) []:=dH ⟨dF Ey (dw),dC prog,du⟩ 6000 (base:=2000) (av:=[]) (by kernel_rfl)
def DU:List (Ent prog):=⟨_,_,_,_,TL⟩::Ey
theorem KG:Con prog 175 [xy] [] (.ms 300 3 0 2) [pP 300 (.row 3 [.agg [.v (.bool false),.lst 1 [.v (.int .u32 2)],.lst 1 [.v (.int .u32 3)]],.agg [.v (.bool false),.lst 1 [.v (.int .u32 1)],.lst 1 [.v (.int .u32 102)]]])]:=dH ⟨dF DU (dw),dC prog,du⟩ 6000 (base:=2000) (av:=[]) (by kernel_rfl)
def CK:List (Ent prog):=⟨_,_,_,_,KG⟩::DU
theorem OM:Con prog 175 [xE] [] (.ms 300 3 0 2) [pP 300 (.row 3 [.agg [.v (.bool true),.lst 1 [.v (.int .u32 1)],.lst 1 [.v (.int .u32 6)]],.agg [.v (.bool false),.lst 1 [.v (.int .u32 2)],.lst 1 [.v (.int .u32 51)]]])]:=dH ⟨dF CK (dw),dC prog,du⟩ 6000 (base:=2000) (av:=[]) (by kernel_rfl)
def Hc:List (Ent prog):=⟨_,_,_,_,OM⟩::CK
theorem Pw:Con prog 175 [zp] [] (.ms 300 3 0 2) [pP 300 (.row 3 [.agg [.v (.bool true),.lst 1 [.v (.int .u32 2)],.lst 1 [.v (.int .u32 3)]],.agg [.v (.bool false),.lst 1 [.v (.int .u32 1)],.lst 1 [.v (.int .u32 102)]]])]:=dH ⟨dF Hc (dw),dC prog,du⟩ 6000 (base:=2000) (av:=[]) (by kernel_rfl)
def Dk:List (Ent prog):=⟨_,_,_,_,Pw⟩::Hc
theorem UP:Con prog 175 [y6] [] (.ms 300 3 0 2) [pP 300 (.row 3 [.agg [.v (.bool false),.lst 1 [.v (.int .u32 1)],.lst 1 [.v (.int .u32 6)]],.agg [.v (.bool false),.lst 1 [.v (.int .u32 2)],.lst 1 [.v (.int .u32 51)]]])]:=dH ⟨dF Dk (dw),dC prog,du⟩ 6000 (base:=2000) (av:=[]) (by kernel_rfl)
def GS:List (Ent prog):=⟨_,_,_,_,UP⟩::Dk
theorem JH:Con prog 175 [.lst 3 [.agg [.v (.bool false),.lst 1 [.v (.int .u32 4)],.lst 1 [.v (.int .u32 1)]]]] [] (.ms 300 3 0 1) [pP 300 (.row 3 [.agg [.v (.bool false),.lst 1 [.v (.int .u32 4)],.lst 1 [.v (.int .u32 1)]]])]:=dH ⟨dF GS (dw),dC prog,du⟩ 6000 (base:=2000) (av:=[]) (by kernel_rfl)
def ED:List (Ent prog):=⟨_,_,_,_,JH⟩::GS
theorem Ss:Con prog 175 [yb] [] (.ms 300 3 0 2) [pP 300 (.row 3 [.agg [.v (.bool false),.lst 1 [.v (.int .u32 2)],.lst 1 [.v (.int .u32 3)]],.agg [.v (.bool true),.lst 1 [.v (.int .u32 1)],.lst 1 [.v (.int .u32 102)]]])]:=dH ⟨dF ED (dw),dC prog,du⟩ 6000 (base:=2000) (av:=[]) (by kernel_rfl)
def Ef:List (Ent prog):=⟨_,_,_,_,Ss⟩::ED
theorem S8:Con prog 175 [y9] [] (.ms 300 3 0 2) [pP 300 (.row 3 [.agg [.v (.bool true),.lst 1 [.v (.int .u32 1)],.lst 1 [.v (.int .u32 6)]],.agg [.v (.bool true),.lst 1 [.v (.int .u32 2)],.lst 1 [.v (.int .u32 51)]]])]:=dH ⟨dF Ef (dw),dC prog,du⟩ 6000 (base:=2000) (av:=[]) (by kernel_rfl)
def ER:List (Ent prog):=⟨_,_,_,_,S8⟩::Ef
theorem KL:Con prog 175 [wt] [] (.ms 300 3 0 2) [pP 300 (.row 3 [.agg [.v (.bool true),.lst 1 [.v (.int .u32 2)],.lst 1 [.v (.int .u32 3)]],.agg [.v (.bool true),.lst 1 [.v (.int .u32 1)],.lst 1 [.v (.int .u32 102)]]])]:=dH ⟨dF ER (dw),dC prog,du⟩ 6000 (base:=2000) (av:=[]) (by kernel_rfl)
def Gn:List (Ent prog):=⟨_,_,_,_,KL⟩::ER
theorem S3:Con prog 175 [zq] [] (.ms 300 3 0 2) [pP 300 (.row 3 [.agg [.v (.bool false),.lst 1 [.v (.int .u32 1)],.lst 1 [.v (.int .u32 6)]],.agg [.v (.bool true),.lst 1 [.v (.int .u32 2)],.lst 1 [.v (.int .u32 51)]]])]:=dH ⟨dF Gn (dw),dC prog,du⟩ 6000 (base:=2000) (av:=[]) (by kernel_rfl)
def Hg:List (Ent prog):=⟨_,_,_,_,S3⟩::Gn
theorem PD:Con prog 20 [o6,.lst 4 [.agg [.v (.bool false),.lst 1 [.v (.int .u32 1)],.lst 1 [.v (.int .u32 1)],.v (.bool false)]]] [] (.tup [.ms 300 3 0 2,.v .nilIface]) [pP 300 (.row 3 [.agg [.lst 1 [.lst 3 [.agg [.v (.bool false),.lst 1 [.v (.int .u32 323)],.lst 1 [.v (.int .u32 1)]]]],.lst 4 [uF,Cn,.agg [xy,xE,.v (.slice none 0 0),.lst 3 [.agg [.v (.bool false),.lst 1 [.v (.int .u32 1)],.lst 1 [.v (.int .u32 1)]]]],.agg [zp,y6,.lst 3 [.agg [.v (.bool false),.lst 1 [.v (.int .u32 4)],.lst 1 [.v (.int .u32 1)]]],.v (.slice none 0 0)]],.lst 1 [.v (.int .i64 1),.v (.int .i64 1)]],zG])]:=dH ⟨dF Hg (dw),dC prog,du⟩ 6000 (base:=2000) (av:=[]) (by kernel_rfl)
def HD:List (Ent prog):=⟨_,_,_,_,PD⟩::Hg
theorem No:Con prog 70 [o6,.lst 4 [.agg [.v (.bool false),.lst 1 [.v (.int .u32 1)],.lst 1 [.v (.int .u32 1)],.v (.bool false)]],zG] [] (.agg [.v (.int .i64 0),.v (.int .i64 0)]) []:=dH ⟨dF HD (dw),dC prog,du⟩ 6000 (base:=2000) (av:=[]) (by kernel_rfl)
def HB:List (Ent prog):=⟨_,_,_,_,No⟩::HD
theorem PS:Con prog 21 [o6,.lst 4 [.agg [.v (.bool false),.lst 1 [.v (.int .u32 1)],.lst 1 [.v (.int .u32 1)],.v (.bool false)]],zG] [] (.tup [.v (.bool true),.agg [.v (.int .i64 0),.v (.int .i64 0)],.v .nilIface]) []:=dH ⟨dF HB (dw),dC prog,du⟩ 6000 (base:=2000) (av:=[]) (by kernel_rfl)
def Qq:List (Ent prog):=⟨_,_,_,_,PS⟩::HB
theorem SA:FP 4 [] (bl true):=dH ⟨dF Qq (dw),dC prog,du⟩ 6000 (base:=2000) (av:=[]) (by kernel_rfl)
end Go.Lw
namespace Go.Lw
def g8(r:Rt):Nat:=1+(r.num.length+r.den.length)
def fw(x:List Rt):Nat:=(x.map g8).sum
theorem CG{x:List Rt}{r:Rt}(h:r∈x):g8 r<=fw x:=by
 induction x with
 |nil=>cases h
 |cons y x ih =>
  have e:fw (y::x)=g8 y+fw x:=by unfold fw;rw[aaz,List.sum_cons]
  rw[e];rcases aai.1 h with rfl |h
  ·omega
  ·have:=ih h;omega
theorem KA{r:Rt}(h:r.wok)(hm:g8 r<=2000000):r.ok:=by
 unfold g8 at hm;exact⟨h.1,h.2,by unfold dj;omega,by unfold dj;omega⟩
open Go.Proofs Go.Proofs.YtikogaemdeibaaaGreat
open Go.ChangeShapes Go.WideShapes Go.ChangeAt Go.RowKit
theorem kq{H:Type}:Bulk (H:=H) Rows.uptoBulk Rows.uptoBulkAll where
 one:=fun d=>by
  cases d with
  |lit l=>cases l <;> simp[Rows.uptoBulk]
  |nil=>simp[Rows.uptoBulk]
  |ptr d=>simp[Rows.uptoBulk]
  |slice elems spare=>simp[Rows.uptoBulk]
  |agg parts=>simp[Rows.uptoBulk]
  |iface t d=>simp[Rows.uptoBulk]
  |map entries=>simp[Rows.uptoBulk]
  |held h=>simp[Rows.uptoBulk]
 nil:=by simp[Rows.uptoBulkAll]
 cons:=fun d l=>by simp[Rows.uptoBulkAll]
 slice:=fun e s=>by simp only[Rows.uptoBulk];omega
 agg:=fun l=>by simp only[Rows.uptoBulk];omega
section
variable{W:abf}{H:Type}{enc:abd×abc->H}
theorem Pu{α:Type}(l:List α):(l.map (fun _=>1)).sum=l.length:=by
 induction l with
 |nil=>rfl
 |cons a l ih=>rw[aaz,List.sum_cons,ih,Z7];omega
theorem FF:eM prog W enc Rows.uptoBulk 22 ws (fun l=>Ws l/\l.length<=281474976710656) (fun l=>l.length) :=
 (s6 kq Tryz.underlying22 (n:=1) (by kernel_rfl) oz (by kernel_rfl) (UU.m1 kq) (fun _=>rfl)).map id _ _ _ (fun l h=>⟨⟨fun x hx=>h.1 x hx,h.2⟩,rfl,by rw[Pu];exact Z0 _⟩)
theorem vC:eM prog W enc Rows.uptoBulk 24 Rt.av Rt.wok g8 :=
 (wC kq (n := 3) Tryz.underlying24 (by kernel_rfl)
  (.cons rfl (n:=1) (by kernel_rfl) (Qd.m1 kq) (fun _=>rfl) (.cons rfl (n:=1) (by kernel_rfl) FF (fun _=>rfl) (.cons rfl (n:=1) (by kernel_rfl) FF (fun _=>rfl) (.nil _)))) (fun _=>rfl)).map
  (fun z=>⟨z.1,z.2.1,z.2.2.1⟩) _ _ _ (fun z h=>⟨⟨h.2.1.1,h.2.2.1.1⟩,rfl,Z0 _⟩)
theorem Qf:eM prog W enc Rows.uptoBulk 25 nR (fun l:List Rt=>(∀r∈l,r.wok)/\l.length<=281474976710656) fw:=s6 kq Tryz.underlying25 (n:=3) (by kernel_rfl) oz (by kernel_rfl) vC (fun _=>rfl)
theorem Lt:eM prog W enc Rows.uptoBulk 35 nR (fun l:List Rt=>(∀r∈l,r.wok)/\l.length<=281474976710656) fw:=s6 kq Tryz.underlying35 (n:=3) (by kernel_rfl) oz (by kernel_rfl) vC (fun _=>rfl)
theorem MF:eM prog W enc Rows.uptoBulk 26 (fun l:List (List Rt)=>.lst 1 (l.map nR)) (fun l=>(∀p∈l,(∀r∈p,r.wok)/\p.length<=281474976710656)/\l.length<=281474976710656) (fun l=>(l.map fw).sum):=s6 kq Tryz.underlying26 (n:=1) (by kernel_rfl) oz (by kernel_rfl) Lt (fun _=>rfl)
structure Cz where
  r:Rt
  bs:List Rt
  ps:List (List Rt)
def Cz.ok(z:Cz):Prop:=z.r.wok/\((∀r∈z.bs,r.wok)/\z.bs.length<=281474976710656)/\((∀p∈z.ps,(∀r∈p,r.wok)/\p.length<=281474976710656)/\z.ps.length<=281474976710656)
def Cz.m(z:Cz):Nat:=g8 z.r+(fw z.bs+(z.ps.map fw).sum)
theorem SL:eM prog W enc Rows.uptoBulk 28 (fun z:List Rt×List (List Rt)=>.agg [nR z.1,.lst 1 (z.2.map nR)]) (fun z=>((∀r∈z.1,r.wok)/\z.1.length<=281474976710656)/\((∀p∈z.2,(∀r∈p,r.wok)/\p.length<=281474976710656)/\z.2.length<=281474976710656)) (fun z=>fw z.1+(z.2.map fw).sum) :=
 (wC kq (n := 2) Tryz.underlying28 (by kernel_rfl) (.cons rfl (n := 1) (by kernel_rfl) Qf (fun _ => rfl) (.cons rfl (n := 1) (by kernel_rfl) MF (fun _ => rfl) (.nil _))) (fun _ => rfl)).map
  (fun z=>(z.1,z.2.1)) _ _ _ (fun z h=>⟨⟨h.1,h.2.1⟩,rfl,Z0 _⟩)
theorem NX:eM prog W enc Rows.uptoBulk 30 (fun z:Cz=>.agg (xZ z.r z.bs z.ps)) Cz.ok Cz.m :=
 (wC kq (n := 5) Tryz.underlying30 (by kernel_rfl) (.cons rfl (n := 3) (by kernel_rfl) vC (fun _ => rfl) (.cons rfl (n := 2) (by kernel_rfl) SL (fun _ => rfl) (.nil _))) (fun _ => rfl)).map
  (fun z=>⟨z.1,z.2.1.1,z.2.1.2⟩) _ _ _ (fun z h=>⟨⟨h.1,h.2.1.1,h.2.1.2⟩,rfl,by show g8 z.1+(fw z.2.1.1+(z.2.1.2.map fw).sum)<=g8 z.1+(fw z.2.1.1+(z.2.1.2.map fw).sum+_);omega⟩)
theorem HA:eM prog W enc Rows.uptoBulk 24 (fun r:Rt=>.agg [bl r.neg,ws r.num,ws r.den]) Rt.wok g8:=vC
end
theorem qK{r:Rt}(h:r.wok)(hm:g8 r<=1048576):Rw r:=by
 have ho:=KA h oz;refine⟨ho,?_⟩;have h1:Qb (32*1048576) r.q:=Rt.qb ho oz (by unfold g8 at hm;omega) (by unfold g8 at hm;omega);exact h1.mono oz
theorem LM{l:List Nat}{a:Nat}(h:a∈l):a<=l.sum:=by
 induction l with
 |nil=>cases h
 |cons b l ih =>
  rw[List.sum_cons];rcases aai.1 h with rfl |h
  ·omega
  ·have:=ih h;omega
set_option maxRecDepth 100000 in
theorem ME(os:Os)(started:os.Started)(H:Type)(enc:abd×abc->H)(F:Stop.Interp) :
  ReturnsInHanded {} Tryz.checked os 3 .any ((Rows.OpenSpec.upto Rows.wholeCamSpec).pre6 enc prog Tryz.f3 Rows.wholeCamUptoRow.domain false)
   (((Rows.OpenSpec.upto Rows.wholeCamSpec).at F).post enc prog Tryz.f3 false true false false):=by
 refine returnsInHanded_of_cond_sized (C := Tryz.checked) (s := Rows.OpenSpec.upto Rows.wholeCamSpec) (k := Rows.uptoSmall) rfl own started (by kernel_rfl) func3
  (OpenSpec.witness (enc := enc) (C := Tryz.checked) (s := Rows.OpenSpec.upto Rows.wholeCamSpec) (k := Rows.uptoSmall) rfl false ⟨#[], #[.agg #[.bool false, .slice none 0 0, .slice none 0 0, .slice none 0 0, .slice none 0 0], .agg #[.bool false, .slice none 0 0, .slice none 0 0], .agg #[.bool false, .slice none 0 0, .slice none 0 0]], []⟩ 8 (by kernel_rfl) (by kernel_rfl) (by kernel_rfl)
   (x:=([.agg [.agg [.lit (.bool false),.nil,.nil],.agg [.nil,.nil]],.agg [.lit (.bool false),.nil,.nil],.agg [.lit (.bool false),.nil,.nil]],[],[]))
   (by kernel_rfl) rfl (by kernel_rfl)) ?_
 intro W base args ds gs before Ji hW Xp hk Jj _;have eN:∀(j:Nat) t v,Tryz.f3.params[j]?=some t->args[j]?=some v->Value.okWide prog W .any base t v:=Ji;have ch:(DataW.weightsEach prog (Tryz.f3.params.toList++Rows.wholeCamSpec.plain.varTypes prog) (ds++gs)).all (· <= reachBytes)=true:=Jj;have hW':DataW.Whole enc prog Tryz.f3.params.toList Rows.wholeCamSpec.vars false W args.toList ds gs before:=hW;obtain⟨p,q,Jk,hV,rfl,Xq,b9⟩:=hW;have hA:DataW.TrodAll enc prog W 0 (fun _=>true) true Tryz.f3.params.toList args.toList ds p:=Jk;rw[Tryz.params3]at hA eN ch;obtain⟨v0,v1,v2,d0,d1,d2,p0,p1,p2,rfl,rfl,rfl,h0,h1,h2⟩:=trodAll_three hA;obtain⟨rfl,rfl⟩:=trodVars_none hV;clear Jk Ji Jj;have hlt:∀x∈p0++p1++p2,x.block<W.heap.size:=fun x hx=>hW'.lt x (by simpa using hx)
 have AD:∀n∈d0.weights prog 30,n<=reachBytes:=fun n hn=>by
  have:=Z6.1 ch n (DataW.weights_mem_each (j:=0) rfl rfl n hn);simpa using this
 have iV:∀n∈d1.weights prog 24,n<=reachBytes:=fun n hn=>by
  have:=Z6.1 ch n (DataW.weights_mem_each (j:=1) rfl rfl n hn);simpa using this
 have iv:∀n∈d2.weights prog 24,n<=reachBytes:=fun n hn=>by
  have:=Z6.1 ch n (DataW.weights_mem_each (j:=2) rfl rfl n hn);simpa using this
 have dR:Rows.uptoBulk d0<=1048576/\Rows.uptoBulk d1<=1048576/\Rows.uptoBulk d2<=1048576:=by
  have h9:Rows.uptoBulkAll [d0,d1,d2]<=1048576:=aa4 hk;simp only[Rows.uptoBulkAll]at h9;omega
 obtain⟨x0,q0,r0,m0⟩:=xT (.inl ⟨_,Tryz.underlying30⟩) NX (eN 0 30 v0 rfl rfl) h0 AD;obtain⟨x1,q1,r1,m1⟩:=xT (.inl ⟨_,Tryz.underlying24⟩) HA (eN 1 24 v1 rfl rfl) h1 iV;obtain⟨x2,q2,r2,m2⟩:=xT (.inl ⟨_,Tryz.underlying24⟩) HA (eN 2 24 v2 rfl rfl) h2 iv;have m0:=aaj m0 dR.1;unfold Cz.m at m0;obtain⟨c1,⟨c2,c3⟩,c4,c5⟩:=q0
 have hc := gh.calls (W := W) (vs := #[v0, v1, v2]) (RP SA x0.r (qK c1 oz) x0.bs c3 (fun r hr => qK (c2 r hr) (by have := CG hr; omega)) x0.ps c5 (fun p hp => ⟨(c4 p hp).2, fun r hr => qK ((c4 p hp).1 r hr) (by have := CG hr; have := LM (List.mem_map_of_mem (f := fw) hp); omega)⟩)
  x1 (qK q1 (aaj m1 dR.2.1)) x2 (qK q2 (aaj m2 dR.2.2))) rfl (fun j v x hv hx=>by
  match j,hv,hx with
  |0,hv,hx=>cases hv;cases hx;exact r0
  |1,hv,hx=>cases hv;cases hx;exact r1
  |2,hv,hx=>cases hv;cases hx;exact r2)
 refine hc.mono fun e W' ⟨he,hb⟩=>?_
 subst he
 have WT:Rows.wholeCamSpec.post enc prog Tryz.f3 false true false false W #[v0,v1,v2] (.bool true) W':=by
  refine JM hW' rfl rfl (fun _ _ _=>trodAll_mk1 (shut_bool Tryz.underlying4 _)) (fun sp WU=>?_) rfl hb (ok_one (by kernel_rfl) rfl (okWide_bool_mk Tryz.underlying4 _));rw[Tryz.params3];have hs:∀x∈p0++p1++p2,sp x.block=true:=fun x hx=>WU x (by simpa using hx)
  have g0:=x7 (sp':=sp) (by kernel_rfl) (aa4 (by kernel_rfl)) h0 hb (fun x hx=>hlt x (by simp[hx])) (fun x hx=>hs x (by simp[hx]));have g1:=x7 (sp':=sp) (by kernel_rfl) (aa4 (by kernel_rfl)) h1 hb (fun x hx=>hlt x (by simp[hx])) (fun x hx=>hs x (by simp[hx]));have g2:=x7 (sp':=sp) (by kernel_rfl) (aa4 (by kernel_rfl)) h2 hb (fun x hx=>hlt x (by simp[hx])) (fun x hx=>hs x (by simp[hx]));have g:=trodAll_mk3 g0 g1 g2;rw[show p0++p1++p2++[]=p0++(p1++p2)from by simp];exact g
 exact⟨_,rfl,WT⟩
set_option maxRecDepth 100000 in
theorem K0:prog.closure 3=[3,4,18,63,84,145,30,62,61,81,27,112,82,29,83,80,146,147,162,148,149,207,150,151,113,152,153,19,64,55,49,7,28,50,103,20,65,114,172,68,121,183,247,248,307,122,123,184,185,13,124,217,265,315,342,317,345,346,344,266,316,343,319,318,267,173,218,69,17,115,67,120,33,87,182,244,245,246,66,116,174,175,118,117,176,125,186,187,249,309,340,341,337,308,270,94,219,268,320,220,93,163,269,321,327,350,322,347,323,209,210,324,348,349,351,325,326,328,329,221,250,177,194,259,39,313,56,88,195,222,271,272,254,302,224,275,304,336,338,330,331,310,335,303,311,255,223,273,280,189,251,256,252,238,242,306,339,274,312,239,276,225,178,226,277,228,227,278,332,279,230,229,281,293,294,295,258,282,333,305,296,290,286,297,287,283,284,285,334,288,289,291,237,300,301,231,243,179,232,292,233,180,234,298,241,235,299,236,240,119,181,21,70,127,128,188,190,253,129,126,131,132,191,192,193,257,130,134,135,133,5,22,71,73,139,203,138,197,198,260,201,199,200,202,137,74,79,72,136,143,140,196,206,76,8,23,75,6,25,78,144,205,262,24,77,142,141,204,261,26,9,31,42,85,86,32,34,10,35,89,90,37,36,91,38,92,154,155,208,156,157,211,212,263,158,159,160,161,40,41,43,95,97,96,164,11,44,47,45,98,99,165,213,214,264,314,100,101,102,12,46,48,14,52,51,104,15,53,105,166,106,167,54,107,168,215,57,108,169,58,59,110,109,170,216,171,16,60,111]:=by kernel_rfl
theorem R7:joinedFacts prog 3 Tryz.f3 (Rows.OpenSpec.upto Rows.wholeCamSpec).bare Rows.wholeCamUptoRow=true:=by
 unfold joinedFacts Program.recurses Program.inPlace Program.unfollowed Program.varsNamed;rw[K0,Ej,QI,Qt,Mw,US,Lx]
 kernel_rfl
theorem wholeCam_holds:Rows.WholeCamUptoSaid :=
 OpenClaim.holds_of_cond 3 Tryz.f3 rfl rfl rfl rfl rfl rfl rfl ⟨rfl, rfl, rfl, rfl, rfl⟩ rfl rfl rfl rfl rfl (by kernel_rfl) func3 R7
  (aa4 (by kernel_rfl)) (by unfold Func.isWrapper;first |(rw[aa2 (by decide +kernel)];kernel_rfl) |(rw[aa1 (by decide +kernel)];exact⟨rfl,rfl⟩))
  (fun os started H enc _ F=>ME os started H enc F)
end Go.Lw
namespace Go.Proofs.YtikogaemdeibaaaGreat
theorem wholeCam_proved:Rows.WholeCamUptoSaid:=Go.Lw.wholeCam_holds
end Go.Proofs.YtikogaemdeibaaaGreat
