/- The table of functions of this seat. -/
import Derived.Test.YteafbgcimcpfiaaGreatAbsPrimL
import Derived.Test.YteafbgcimcpfiaaGreatProg
set_option linter.all false
open Decidable renaming decide→Zz
open Option renaming none→Zy,some→Zx
open Bool renaming false→Zw,true→Zn
open Kerb renaming within→Zv,dL→Zu,get→Zq,dr→Zj,dS→Zk,cC→Zp,bu→Zd,bJ→Zf,kn→Zg,aN→Zb
namespace Go.Proofs.YteafbgcimcpfiaaGreat
open Go Go.Abs
noncomputable section
abbrev Sp:=Abs.Spec
def dF:Option TI:=Zx ⟨1,8,.other,[.vJ],[.other],[]⟩
def WC:Option TI:=Zx ⟨1,8,.int .i64,[.int .i64 0],[.int .i64],[.int .i64]⟩
def WD:Option TI:=Zx ⟨1,1,.u8,[.u8 0],[.u8],[.u8]⟩
def VI:Option TI:=Zx ⟨1,8,.int .u64,[.int .u64 0],[.int .u64],[.int .u64]⟩
def ti4:Option TI:=Zx ⟨1,8,.struct [(0,17)],[.lN],[.ptr],[]⟩
def ZM:Option TI:=Zx ⟨1,4,.int .i32,[.int .i32 0],[.int .i32],[.int .i32]⟩
def ti6:Option TI:=Zx ⟨7,8,.struct [(0,5),(1,5),(2,5),(3,5),(4,5),(5,4),(6,22)],[.u8 0,.u8 0,.u8 0,.u8 0,.u8 0,.bool Zw,.int .u16 0],[.u8,.u8,.u8,.u8,.u8,.bool,.int .u16],[.u8,.u8,.u8,.u8,.u8,.bool,.int .u16]⟩
def ti7:Option TI:=Zx ⟨3,40,.struct [(0,3),(1,27),(2,25)],[.int .i64 0,.int .u64 0,.cJ],[.int .i64,.int .u64,.ff],[]⟩
def ti8:Option TI:=Zx ⟨2,48,.struct [(0,39),(1,32)],[.cJ,.cJ],[.sl 1,.sl 1],[]⟩
def ti9:Option TI:=Zx ⟨3,48,.struct [(0,9),(1,9),(2,9)],[.str [],.str [],.str []],[.str,.str,.str],[.str,.str,.str]⟩
def U_:Option TI:=Zx ⟨10,120,.struct [(0,4),(1,53),(4,3),(5,27),(6,3),(7,3),(8,9),(9,9)],[.bool Zw,.str [],.str [],.str [],.int .i64 0,.int .u64 0,.int .i64 0,.int .i64 0,.str [],.str []],[.bool,.str,.str,.str,.int .i64,.int .u64,.int .i64,.int .i64,.str,.str],[.bool,.str,.str,.str,.int .i64,.int .u64,.int .i64,.int .i64,.str,.str]⟩
def U':Option TI:=Zx ⟨6,80,.struct [(0,4),(1,4),(2,3),(3,9),(4,25),(5,25)],[.bool Zw,.bool Zw,.int .i64 0,.str [],.cJ,.cJ],[.bool,.bool,.int .i64,.str,.ff,.ff],[]⟩
def Va:Option TI:=Zx ⟨8,104,.struct [(0,4),(1,53),(4,3),(5,3),(6,3),(7,25)],[.bool Zw,.str [],.str [],.str [],.int .i64 0,.int .i64 0,.int .i64 0,.cJ],[.bool,.str,.str,.str,.int .i64,.int .i64,.int .i64,.ff],[]⟩
def Vc:Option TI:=Zx ⟨10,128,.struct [(0,61),(6,3),(7,3),(8,9),(9,9)],[.bool Zw,.bool Zw,.int .i64 0,.str [],.cJ,.cJ,.int .i64 0,.int .i64 0,.str [],.str []],[.bool,.bool,.int .i64,.str,.ff,.ff,.int .i64,.int .i64,.str,.str],[]⟩
def Ve:Option TI:=Zx ⟨10,160,.struct [(0,3),(1,53),(4,3),(5,9),(6,25),(7,9),(8,9),(9,25)],[.int .i64 0,.str [],.str [],.str [],.int .i64 0,.str [],.cJ,.str [],.str [],.cJ],[.int .i64,.str,.str,.str,.int .i64,.str,.ff,.str,.str,.ff],[]⟩
def Vi:Option TI:=Zx ⟨3,40,.struct [(0,3),(1,35),(2,25)],[.int .i64 0,.int .i64 0,.cJ],[.int .i64,.int .i64,.ff],[]⟩
def Vl:Option TI:=Zx ⟨5,80,.struct [(0,3),(1,53),(4,25)],[.int .i64 0,.str [],.str [],.str [],.cJ],[.int .i64,.str,.str,.str,.ff],[]⟩
def Vo:Option TI:=Zx ⟨4,48,.struct [(0,25),(1,3),(2,3),(3,3)],[.cJ,.int .i64 0,.int .i64 0,.int .i64 0],[.ff,.int .i64,.int .i64,.int .i64],[]⟩
def Vr:Option TI:=Zx ⟨6,72,.struct [(0,53),(3,3),(4,3),(5,3)],[.str [],.str [],.str [],.int .i64 0,.int .i64 0,.int .i64 0],[.str,.str,.str,.int .i64,.int .i64,.int .i64],[.str,.str,.str,.int .i64,.int .i64,.int .i64]⟩
def Vs:Option TI:=Zx ⟨8,104,.struct [(0,27),(1,53),(4,3),(5,3),(6,25),(7,3)],[.int .u64 0,.str [],.str [],.str [],.int .i64 0,.int .i64 0,.cJ,.int .i64 0],[.int .u64,.str,.str,.str,.int .i64,.int .i64,.ff,.int .i64],[]⟩
def Vt:Option TI:=Zx ⟨3,24,.struct [(0,3),(1,3),(2,3)],[.int .i64 0,.int .i64 0,.int .i64 0],[.int .i64,.int .i64,.int .i64],[.int .i64,.int .i64,.int .i64]⟩
def VA:Option TI:=Zx ⟨5,48,.struct [(0,9),(1,3),(2,3),(3,3),(4,27)],[.str [],.int .i64 0,.int .i64 0,.int .i64 0,.int .u64 0],[.str,.int .i64,.int .i64,.int .i64,.int .u64],[.str,.int .i64,.int .i64,.int .i64,.int .u64]⟩
def VB:Option TI:=Zx ⟨10,128,.struct [(0,9),(1,3),(2,27),(3,3),(4,3),(5,3),(6,53),(9,25)],[.str [],.int .i64 0,.int .u64 0,.int .i64 0,.int .i64 0,.int .i64 0,.str [],.str [],.str [],.cJ],[.str,.int .i64,.int .u64,.int .i64,.int .i64,.int .i64,.str,.str,.str,.ff],[]⟩
def VC:Option TI:=Zx ⟨10,128,.struct [(0,53),(3,53),(6,27),(7,3),(8,3),(9,3)],[.str [],.str [],.str [],.str [],.str [],.str [],.int .u64 0,.int .i64 0,.int .i64 0,.int .i64 0],[.str,.str,.str,.str,.str,.str,.int .u64,.int .i64,.int .i64,.int .i64],[.str,.str,.str,.str,.str,.str,.int .u64,.int .i64,.int .i64,.int .i64]⟩
def VD:Option TI:=Zx ⟨7,96,.struct [(0,27),(1,53),(4,3),(5,3),(6,25)],[.int .u64 0,.str [],.str [],.str [],.int .i64 0,.int .i64 0,.cJ],[.int .u64,.str,.str,.str,.int .i64,.int .i64,.ff],[]⟩
def VE:Option TI:=Zx ⟨2,48,.struct [(0,46)],[.cJ,.cJ],[.sl 1,.sl 1],[]⟩
def VF:Option TI:=Zx ⟨3,56,.struct [(0,153),(2,154)],[.cJ,.cJ,.Dh],[.sl 1,.sl 1,.other],[]⟩
def VG:Option TI:=Zx ⟨2,32,.struct [(0,25),(1,3)],[.cJ,.int .i64 0],[.ff,.int .i64],[]⟩
def VH:Option TI:=Zx ⟨4,40,.struct [(0,25),(1,3),(2,4),(3,4)],[.cJ,.int .i64 0,.bool Zw,.bool Zw],[.ff,.int .i64,.bool,.bool],[]⟩
def PV:Option TI:=Zx ⟨3,40,.struct [(0,25),(1,3),(2,4)],[.cJ,.int .i64 0,.bool Zw],[.ff,.int .i64,.bool],[]⟩
def SB:List (Option TI):=[
 Zy,dF,WC,WC,Zx ⟨1,1,.bool,[.bool Zw],[.bool],[.bool]⟩,WD,WD,Zx ⟨4,24,.struct [(0,2),(1,3),(2,4),(3,6)],[.int .i64 0,.int .i64 0,.bool Zw,.u8 0],[.int .i64,.int .i64,.bool,.u8],[.int .i64,.int .i64,.bool,.u8]⟩,Zy,Zx ⟨1,16,.str,[.str []],[.str],[.str]⟩,Zy,Zy,VI,Zy,Zy,Zx ⟨1,8,.ptr 285,[.lN],[.ptr],[]⟩,Zx ⟨1,8,.ptr 288,[.lN],[.ptr],[]⟩,Zx ⟨1,8,.ptr 296,[.lN],[.ptr],[]⟩,ti4,ti4,Zy,ZM,Zx ⟨1,2,.int .u16,[.int .u16 0],[.int .u16],[.int .u16]⟩,ti6,ti6,Zx ⟨1,24,.slice 5 Zn,[.cJ],[.ff],[]⟩,VI,VI,ti7,ti7,dF,dF,Zx ⟨1,24,.slice 25 Zw,[.cJ],[.sl 1],[]⟩,dF,dF,WC,Zy,dF,Zx ⟨1,24,.slice 29 Zw,[.cJ],[.sl 3],[]⟩,Zx ⟨1,24,.slice 27 Zw,[.cJ],[.sl 1],[]⟩,Zy,dF,dF,dF,Zx ⟨1,24,.slice 24 Zw,[.cJ],[.sl 7],[]⟩,ti8,ti8,dF,dF,dF,dF,dF,ti9,ti9,U_,U_,dF,Zy,dF,dF,U',U',dF,dF,dF,dF,dF,dF,dF,dF,dF,Va,Va,dF,Vc,Vc,dF,dF,Ve,Ve,dF,Vi,Vi,dF,Vl,Vl,dF,Vo,Vo,dF,dF,Zy,dF,Zy,dF,Zy,dF,Zy,dF,Zy,dF,Zy,dF,Zy,dF,Zy,dF,Zy,dF,VI,dF,dF,Vr,Vr,dF,dF,Vs,Vs,dF,Vt,Vt,dF,dF,VA,VA,dF,VB,VB,dF,VC,VC,dF,VD,VD,dF,Zy,dF,dF,Zy,dF,Zy,dF,Zy,dF,Zy,dF,Zy,dF,dF,Zx ⟨1,8,.ptr 156,[.lN],[.ptr],[]⟩,dF,dF,VE,VE,Zx ⟨1,8,.map 3 4,[.Dh],[.other],[]⟩,VF,VF,Zx ⟨1,8,.ptr 159,[.lN],[.ptr],[]⟩,VG,VG,dF,dF,dF,dF,dF,dF,dF,dF,dF,Zy,dF,dF,Zx ⟨1,8,.ptr 153,[.lN],[.ptr],[]⟩,dF,dF,dF,Zx ⟨1,24,.slice 9 Zw,[.cJ],[.sl 1],[]⟩,dF,dF,dF,dF,dF,Zy,dF,dF,Zy,dF,Zx ⟨1,8,.ptr 189,[.lN],[.ptr],[]⟩,VH,VH,dF,dF,dF,Zy,dF,Zy,dF,dF,Zx ⟨1,24,.slice 53 Zw,[.cJ],[.sl 3],[]⟩,dF,dF,dF,dF,dF,dF,Zy,dF,Zy,dF,dF,Zy,dF,Zy,dF,dF,PV,PV,dF,PV,PV,dF,dF,dF,dF,Zy,dF,dF,dF,dF,dF,Zy,dF,Zy,dF,Zx ⟨1,24,.slice 3 Zw,[.cJ],[.sl 1],[]⟩,dF,dF,dF,Zx ⟨1,8,.ptr 9,[.lN],[.ptr],[]⟩,Zx ⟨1,24,.slice 238 Zw,[.cJ],[.sl 1],[]⟩,dF,dF,dF,Zx ⟨1,8,.ptr 216,[.lN],[.ptr],[]⟩,dF,dF,dF,dF,Zx ⟨1,8,.ptr 219,[.lN],[.ptr],[]⟩,dF,dF,dF,dF,dF,Zy,dF,dF,Zx ⟨1,24,.slice 39 Zw,[.cJ],[.sl 1],[]⟩,dF,dF,dF,Zx ⟨4,4,.cF 4 5 Zn,[.u8 0,.u8 0,.u8 0,.u8 0],[.u8,.u8,.u8,.u8],[]⟩,dF,WC,Zy,dF,dF,dF,dF,Zy,dF,dF,Zx ⟨1,4,.int .u32,[.int .u32 0],[.int .u32],[.int .u32]⟩,dF,dF,VI,dF,dF,dF,Zx ⟨1,8,.ptr 3,[.lN],[.ptr],[]⟩,dF,Zx ⟨1,8,.ptr 275,[.lN],[.ptr],[]⟩,Zy,dF,Zx ⟨4,40,.struct [(0,17),(1,17),(2,17),(3,9)],[.lN,.lN,.lN,.str []],[.ptr,.ptr,.ptr,.str],[]⟩,Zy,Zx ⟨0,0,.cF 0 16 Zw,[],[],[]⟩,Zy,Zy,WD,WD,dF,Zx ⟨1,8,.ptr 5,[.lN],[.ptr],[]⟩,ZM,ZM,Zy,Zx ⟨11,48,.struct [(0,12),(1,12),(2,272),(3,289),(4,5),(5,5),(6,290),(7,291),(8,292),(9,293),(10,294)],[.int .u64 0,.int .u64 0,.int .u32 0,.u8 0,.u8 0,.u8 0,.u8 0,.vJ,.lN,.int .i32 0,.int .i32 0],[.int .u64,.int .u64,.int .u32,.u8,.u8,.u8,.u8,.other,.ptr,.int .i32,.int .i32],[]⟩,Zy]
def Uw:List (Nat×Nat×List iy):=[(7,7,[.val 0 44,.cells 5 [.u8,.u8,.u8,.u8,.u8,.bool,.int .u16],.ptr 5 5 0,.val 6 4,.cells 7 [.sl 1,.sl 1],.ptr 7 7 0,.val 8 3]),
 (7,12,[.cells 5 [.u8,.u8,.u8,.u8,.u8,.bool,.int .u16],.ptr 5 5 0,.val 6 4,.cells 7 [.sl 1,.sl 1],.ptr 7 7 0,.val 9 3]),
 (7,2000017,[.val 6 4]),
 (8,8000026,[.cells 0 [.bool],.bA 2 2 [8],.bA 8 1 [7],.bA 8 1 [7,7],.bA 8 1 [7,7,7]]),
 (9,3000006,[.cells 1 [.u8,.u8,.u8,.u8,.u8,.bool,.int .u16],.ptr 1 1 0,.val 2 25,.val 5 25]),
 (14,2000016,[.cells 1 [.u8,.u8,.u8,.u8,.u8,.bool,.int .u16],.ptr 1 1 0,.cells 4 [.str,.str,.str],.ptr 4 4 0,.cells 5 [.str,.str,.str],.ptr 5 5 0,.val 6 3,.val 23 3,.val 86 4,.val 2 25]),
 (14,3000007,[.cells 1 [.u8,.u8,.u8,.u8,.u8,.bool,.int .u16],.ptr 1 1 0,.val 2 25,.val 3 25,.val 6 3]),
 (14,3000030,[.cells 1 [.u8,.u8,.u8,.u8,.u8,.bool,.int .u16],.ptr 1 1 0,.val 2 25,.val 3 25,.val 6 3]),
 (17,4,[.val 0 39,.val 1 39,.val 4 4,.val 5 3]),
 (18,3,[.val 0 44,.val 1 25,.val 2 3,.cells 6 [.sl 1,.sl 1],.ptr 6 6 0,.cells 7 [.sl 1,.sl 1],.ptr 7 7 0,.val 8 3]),
 (18,7,[.val 1 25,.val 2 3,.cells 6 [.sl 1,.sl 1],.ptr 6 6 0,.cells 7 [.sl 1,.sl 1],.ptr 7 7 0,.val 9 3]),
 (19,3,[.cells 4 [.sl 1,.sl 1],.ptr 4 4 0,.jz 1000015 [.own 4001 27 1 Zw,.own 4002 25 1 Zw,.qh 4003 Zw .i64],.ptr 5 1000015 0,.val 11 32,.val 12 3,.val 13 3]),
 (27,3000003,[.cells 4 [.sl 1,.sl 1],.ptr 4 4 0,.jz 800015 [.own 4021 27 1 Zw,.own 4022 25 1 Zw,.qh 4023 Zw .i64],.ptr 5 800015 0]),
 (41,2000001,[.cells 1 [.int .i64,.str,.str,.str,.int .i64,.str,.ff,.str,.str,.ff],.ptr 1 1 0,.val 13 4,.val 3 35]),
 (41,2000003,[.cells 1 [.int .i64,.str,.str,.str,.int .i64,.str,.ff,.str,.str,.ff],.ptr 1 1 0,.val 46 4,.val 3 35]),
 (41,2000005,[.cells 1 [.int .i64,.str,.str,.str,.int .i64,.str,.ff,.str,.str,.ff],.ptr 1 1 0,.val 56 4,.val 3 35]),
 (41,2000007,[.cells 1 [.int .i64,.str,.str,.str,.int .i64,.str,.ff,.str,.str,.ff],.ptr 1 1 0,.val 72 4,.val 3 35]),
 (41,2000009,[.cells 1 [.int .i64,.str,.str,.str,.int .i64,.str,.ff,.str,.str,.ff],.ptr 1 1 0,.val 113 4,.val 3 35]),
 (46,1000038,[.val 0 3]),
 (46,1000042,[.val 0 3]),
 (47,3,[.cU 3 25 1 Zw,.val 6 32,.val 7 3,.val 8 3]),
 (71,1000023,[.val 0 3]),
 (73,3,[.cU 3 27 1 Zw,.val 6 39,.val 7 3,.val 8 3]),
 (87,8000172,[.cells 0 [.bool],.bA 12 2 [19]]),
 (88,1,[.val 2 30]),
 (88,5000001,[.jz 9000000 [.own 4001 27 1 Zw,.own 4002 25 1 Zw,.qh 4003 Zw .i64]]),
 (88,6000001,[.bA 6 1 [10],.bA 6 1 [24],.bA 6 1 [24,24],.bA 6 1 [24,5],.bA 6 1 [24,36],.bA 6 1 [24,36,10],.bA 6 1 [24,36,10,2],.bA 6 1 [24,36,10,8],.bA 6 1 [24,36,10,8,7],.bA 6 1 [24,36,10,8,7,7],.bA 6 1 [24,36,10,8,7,7,7],.bA 6 1 [24,45],.bA 6 1 [24,53],.bA 6 1 [24,53,7],.bA 6 1 [24,53,7,7],.bA 6 1 [24,53,7,16],.bA 6 1 [24,53,7,16,10],.bA 6 1 [24,53,7,16,10,2],.bA 6 1 [24,53,7,16,10,8],.bA 6 1 [24,53,7,16,10,8,7],.bA 6 1 [24,53,7,16,10,8,7,7],.bA 6 1 [24,53,7,16,10,8,7,7,7],.bA 6 1 [24,61],.bA 6 1 [24,61,7],.bA 6 1 [24,61,7,7],.bA 6 1 [24,61,7,16],.bA 6 1 [24,61,7,16,12],.bA 6 1 [24,61,7,16,19],.bA 6 1 [24,65],.bA 6 1 [24,74],.bA 6 1 [24,74,6],.bA 6 1 [24,74,6,10],.bA 6 1 [24,74,6,10,2],.bA 6 1 [24,74,6,10,8],.bA 6 1 [24,74,6,10,8,7],.bA 6 1 [24,74,6,10,8,7,7],.bA 6 1 [24,74,6,10,8,7,7,7],.bA 6 1 [24,74,14],.bA 6 1 [24,77],.bA 6 1 [24,86],.bA 6 1 [24,86,6],.bA 6 1 [24,86,6,12],.bA 6 1 [24,86,6,19],.bA 6 1 [24,86,14],.bA 6 1 [24,86,15],.bA 6 1 [24,4001],.bA 6 1 [24,4002],.bA 6 1 [24,4003],.bA 6 1 [24,4011],.bA 6 1 [24,4012],.bA 6 1 [24,4013],.bA 6 1 [4001],.bA 6 1 [4002],.bA 6 1 [4003]]),
 (90,3,[.val 0 3,.cells 2 [.str,.str,.str],.ptr 2 2 0,.val 3 9,.val 4 3]),
 (90,7,[.val 0 3,.cells 2 [.str,.str,.str],.ptr 2 2 0,.val 3 9,.val 5 3]),
 (98,8000178,[.cells 0 [.bool],.bA 10 2 [],.bA 10 1 [2],.bA 10 1 [8],.bA 10 1 [8,7],.bA 10 1 [8,7,7],.bA 10 1 [8,7,7,7]]),
 (102,8000172,[.cells 0 [.bool],.bA 12 2 [19]]),
 (102,8000178,[.cells 0 [.bool],.bA 10 2 [],.bA 10 1 [2],.bA 10 1 [8],.bA 10 1 [8,7],.bA 10 1 [8,7,7],.bA 10 1 [8,7,7,7]]),
 (102,8000183,[.cells 0 [.bool],.bA 7 2 [],.bA 7 1 [7],.bA 7 1 [16],.bA 7 1 [16,10],.bA 7 1 [16,10,2],.bA 7 1 [16,10,8],.bA 7 1 [16,10,8,7],.bA 7 1 [16,10,8,7,7],.bA 7 1 [16,10,8,7,7,7]]),
 (138,3,[.val 0 27,.dX 3 5 Zw,.val 4 3]),
 (139,2,[.dX 3 5 Zw]),
 (146,4,[.val 0 25,.val 1 3,.cells 4 [.str,.str,.str],.ptr 4 4 0,.val 5 3,.val 6 35,.cells 7 [.str,.str,.str],.ptr 7 7 0,.bA 14 7 [0,1,2],.val 15 3,.val 16 3]),
 (149,5,[.val 4 27,.val 10 25,.val 11 3,.val 12 3]),
 (172,2,[.val 1 25,.val 4 4,.val 11 32,.val 12 3,.val 13 3]),
 (172,5000002,[.val 4 4,.val 13 3]),
 (173,2,[.cells 0 [.sl 1,.sl 1,.other],.ptr 0 0 0,.val 2 4,.val 10 3,.val 11 3]),
 (173,5000002,[.val 2 4,.val 11 3,.jz 9000000 [.own 4001 27 1 Zw,.own 4002 25 1 Zw,.qh 4003 Zw .i64]]),
 (173,6000002,[.bA 24 1 [24],.bA 24 1 [5],.bA 24 1 [36],.bA 24 1 [36,10],.bA 24 1 [36,10,2],.bA 24 1 [36,10,8],.bA 24 1 [36,10,8,7],.bA 24 1 [36,10,8,7,7],.bA 24 1 [36,10,8,7,7,7],.bA 24 1 [45],.bA 24 1 [53],.bA 24 1 [53,7],.bA 24 1 [53,7,7],.bA 24 1 [53,7,16],.bA 24 1 [53,7,16,10],.bA 24 1 [53,7,16,10,2],.bA 24 1 [53,7,16,10,8],.bA 24 1 [53,7,16,10,8,7],.bA 24 1 [53,7,16,10,8,7,7],.bA 24 1 [53,7,16,10,8,7,7,7],.bA 24 1 [61],.bA 24 1 [61,7],.bA 24 1 [61,7,7],.bA 24 1 [61,7,16],.bA 24 1 [61,7,16,12],.bA 24 1 [61,7,16,19],.bA 24 1 [65],.bA 24 1 [74],.bA 24 1 [74,6],.bA 24 1 [74,6,10],.bA 24 1 [74,6,10,2],.bA 24 1 [74,6,10,8],.bA 24 1 [74,6,10,8,7],.bA 24 1 [74,6,10,8,7,7],.bA 24 1 [74,6,10,8,7,7,7],.bA 24 1 [74,14],.bA 24 1 [77],.bA 24 1 [86],.bA 24 1 [86,6],.bA 24 1 [86,6,12],.bA 24 1 [86,6,19],.bA 24 1 [86,14],.bA 24 1 [86,15],.bA 24 1 [4001],.bA 24 1 [4002],.bA 24 1 [4003],.bA 24 1 [4011],.bA 24 1 [4012],.bA 24 1 [4013]]),
 (174,2,[.val 0 9,.val 1 9,.val 4 4,.val 5 3]),
 (174,7,[.val 0 9,.val 1 9,.val 4 4,.val 5 3,.val 6 3]),
 (175,3,[.val 1 3,.val 2 3,.val 3 4,.dX 9 5 Zw,.val 10 3]),
 (178,8000026,[.cells 0 [.bool],.bA 2 2 [8],.bA 8 1 [7],.bA 8 1 [7,7],.bA 8 1 [7,7,7]]),
 (181,2,[.val 0 32,.val 1 174,.val 4 3,.val 7 3,.val 8 3]),
 (181,5000002,[.val 4 3,.val 8 3,.bA 1 (9500000+102) [1,1]]),
 (181,6000002,[.bA 16 1 [12],.bA 16 1 [19]]),
 (181,7000102,[.val 0 172]),
 (181,8000172,[.cells 0 [.bool],.bA 12 2 [19]]),
 (208,6,[.val 0 25,.val 1 3,.val 2 3,.val 3 4,.val 12 3,.val 22 3,.val 23 3]),
 (217,3,[.val 0 32,.val 3 3,.val 9 32,.val 10 3,.val 11 3]),
 (217,11,[.dX 6 5 Zw,.val 25 32,.val 26 3,.val 27 3]),
 (218,3,[.val 0 27,.dX 3 5 Zw,.val 7 3,.val 8 3]),
 (231,9,[.cells 0 [.sl 1,.sl 1,.other],.ptr 0 0 0,.val 9 32,.val 64 39,.val 65 3,.val 66 3]),
 (231,14,[.cells 0 [.sl 1,.sl 1,.other],.ptr 0 0 0,.val 76 32,.val 77 3,.val 78 3]),
 (231,5000009,[.val 66 3,.jz 9000000 [.own 4001 27 1 Zw,.own 4002 25 1 Zw,.qh 4003 Zw .i64]]),
 (231,5000014,[.val 78 3,.jz 9000000 [.own 4011 27 1 Zw,.own 4012 25 1 Zw,.qh 4013 Zw .i64]]),
 (231,6000009,[.bA 36 1 [10],.bA 36 1 [10,2],.bA 36 1 [10,8],.bA 36 1 [10,8,7],.bA 36 1 [10,8,7,7],.bA 36 1 [10,8,7,7,7],.bA 53 1 [7],.bA 53 1 [7,7],.bA 53 1 [7,16],.bA 53 1 [7,16,10],.bA 53 1 [7,16,10,2],.bA 53 1 [7,16,10,8],.bA 53 1 [7,16,10,8,7],.bA 53 1 [7,16,10,8,7,7],.bA 53 1 [7,16,10,8,7,7,7],.bA 61 1 [7],.bA 61 1 [7,7],.bA 61 1 [7,16],.bA 61 1 [7,16,12],.bA 61 1 [7,16,19],.bA 74 1 [6],.bA 74 1 [6,10],.bA 74 1 [6,10,2],.bA 74 1 [6,10,8],.bA 74 1 [6,10,8,7],.bA 74 1 [6,10,8,7,7],.bA 74 1 [6,10,8,7,7,7],.bA 74 1 [14],.bA 86 1 [6],.bA 86 1 [6,12],.bA 86 1 [6,19],.bA 86 1 [14],.bA 86 1 [15]]),
 (231,6000014,[.bA 36 1 [10],.bA 36 1 [10,2],.bA 36 1 [10,8],.bA 36 1 [10,8,7],.bA 36 1 [10,8,7,7],.bA 36 1 [10,8,7,7,7],.bA 53 1 [7],.bA 53 1 [7,7],.bA 53 1 [7,16],.bA 53 1 [7,16,10],.bA 53 1 [7,16,10,2],.bA 53 1 [7,16,10,8],.bA 53 1 [7,16,10,8,7],.bA 53 1 [7,16,10,8,7,7],.bA 53 1 [7,16,10,8,7,7,7],.bA 61 1 [7],.bA 61 1 [7,7],.bA 61 1 [7,16],.bA 61 1 [7,16,12],.bA 61 1 [7,16,19],.bA 74 1 [6],.bA 74 1 [6,10],.bA 74 1 [6,10,2],.bA 74 1 [6,10,8],.bA 74 1 [6,10,8,7],.bA 74 1 [6,10,8,7,7],.bA 74 1 [6,10,8,7,7,7],.bA 74 1 [14],.bA 86 1 [6],.bA 86 1 [6,12],.bA 86 1 [6,19],.bA 86 1 [14],.bA 86 1 [15]]),
 (231,8000101,[.cells 0 [.bool],.bA 7 2 [],.bA 7 1 [7],.bA 7 1 [16],.bA 7 1 [16,12],.bA 7 1 [16,19]]),
 (231,8000172,[.cells 0 [.bool],.bA 12 2 [19]]),
 (231,8000178,[.cells 0 [.bool],.bA 10 2 [],.bA 10 1 [2],.bA 10 1 [8],.bA 10 1 [8,7],.bA 10 1 [8,7,7],.bA 10 1 [8,7,7,7]]),
 (231,8000183,[.cells 0 [.bool],.bA 7 2 [],.bA 7 1 [7],.bA 7 1 [16],.bA 7 1 [16,10],.bA 7 1 [16,10,2],.bA 7 1 [16,10,8],.bA 7 1 [16,10,8,7],.bA 7 1 [16,10,8,7,7],.bA 7 1 [16,10,8,7,7,7]]),
 (232,2,[.val 0 39,.val 1 27,.val 4 3,.val 7 3,.val 8 3]),
 (232,5000002,[.val 4 3,.val 8 3]),
 (235,3,[.val 0 257,.val 3 3,.val 9 257,.val 10 3,.val 11 3]),
 (235,11,[.cU 6 27 1 Zw,.val 25 257,.val 26 3,.val 27 3]),
 (237,4,[.val 0 39,.val 2 39,.val 3 3]),
 (237,9,[.val 0 39,.val 3 3,.val 4 39,.val 5 3]),
 (237,5000004,[.val 3 3]),
 (237,5000009,[.cells 99999 []]),
 (239,2,[.val 0 39,.val 1 167,.val 4 3,.val 7 3,.val 8 3]),
 (239,5000002,[.val 4 3,.val 8 3]),
 (239,6000002,[.bA 16 1 [10],.bA 16 1 [10,2],.bA 16 1 [10,8],.bA 16 1 [10,8,7],.bA 16 1 [10,8,7,7],.bA 16 1 [10,8,7,7,7]]),
 (239,8000178,[.cells 0 [.bool],.bA 10 2 [],.bA 10 1 [2],.bA 10 1 [8],.bA 10 1 [8,7],.bA 10 1 [8,7,7],.bA 10 1 [8,7,7,7]]),
 (241,2,[.val 0 3,.val 4 4,.val 7 234,.val 8 3,.val 9 3]),
 (256,3,[.val 0 25,.val 1 3,.val 2 3,.val 3 4,.h_ 9 Zw,.ptr 9 9 0,.val 12 3,.val 13 3]),
 (259,2,[.rowAt 0 Zn 27 1,.ga 0 0 27 1,.val 1 3,.val 2 3,.val 3 3,.val 8 4,.val 9 4]),
 (259,2000014,[.rowAt 0 Zn 27 1,.ga 0 0 27 1,.val 1 3,.val 2 3,.val 3 3,.val 8 4,.val 9 4,.val 10 3,.val 11 3,.val 12 263]),
 (259,2000015,[.rowAt 0 Zn 27 1,.ga 0 0 27 1,.val 1 3,.val 2 3,.val 3 3,.val 8 4,.val 9 4,.val 10 3,.val 11 3,.val 68 4]),
 (259,2000016,[.rowAt 0 Zn 27 1,.ga 0 0 27 1,.val 1 3,.val 2 3,.val 3 3,.val 8 4,.val 9 4,.val 10 3,.val 11 3,.val 72 4]),
 (259,2000017,[.rowAt 0 Zn 27 1,.ga 0 0 27 1,.val 1 3,.val 2 3,.val 3 3,.val 8 4,.val 9 4,.val 10 3,.val 11 3,.val 87 4]),
 (259,3000008,[.rowAt 0 Zn 27 1,.ga 0 0 27 1,.val 1 3,.val 2 3,.val 3 3,.val 8 4,.val 9 4,.val 10 3]),
 (259,3000012,[.rowAt 0 Zn 27 1,.ga 0 0 27 1,.val 1 3,.val 2 3,.val 3 3,.val 8 4,.val 9 4,.val 10 3,.val 11 3,.val 12 263]),
 (262,2,[.val 0 9,.val 1 9,.val 4 4,.val 7 3,.val 8 3]),
 (263,1,[.rowAt 0 Zn 27 1,.ga 0 0 27 1,.val 1 3,.val 2 3,.val 6 3]),
 (263,4,[.rowAt 0 Zn 27 1,.ga 0 0 27 1,.val 1 3,.val 2 3,.val 6 3,.val 7 3]),
 (264,4,[.rowAt 0 Zn 27 1,.ga 0 0 27 1,.val 6 3,.val 7 3,.val 8 3,.val 9 3]),
 (264,8,[.rowAt 0 Zn 27 1,.ga 0 0 27 1,.val 6 3,.val 7 3,.val 10 3]),
 (265,5,[.rowAt 0 Zn 27 1,.ga 0 0 27 1,.val 1 3,.val 6 3,.cells 7 [.int .u64],.ptr 7 7 0,.val 8 109,.val 9 3]),
 (267,2,[.rowAt 0 Zn 27 1,.ga 0 0 27 1,.val 6 3,.val 7 3]),
 (268,3,[.rowAt 0 Zn 27 1,.ga 0 0 27 1,.val 1 3,.val 2 3,.val 6 4,.val 7 3,.val 8 3]),
 (268,5,[.rowAt 0 Zn 27 1,.ga 0 0 27 1,.val 1 3,.val 2 3,.val 7 3,.val 8 3,.val 6 4]),
 (268,14,[.rowAt 0 Zn 27 1,.ga 0 0 27 1,.val 1 3,.val 2 3,.val 7 3,.val 8 3,.val 9 3,.val 6 4]),
 (268,20,[.rowAt 0 Zn 27 1,.ga 0 0 27 1,.val 1 3,.val 2 3,.val 7 3,.val 8 3,.val 10 3,.val 6 4]),
 (270,3,[.rowAt 0 Zn 27 1,.ga 0 0 27 1,.val 1 3,.val 9 3,.val 10 3]),
 (270,5,[.rowAt 0 Zn 27 1,.ga 0 0 27 1,.val 1 3,.val 9 3,.val 10 3]),
 (271,3,[.rowAt 0 Zn 27 1,.ga 0 0 27 1,.val 1 3,.val 10 3,.val 11 3]),
 (271,5,[.rowAt 0 Zn 27 1,.ga 0 0 27 1,.val 1 3,.val 10 3,.val 11 3]),
 (271,13,[.rowAt 0 Zn 27 1,.ga 0 0 27 1,.val 1 3,.val 10 3,.val 11 3]),
 (271,15,[.rowAt 0 Zn 27 1,.ga 0 0 27 1,.val 1 3,.val 10 3,.val 11 3]),
 (275,1,[.rowAt 0 Zn 27 1,.ga 0 0 27 1,.val 2 3,.val 3 3,.val 8 3])]
def Zr:List Nat:=[95,139,170,171,175,257,258,93,108,109,110,217,67,141,219,256,214,215,216,243,179,1017088,1016832,1017152,1017280,1017344,1017600,1018048,1016896,1016960,1017856,1017792,1017024,1016576,1015104]
def ZD:List (Nat×List Nat):=[(17,[4]),(21,[27]),(24,[27]),(46,[25]),(89,[3]),(90,[53]),(92,[4]),(94,[25]),(95,[25]),(107,[4]),(113,[4]),(114,[4]),(138,[25]),(139,[25]),(142,[4]),(144,[4]),(152,[4]),(156,[4]),(159,[4]),(170,[39]),(171,[32]),(174,[4]),(175,[25]),(184,[176]),(205,[27]),(206,[4]),(207,[4]),(210,[35]),(211,[25]),(218,[25]),(221,[4]),(222,[4]),(226,[]),(229,[4]),(233,[4]),(234,[4]),(238,[4]),(241,[4]),(245,[4]),(251,[4]),(252,[4]),(254,[3]),(255,[4]),(257,[25]),(258,[39]),(261,[4]),(267,[]),(273,[3]),(277,[26]),(280,[4]),(283,[3]),(29,[27]),(60,[27]),(91,[4]),(93,[25]),(105,[9]),(108,[25]),(109,[25]),(110,[25]),(111,[4]),(112,[4]),(136,[4]),(148,[25,3,35]),(177,[3,3,4]),(208,[3,3,35]),(212,[3]),(217,[25]),(228,[4]),(240,[3,4,35]),(242,[25]),(260,[3]),(269,[4]),(281,[3]),(25,[25,35]),(36,[53]),(40,[25,35]),(42,[25,35]),(59,[53]),(67,[25,35]),(71,[25,35]),(97,[4]),(106,[4]),(116,[25]),(141,[25]),(143,[3]),(145,[3,3,35]),(147,[3,3,35]),(150,[9,3,35]),(154,[25]),(167,[25]),(185,[4,35]),(186,[3,3,35]),(219,[25]),(220,[25]),(227,[3]),(256,[25]),(263,[]),(268,[4]),(270,[3]),(271,[3,4]),(274,[3]),(275,[]),(276,[109]),(282,[3,3]),(22,[55]),(37,[25,35]),(39,[25,35]),(41,[25,35]),(43,[25,35]),(63,[113]),(64,[25,35]),(65,[25,35]),(66,[25,35]),(68,[25,35]),(69,[25,35]),(70,[25,35]),(73,[39]),(137,[35]),(140,[35]),(149,[27,4]),(155,[3]),(160,[3]),(165,[3]),(168,[3]),(188,[61,3]),(193,[9]),(194,[3]),(197,[3]),(214,[25]),(215,[25]),(216,[25]),(223,[35]),(243,[25]),(248,[25,3,4]),(262,[4]),(264,[]),(265,[]),(279,[3]),(61,[25,35]),(62,[25,35]),(115,[25,25,35]),(157,[27]),(158,[25,35]),(164,[27]),(182,[29,3,35]),(191,[25,35]),(192,[3,25,25,4,35]),(225,[25]),(230,[25]),(246,[4]),(247,[4]),(250,[25]),(278,[3]),(23,[25,35]),(44,[25,35]),(45,[25,35]),(75,[124,35]),(117,[4]),(121,[25,4,35]),(122,[25,25,4,35]),(196,[25,35]),(244,[4]),(266,[3,263]),(38,[25]),(47,[32]),(124,[82,35]),(189,[25,35]),(209,[4]),(259,[]),(14,[25]),(119,[61,35]),(146,[53,3,35]),(153,[25,35]),(166,[25,35]),(169,[25,35]),(187,[25,35]),(190,[25,35]),(198,[25,35]),(213,[35]),(224,[35]),(236,[]),(249,[35]),(9,[25]),(74,[117,35]),(118,[72,35]),(120,[75,35]),(151,[25,35]),(161,[53]),(162,[25,35]),(163,[53]),(179,[39]),(195,[25,35]),(72,[55,35]),(76,[127,35]),(77,[130,35]),(78,[133,35]),(123,[79,35]),(125,[85,35]),(15,[39,32]),(48,[32]),(11,[32]),(102,[4]),(31,[4]),(33,[4]),(19,[46]),(27,[46]),(8,[4]),(18,[46]),(7,[4])]
def Nq:Sp
 | [.sl 1 ks,.sl 1 ls],[]=>az (Zu ks&&Zu ls&&Zz (ks.length<=1000000000)) (Zx (.bool (Kerb.la ks==Kerb.la ls),[]))
 | _,_=>Zy
def H2:Sp
 | [.int .i64 n],[]=>az (Zz (0<=n)&&Zz (n<=1000)) (Zx (.int .u64 (Kerb.aG n),[]))
 | _,_=>Zy
def NR:Sp
 | [.int .i64 n],[]=>az (Zz (0<=n)&&Zz (n<=1000)) (Zx (.int .u64 (Kerb.qQ n),[]))
 | _,_=>Zy
def H5:Sp
 | [.bs b,.int .u16 how],[]=>az (Zz (b.length<=1000000)&&Zz (0<=how)&&Zz (how<=65535)) (Zx (.bs (Kerb.qJ b how),[]))
 | _,_=>Zy
def xd:Sp
 | [.ptr 0 0,.int .i64 n],[(0,[.bs l,.int .i64 pos])]=>az (Zz (l.length<=4611686018427387904)&&Zz (0<=pos)) (Zx (.int .i64 (Kerb.next l pos n),[[.bs l,.int .i64 (Kerb.c9 l pos n)]]))
 | _,_=>Zy
def Sw:Sp
 | [.int .i64 n],[]=>az (Zz (0<=n)&&Zz (n<=1)) (Zx (.agg [.str (Kerb.eT n).name,.str (Kerb.eT n).inst,.str (Kerb.eT n).aJ],[]))
 | _,_=>Zy
def Sx:Sp
 | [.int .i64 n,.int .i64 m],[]=>Zx (.bool (Zv n m),[])
 | _,_=>Zy
def Sy:Sp
 | [.int .i64 k,.bool aq],[]=>Zx (.bs (Kerb.header k aq),[])
 | _,_=>Zy
def oa:Sp
 | [.bs b,.str s],[]=>az (Zz (b.length+s.length<=70368744177664)) (Zx (.bE (Kerb.bg b s),[]))
 | _,_=>Zy
def Nf:Sp
 | [.int .i64 n,.int .i64 m],[]=>Zx (.bool (Zv n m),[])
 | _,_=>Zy
def Ng:Sp
 | [.int .i64 n],[]=>Zx (.bool (n==1||n==3),[])
 | _,_=>Zy
def Nh:Sp
 | [.int .i64 n,.int .i64 m],[]=>Zx (.bool (Zv n m),[])
 | _,_=>Zy
def lI:Sp
 | [.int .u64 k],[]=>az (Zz (0<=k)&&Zz (k<18446744073709551616)) (Zx (.bs (Kerb.keyBytes k),[]))
 | _,_=>Zy
def ii:Sp
 | [.bs b],[]=>az (Zz (b.length<=70368744177664)) (Zx (.bE (Kerb.pad b),[]))
 | _,_=>Zy
def Nk:Sp
 | [.int .i64 n,.int .i64 m],[]=>Zx (.bool (Zv n m),[])
 | _,_=>Zy
def Nl:Sp
 | [.int .i64 n,.int .i64 m],[]=>Zx (.bool (Zv n m),[])
 | _,_=>Zy
def Nm:Sp
 | [.bs a,.bs b],[]=>Zx (.bool (a==b),[])
 | _,_=>Zy
def Nn:Sp
 | [.str l],[]=>Zx (.bool (Kerb.iQ l),[])
 | _,_=>Zy
def Np:Sp
 | [.str l],[]=>Zx (.bool (Kerb.dK l),[])
 | _,_=>Zy
def Nr:Sp
 | [.sl 1 ks],[]=>az (Zu ks&&Zz (ks.length<=1000000)) (Zx (.aF ks,[]))
 | _,_=>Zy
def Ns:Sp
 | [.sl 1 bs],[]=>az (Kerb.uN bs&&Zz (bs.length<=1000000)) (Zx (.aF bs,[]))
 | _,_=>Zy
def wa:Sp
 | [.str s,.str bad],[]=>az (Zz (s.length<=9223372036854775807)&&Zz (bad.length<=100)) (Zx (.bool (Kerb.dO s bad&&Zz (s.length<=39)),[]))
 | _,_=>Zy
def wb:Sp
 | [.bs b,.int .i64 n,.int .i64 k,.bool aq],[]=>az (Zz (k=1\/k=2\/k=4)&&Zz (b.length<=70368744177664)) (Zx (.bE (b++Kerb.aS n k.toNat aq),[]))
 | _,_=>Zy
def Nv:Sp
 | [],[]=>Zx (.sl 1 [.str [65,84,72],.str [66,79,83],.str [67,65,77]],[])
 | _,_=>Zy
def NB:Sp
 | [.int .i64 c,.int .i64 n],[]=>Zx (.int .u64 (cond (Kerb.nc c&&Kerb.ld n) (c*72057594037927936+n) 0),[])
 | _,_=>Zy
def NC:Sp
 | [.int .i64 n,.int .i64 m],[]=>Zx (.bool (Zv n m),[])
 | _,_=>Zy
def ND:Sp
 | [.int .i64 n,.int .i64 m],[]=>Zx (.bool (Zv n m),[])
 | _,_=>Zy
def wg:Sp
 | [.bs b,.int .i64 pos,.int .i64 n],[]=>az (Zz (b.length<=4611686018427387904)) (Zx (.int .i64 (Kerb.room b pos n),[]))
 | _,_=>Zy
def Ad:Sp
 | [.bs b],[]=>az (Zz (b.length<=140737488355328)) (Zx (.bs b,[]))
 | _,_=>Zy
def sB:Sp
 | [.int .u64 k],[]=>az (Zz (0<=k)&&Zz (k<18446744073709551616)) (Zx (.bs (Kerb.keyBytes k),[]))
 | _,_=>Zy
def NH:Sp
 | [.int .i64 n,.int .i64 m],[]=>Zx (.bool (Zv n m),[])
 | _,_=>Zy
def NI:Sp
 | [.ptr 0 0,.int .i64 nx,.int .i64 e],[(0,[.bs B,.int .i64 at_,.bool bad])]=>Zx (.bool (!(bad || !(e==0))),[[.bs B,.int .i64 (cond (bad || !(e==0)) at_ nx),.bool (bad || !(e==0))]])
 | _,_=>Zy
def NJ:Sp
 | [.ptr 0 0,.int .i64 nx,.int .i64 e],[(0,[.bs B,.int .i64 at_,.bool bad])]=>Zx (.aQ [],[[.bs B,.int .i64 (cond (e==0) nx at_),.bool (bad || !(e==0))]])
 | _,_=>Zy
def NL:Sp
 | [.int .i64 n,.int .i64 m],[]=>Zx (.bool (Zv n m),[])
 | _,_=>Zy
def NN:Sp
 | [.int .i64 k],[]=>Zx (.bool (Kerb.nc k),[])
 | _,_=>Zy
def NP:Sp
 | [.int .i64 k],[]=>Zx (.bool (Kerb.ld k),[])
 | _,_=>Zy
def NQ:Sp
 | [.int .i64 k],[]=>Zx (.bool (Kerb.isKind k),[])
 | _,_=>Zy
def Gn:Sp
 | [.int .i64 k,.sl 1 els],[]=>az (og els&&Zz (els.length<=1000)) (Zx (.bool ((jB els).contains k),[]))
 | _,_=>Zy
def NU:Sp
 | [.int .i64 n,.int .i64 m],[]=>Zx (.bool (Zv n m),[])
 | _,_=>Zy
def NW:Sp
 | [.int .i64 n],[]=>Zx (.bool (Kerb.lh n),[])
 | _,_=>Zy
def NX:Sp
 | [.int .i64 n,.int .i64 m],[]=>Zx (.bool (Zv n m),[])
 | _,_=>Zy
def NY:Sp
 | [.bs s,.u8 c],[]=>Zx (.int .i64 (Kerb.indexOf c s),[])
 | _,_=>Zy
def NZ:Sp
 | [.int .i64 n,.int .i64 m],[]=>Zx (.bool (Zv n m),[])
 | _,_=>Zy
def Gr:Sp
 | [.cJ,.int .i64 n],[]=>az (Zz (0<=n)&&Zz (n<=140737488355328)) (Zx (.bE [],[]))
 | _,_=>Zy
def Gs:Sp
 | [.cJ,.int .i64 n],[]=>az (Zz (0<=n)&&Zz (n<=1000000000000)) (Zx (.aF [],[]))
 | _,_=>Zy
def N0:Sp
 | [.int .i64 k],[]=>Zx (.bool (Kerb.isKind k),[])
 | _,_=>Zy
def Gx:Sp
 | [.bz 0 27 1,.int .i64 a,.int .i64 b],[(0,els)]=>az (Zu els&&Zz ((els.length:Int)<=1152921504606846976)&&Zz (0<=a)&&Zz (a<=b)&&Zz (b<=(els.length:Int))) (Zx (.aQ [],[Kerb.PJ els a b]))
 | _,_=>Zy
def Gz:Sp
 | [.int .u64 x],[]=>az (Zz (0<=x)&&Zz (x<18446744073709551616)) (Zx (.int .i64 (Kerb.Pt x),[]))
 | _,_=>Zy
def GB:Sp
 | [.ptr 0 0],[(0,[.int .u64 x])]=>az (Zz (0<=x)&&Zz (x<18446744073709551616)) (Zx (.int .u64 (Kerb.Ib x),[[.int .u64 (Kerb.Ib x)]]))
 | _,_=>Zy
def N5:Sp
 | [.int .u64 x],[]=>Zx (.bool Zw,[])
 | _,_=>Zy
def N7:Sp
 | [.str s,.u8 c],[]=>Zx (.int .i64 (Kerb.indexOf c s),[])
 | _,_=>Zy
def Sk:Sp
 | [.u8 n],[]=>Zx (.int .u64 (Kerb.ig n),[])
 | _,_=>Zy
def Sr:Sp
 | [.u8 n],[]=>Zx (.int .u64 (Kerb.jh n),[])
 | _,_=>Zy
def DK:Sp
 | [.str s],[]=>az (Zz (s.length<=9223372036854775807)) (Zx (.bool (Kerb.c4 s),[]))
 | _,_=>Zy
def hX:Sp
 | [.bs b,.int .i64 n],[]=>az (Zz (b.length<=70368744177664)) (Zx (.bE (b++Kerb.aS n 1 Zw),[]))
 | _,_=>Zy
def z3:Sp
 | [.int .i64 n],[]=>az (Zz (0<=n)) (Zx (.str (Kerb.aJ n),[]))
 | _,_=>Zy
def iP:Sp
 | [.bs b,.agg [.str x,.str y,.str z]],[]=>az (Zz (b.length+x.length+y.length+z.length<=70368744170000)) (Zx (.bE (Kerb.c5 b ⟨x,y,z⟩),[]))
 | _,_=>Zy
def ew:Sp
 | [.bs b,.int .i64 n,.bool aq],[]=>az (Zz (b.length<=70368744177664)) (Zx (.bE (b++Kerb.aS n 4 aq),[]))
 | _,_=>Zy
def kC:Sp
 | [.bs b,.int .i64 n,.bool aq],[]=>az (Zz (b.length<=70368744177664)) (Zx (.bE (b++Kerb.aS n 2 aq),[]))
 | _,_=>Zy
def sr:Sp
 | [.str s],[]=>az (Zz (s.length<=9223372036854775807)) (Zx (.bool (Kerb.validName s),[]))
 | _,_=>Zy
def ss:Sp
 | [.str s],[]=>az (Zz (s.length<=9223372036854775807)) (Zx (.bool (Kerb.bO s),[]))
 | _,_=>Zy
def m4:Sp
 | [.int .u64 k],[]=>az (Zz (0<=k)&&Zz (k<18446744073709551616)) (Zx (.bool (Kerb.bp k),[]))
 | _,_=>Zy
def qH:Sp
 | [.bs b,.int .i64 pos,.int .i64 n],[]=>az (Zz (b.length<=140737488355328)) (Zx (.aQ [.bs (Kerb.bytes b pos n).val,.int .i64 (Kerb.bytes b pos n).next,.int .i64 (Kerb.bytes b pos n).err],[]))
 | _,_=>Zy
def z_:Sp
 | [.int .u64 k],[]=>az (Zz (0<=k)&&Zz (k<18446744073709551616)) (Zx (.aQ [.int .i64 (cond (Kerb.bp k) (Kerb.lj k) 0),.int .i64 (cond (Kerb.bp k) (Kerb.kr k) 0),.bool (Kerb.bp k)],[]))
 | _,_=>Zy
def Ac:Sp
 | [.bs b,.int .i64 pos,.int .i64 k,.bool aq],[]=>az (Zz (b.length<=4611686018427387904)&&Zz (0<=k)&&Zz (k<=4)) (Zx (.aQ [.int .i64 (Zq b pos k aq).val,.int .i64 (Zq b pos k aq).next,.int .i64 (Zq b pos k aq).err],[]))
 | _,_=>Zy
def NE:Sp
 | [.bs s,.u8 c],[]=>Zx (.int .i64 (Kerb.indexOf c s),[])
 | _,_=>Zy
def NG:Sp
 | [.sl 1 els],[]=>az (OX els&&Zz ((ra els).length<=140737488355328)&&Zz (els.length<=1000)) (Zx (.bE (ra els),[]))
 | _,_=>Zy
def NK:Sp
 | [.int .i64 a,.int .i64 b],[]=>Zx (.bool (Kerb.period a b),[])
 | _,_=>Zy
def NS:Sp
 | [.bs b],[]=>Zx (.aQ [.int .i64 (Kerb.dB b).kind,.bool (Kerb.dB b).aq,.int .i64 (Kerb.dB b).err],[])
 | _,_=>Zy
def NT:Sp
 | [.int .i64 k,.bool aq],[]=>Zx (.bs (Kerb.header k aq),[])
 | _,_=>Zy
def Ak:Sp
 | [.int .u64 x],[]=>az (Kerb.ok x&&Zz (0<=x)&&Zz (x<18446744073709551616)) (Zx (.int .i64 (Kerb.Pt x),[]))
 | _,_=>Zy
def N1:Sp
 | [.int .u64 x,.int .u64 y],[]=>Zx (.bool (Zz (x<y)),[])
 | _,_=>Zy
def N6:Sp
 | [.str s,.u8 c],[]=>Zx (.int .i64 (Kerb.indexOf c s),[])
 | _,_=>Zy
def NV:Sp
 | [.agg [.bool li,.bool mu,.int .i64 kv,.str rl,.bs tk,.bs au]],[]=>az (Zz (rl.length<=9223372036854775807)) (Zx (.aQ [.bs (Kerb.cH (Kerb.cS.mk li mu kv rl tk au)).val,.int .i64 (Kerb.cH (Kerb.cS.mk li mu kv rl tk au)).err],[]))
 | _,_=>Zy
def H4:Sp
 | [.int .i64 n],[]=>az (Zz (0<=n)&&Zz (n<=4611686018427387904)) (Zx (.agg [.str (Kerb.user n).name,.str (Kerb.user n).inst,.str (Kerb.user n).aJ],[]))
 | _,_=>Zy
def Sn:Sp
 | [.bs s,.bool li],[]=>Zx (.aQ [.bs (Kerb.dM s li).val,.int .i64 (Kerb.dM s li).err],[])
 | _,_=>Zy
def Sq:Sp
 | [.agg [.int .i64 op,.int .i64 cd,.bs bx]],[]=>Zx (.aQ [.bs (Kerb.cg ⟨op,cd,bx⟩).val,.int .i64 (Kerb.cg ⟨op,cd,bx⟩).err],[])
 | _,_=>Zy
def Oc:Sp
 | [.int .i64 n],[]=>az (Zz (0<=n)&&Zz (n<=4611686018427387904)) (Zx (.agg [.str (Kerb.service n).name,.str (Kerb.service n).inst,.str (Kerb.service n).aJ],[]))
 | _,_=>Zy
def Og:Sp
 | [.agg [.str lb,.int .i64 t,.int .i64 st,.int .i64 en,.int .u64 k]],[]=>az (Zz (0<=k)&&Zz (k<18446744073709551616)) (Zx (.aQ [.bE (Kerb.aW ⟨lb,t,st,en,k⟩).val,.int .i64 (Kerb.aW ⟨lb,t,st,en,k⟩).err],[]))
 | _,_=>Zy
def H6:Sp
 | [.int .i64 kd,.int .u64 k,.bs bd],[]=>az (Zz (0<=k)&&Zz (k<18446744073709551616)) (Zx (.aQ [.bs (Kerb.fO kd k bd).val,.int .i64 (Kerb.fO kd k bd).err],[]))
 | _,_=>Zy
def xe:Sp
 | [.int .u64 k],[]=>az (Zz (0<=k)&&Zz (k<18446744073709551616)) (Zx (.bool (Kerb.bp k),[]))
 | _,_=>Zy
def ji:Sp
 | [.agg [.str a,.str b,.str c]],[]=>az (Zz (a.length<=9223372036854775807)&&Zz (b.length<=9223372036854775807)&&Zz (c.length<=9223372036854775807)) (Zx (.bool (Kerb.aZ.valid ⟨a,b,c⟩),[]))
 | _,_=>Zy
def xK:Sp
 | [.bs b,.bs s,.bool li],[]=>az (Zz (b.length+s.length<=70368744170000)) (Zx (.bs (Kerb.zO b s li),[]))
 | _,_=>Zy
def Nj:Sp
 | [.bs b,.bool aq],[]=>az (Zz (b.length<=70368744177664)) (Zx (.bE (b++Kerb.aS (cond aq 1 0) 1 Zw),[]))
 | _,_=>Zy
def z6:Sp
 | [.int .u64 k],[]=>az (Zz (0<=k)&&Zz (k<18446744073709551616)) (Zx (.int .i64 (Kerb.gy k),[]))
 | _,_=>Zy
def su:Sp
 | [.bs b,.int .i64 pos],[]=>az (Zz (b.length<=4611686018427387904)) (Zx (.aQ [.int .i64 (Zq b pos 1 Zw).val,.int .i64 (Zq b pos 1 Zw).next,.int .i64 (Zq b pos 1 Zw).err],[]))
 | _,_=>Zy
def tH:Sp
 | [.bs b,.int .i64 pos,.bool aq],[]=>az (Zz (b.length<=4611686018427387904)) (Zx (.aQ [.int .i64 (Zq b pos 4 aq).val,.int .i64 (Zq b pos 4 aq).next,.int .i64 (Zq b pos 4 aq).err],[]))
 | _,_=>Zy
def vY:Sp
 | [.bs b,.int .i64 pos],[]=>az (Zz (b.length<=4611686018427387904)) (Zx (.aQ [.str (Kerb.text b pos).val,.int .i64 (Kerb.text b pos).next,.int .i64 (Kerb.text b pos).err],[]))
 | _,_=>Zy
def qI:Sp
 | [.ptr 0 0,.int .i64 n],[(0,[.bs B,.int .i64 at_,.bool bad])]=>az (Zz (B.length<=140737488355328)) (Zx (.bs (Kerb.dw B n at_ bad).val,[[.bs B,.int .i64 (Kerb.dw B n at_ bad).pos,.bool (Kerb.dw B n at_ bad).bad]]))
 | _,_=>Zy
def v_:Sp
 | [.ptr 0 0,.int .i64 n],[(0,[.bs B,.int .i64 at_,.bool bad])]=>az (Zz (B.length<=140737488355328)) (Zx (.bs (Kerb.mX B n at_ bad).val,[[.bs B,.int .i64 (Kerb.mX B n at_ bad).pos,.bool (Kerb.mX B n at_ bad).bad]]))
 | _,_=>Zy
def Nw:Sp
 | [.bs b,.sl 1 els],[]=>az (og els&&Zz (els.length<=1000)) (Zx (.aQ [.bool (Kerb.bc b (jB els)).1,.int .i64 (Kerb.bc b (jB els)).2],[]))
 | _,_=>Zy
def wc:Sp
 | [.bs b,.int .i64 pos,.bool aq],[]=>az (Zz (b.length<=4611686018427387904)) (Zx (.aQ [.int .i64 (Zq b pos 2 aq).val,.int .i64 (Zq b pos 2 aq).next,.int .i64 (Zq b pos 2 aq).err],[]))
 | _,_=>Zy
def oF:Sp
 | [.bs b,.str s],[]=>az (Zz (b.length+s.length<=70368744177664)) (Zx (.bE (Kerb.bg b s),[]))
 | _,_=>Zy
def pK:Sp
 | [.bs b],[]=>az (Zz (b.length<=70368744177664)) (Zx (.bs (Kerb.pad b),[]))
 | _,_=>Zy
def Ag:Sp
 | [.int .u64 k],[]=>az (Zz (0<=k)&&Zz (k<18446744073709551616)) (Zx (.int .i64 (Kerb.gy k),[]))
 | _,_=>Zy
def wh:Sp
 | [.bs b,.int .i64 n,.int .i64 k,.bool aq],[]=>az (Zz (k=1\/k=2\/k=4)&&Zz (b.length<=70368744177664)) (Zx (.bE (b++Kerb.aS n k.toNat aq),[]))
 | _,_=>Zy
def Gt:Sp
 | [.bz 0 27 1,.int .i64 a,.int .i64 b],[(0,els)]=>az (Zu els&&Zz ((els.length:Int)<=1152921504606846976)&&Zz (0<=a)&&Zz (a<=b)&&Zz (b<=(els.length:Int))) (Zx (.aQ [],[Kerb.x9 els a b]))
 | _,_=>Zy
def Gy:Sp
 | [.bz 0 27 1,.int .i64 a,.int .i64 b],[(0,els)]=>az (Zu els&&Zz ((els.length:Int)<=1152921504606846976)&&Zz (0<=a)&&Zz (a<=b)&&Zz (b<=(els.length:Int))&&Zz (a<b)) (Zx (.bool (Kerb.vP els a b).2,[(Kerb.vP els a b).1]))
 | _,_=>Zy
def Cc:Sp
 | [.bz 0 27 1,.int .i64 a,.int .i64 b,.int .i64 p],[(0,els)]=>az (Zu els&&Zz ((els.length:Int)<=1152921504606846976)&&Zz (0<=a)&&Zz (a<=b)&&Zz (b<=(els.length:Int))&&Zz (a<=p)&&Zz (p<b)) (Zx (.int .i64 (Kerb.Dp els a b p).1,[(Kerb.Dp els a b p).2]))
 | _,_=>Zy
def Cd:Sp
 | [.bz 0 27 1,.int .i64 a,.int .i64 b,.int .i64 p],[(0,els)]=>az (Zu els&&Zz ((els.length:Int)<=1152921504606846976)&&Zz (0<=a)&&Zz (a<=b)&&Zz (b<=(els.length:Int))&&Zz (a<=p)&&Zz (p<b)) (Zx (.aQ [.int .i64 (Kerb.part els a b p).1,.bool (Kerb.part els a b p).2.1],[(Kerb.part els a b p).2.2]))
 | _,_=>Zy
def N4:Sp
 | [.str s,.u8 c],[]=>Zx (.int .i64 (Kerb.indexOf c s),[])
 | _,_=>Zy
def Ce:Sp
 | [.bz 0 27 1,.int .i64 lo,.int .i64 hi,.int .i64 first],[(0,els)]=>az (Zu els&&Zz ((els.length:Int)<=1152921504606846976)&&Zz (0<=lo)&&Zz (0<=hi)&&Zz (0<=first)&&Zz (first+hi<=(els.length:Int))&&Zz (lo<=(els.length:Int))) (Zx (.aQ [],[Kerb.sift els lo hi first]))
 | _,_=>Zy
def GA:Sp
 | [.int .i64 n],[]=>az (Zz (0<=n)&&Zz (n<=4611686018427387904)) (Zx (.int .u64 (Kerb.MS n),[]))
 | _,_=>Zy
def An:Sp
 | [.bz 0 27 1,.int .i64 a,.int .i64 b,.ptr 3 0],[(0,els),(3,[.int .i64 s])]=>az (Zu els&&Zz ((els.length:Int)<=1152921504606846976)&&Zz (0<=a)&&Zz (a<(els.length:Int))&&Zz (0<=b)&&Zz (b<(els.length:Int))&&Zz (0<=s)&&Zz (s<=1000)) (Zx (.aQ [.int .i64 (Kerb.order2 els a b s).1,.int .i64 (Kerb.order2 els a b s).2.1],[els,[.int .i64 (Kerb.order2 els a b s).2.2]]))
 | _,_=>Zy
def H3:Sp
 | [.bs l],[]=>az (Zz (l.length<=4611686018427387904)) (Zx (.agg [.bool (Zb l).aq,.str (Zb l).client.name,.str (Zb l).client.inst,.str (Zb l).client.aJ,.int .i64 (Zb l).address,.int .u64 (Zb l).aG,.int .i64 (Zb l).cj,.int .i64 (Zb l).cE,.str (Zb l).service,.str (Zb l).inst],[]))
 | _,_=>Zy
def N9:Sp
 | [.agg [.bool li,.str x,.str y,.str z,.int .i64 t,.int .i64 ex,.int .i64 kv,.bs sd]],[]=>az (Zz (x.length<=9223372036854775807)&&Zz (y.length<=9223372036854775807)&&Zz (z.length<=9223372036854775807)) (Zx (.aQ [.bs (Kerb.dU ⟨li,⟨x,y,z⟩,t,ex,kv,sd⟩).val,.int .i64 (Kerb.dU ⟨li,⟨x,y,z⟩,t,ex,kv,sd⟩).err],[]))
 | _,_=>Zy
def Sm:Sp
 | [.agg [.bool li,.bool mu,.int .i64 kv,.str rl,.bs tk,.bs au,.int .i64 tm,.int .i64 lf,.str sv,.str ins]],[]=>az (Zz (rl.length<=9223372036854775807)&&Zz (sv.length<=9223372036854775807)&&Zz (ins.length<=9223372036854775807)) (Zx (.aQ [.bs (Kerb.dN (Kerb.ft.mk (Kerb.cS.mk li mu kv rl tk au) tm lf sv ins)).val,.int .i64 (Kerb.dN (Kerb.ft.mk (Kerb.cS.mk li mu kv rl tk au) tm lf sv ins)).err],[]))
 | _,_=>Zy
def So:Sp
 | [.agg [.int .i64 op,.str ux,.str uy,.str uz,.int .i64 kv,.str rl,.bs tk,.str sv,.str ins,.bs bx]],[]=>az (Zz (ux.length<=9223372036854775807)&&Zz (uy.length<=9223372036854775807)&&Zz (uz.length<=9223372036854775807)&&Zz (rl.length<=9223372036854775807)&&Zz (sv.length<=9223372036854775807)&&Zz (ins.length<=9223372036854775807)) (Zx (.aQ [.bs (Kerb.aV ⟨op,⟨ux,uy,uz⟩,kv,rl,tk,sv,ins,bx⟩).val,.int .i64 (Kerb.aV ⟨op,⟨ux,uy,uz⟩,kv,rl,tk,sv,ins,bx⟩).err],[]))
 | _,_=>Zy
def N_:Sp
 | [.agg [.int .i64 op,.str ux,.str uy,.str uz,.bs bx]],[]=>az (Zz (ux.length<=9223372036854775807)&&Zz (uy.length<=9223372036854775807)&&Zz (uz.length<=9223372036854775807)) (Zx (.aQ [.bs (Kerb.eM ⟨op,⟨ux,uy,uz⟩,bx⟩).val,.int .i64 (Kerb.eM ⟨op,⟨ux,uy,uz⟩,bx⟩).err],[]))
 | _,_=>Zy
def Ss:Sp
 | [.bs [x]],[]=>Zx (.agg [.str (Kerb.jy x).client.name,.str (Kerb.jy x).client.inst,.str (Kerb.jy x).client.aJ,.int .i64 (Kerb.jy x).cO,.int .i64 (Kerb.jy x).tick,.int .i64 (Kerb.jy x).time],[])
 | _,_=>Zy
def Oe:Sp
 | [.agg [.int .u64 k,.str x,.str y,.str z,.int .i64 lf,.int .i64 kv,.bs tk,.int .i64 t],.bool aq],[]=>az (Zz (x.length<=9223372036854775807)&&Zz (y.length<=9223372036854775807)&&Zz (z.length<=9223372036854775807)&&Zz (0<=k)&&Zz (k<18446744073709551616)) (Zx (.aQ [.bs (Kerb.cX ⟨k,⟨x,y,z⟩,lf,kv,tk,t⟩ aq).val,.int .i64 (Kerb.cX ⟨k,⟨x,y,z⟩,lf,kv,tk,t⟩ aq).err],[]))
 | _,_=>Zy
def Su:Sp
 | [.agg [.int .i64 ck,.int .i64 tc,.int .i64 tm],.bool li],[]=>Zx (.aQ [.bs (Kerb.eG ⟨ck,tc,tm⟩ li).val,.int .i64 (Kerb.eG ⟨ck,tc,tm⟩ li).err],[])
 | _,_=>Zy
def Sv:Sp
 | [.agg [.bs dt,.int .i64 tc,.int .i64 ad,.int .i64 tm],.bool li],[]=>Zx (.aQ [.bs (Kerb.dv ⟨dt,tc,ad,tm⟩ li).val,.int .i64 (Kerb.dv ⟨dt,tc,ad,tm⟩ li).err],[])
 | _,_=>Zy
def Oh:Sp
 | [.agg [.str lb,.int .i64 t,.int .u64 k,.int .i64 st,.int .i64 en,.int .i64 kv,.str x,.str y,.str z,.bs tk]],[]=>az (Zz (x.length<=9223372036854775807)&&Zz (y.length<=9223372036854775807)&&Zz (z.length<=9223372036854775807)&&Zz (0<=k)&&Zz (k<18446744073709551616)) (Zx (.aQ [.bs (Kerb.bm ⟨lb,t,k,st,en,kv,⟨x,y,z⟩,tk⟩).val,.int .i64 (Kerb.bm ⟨lb,t,k,st,en,kv,⟨x,y,z⟩,tk⟩).err],[]))
 | _,_=>Zy
def Oi:Sp
 | [.agg [.str cx,.str cy,.str cz,.str sx,.str sy,.str sz,.int .u64 k,.int .i64 t,.int .i64 e,.int .i64 a]],[]=>az (Zz (cx.length<=9223372036854775807)&&Zz (cy.length<=9223372036854775807)&&Zz (cz.length<=9223372036854775807)&&Zz (sx.length<=9223372036854775807)&&Zz (sy.length<=9223372036854775807)&&Zz (sz.length<=9223372036854775807)&&Zz (0<=k)&&Zz (k<18446744073709551616)) (Zx (.aQ [.bs (Kerb.eN ⟨⟨cx,cy,cz⟩,⟨sx,sy,sz⟩,k,t,e,a⟩).val,.int .i64 (Kerb.eN ⟨⟨cx,cy,cz⟩,⟨sx,sy,sz⟩,k,t,e,a⟩).err],[]))
 | _,_=>Zy
def Oj:Sp
 | [.agg [.int .u64 k,.str sx,.str sy,.str sz,.int .i64 t,.int .i64 e,.bs rc]],[]=>az (Zz (sx.length<=9223372036854775807)&&Zz (sy.length<=9223372036854775807)&&Zz (sz.length<=9223372036854775807)&&Zz (0<=k)&&Zz (k<18446744073709551616)) (Zx (.aQ [.bs (Kerb.dT ⟨k,⟨sx,sy,sz⟩,t,e,rc⟩).val,.int .i64 (Kerb.dT ⟨k,⟨sx,sy,sz⟩,t,e,rc⟩).err],[]))
 | _,_=>Zy
def Ao:Sp
 | [.sl 1 ks],[]=>az (Kerb.wS ks) (Zx (.sl 1 (Kerb.cZ (Kerb.cr (Kerb.la ks))),[]))
 | _,_=>Zy
def F6:Sp
 | [.agg [.bool li,.str x,.str y,.str z,.int .i64 ad,.int .u64 k,.int .i64 lf,.int .i64 uG,.str sv,.str ins]],[]=>az (Zz (x.length<=9223372036854775807)&&Zz (y.length<=9223372036854775807)&&Zz (z.length<=9223372036854775807)&&Zz (sv.length<=9223372036854775807)&&Zz (ins.length<=9223372036854775807)&&Zz (0<=k)&&Zz (k<18446744073709551616)) (Zx (.int .i64 (Kerb.dz.mk li ⟨x,y,z⟩ ad k lf uG sv ins).err,[]))
 | _,_=>Zy
def F7:Sp
 | [.agg [.str x,.str y,.str z,.int .i64 ck,.int .i64 tc,.int .i64 tm]],[]=>az (Zz (x.length<=9223372036854775807)&&Zz (y.length<=9223372036854775807)&&Zz (z.length<=9223372036854775807)) (Zx (.int .i64 (Kerb.lL.mk ⟨x,y,z⟩ ck tc tm).check,[]))
 | _,_=>Zy
def vX:Sp
 | [.bs b],[]=>az (Zz (b.length<=4611686018427387904)) (Zx (.aQ [.int .u64 (Kerb.fh b).1,.bool (Kerb.fh b).2],[]))
 | _,_=>Zy
def sA:Sp
 | [.ptr 0 0],[(0,[.bs B,.int .i64 at_,.bool bad])]=>az (Zz (B.length<=140737488355328)) (Zx (.int .i64 (Kerb.fD B 4 at_ bad).val,[[.bs B,.int .i64 (Kerb.fD B 4 at_ bad).pos,.bool (Kerb.fD B 4 at_ bad).bad]]))
 | _,_=>Zy
def vZ:Sp
 | [.ptr 0 0],[(0,[.bs B,.int .i64 at_,.bool bad])]=>az (Zz (B.length<=140737488355328)) (Zx (.int .i64 (Kerb.fD B 1 at_ bad).val,[[.bs B,.int .i64 (Kerb.fD B 1 at_ bad).pos,.bool (Kerb.fD B 1 at_ bad).bad]]))
 | _,_=>Zy
def tJ:Sp
 | [.ptr 0 0],[(0,[.bs B,.int .i64 at_,.bool bad])]=>az (Zz (B.length<=140737488355328)) (Zx (.int .i64 (Kerb.o_ B 4 at_ bad).val,[[.bs B,.int .i64 (Kerb.o_ B 4 at_ bad).pos,.bool (Kerb.o_ B 4 at_ bad).bad]]))
 | _,_=>Zy
def z9:Sp
 | [.ptr 0 0],[(0,[.bs B,.int .i64 at_,.bool bad])]=>az (Zz (B.length<=140737488355328)) (Zx (.int .i64 (Kerb.o_ B 2 at_ bad).val,[[.bs B,.int .i64 (Kerb.o_ B 2 at_ bad).pos,.bool (Kerb.o_ B 2 at_ bad).bad]]))
 | _,_=>Zy
def Aa:Sp
 | [.bs b],[]=>az (Zz (b.length<=140737488355328)) (Zx (.aQ [.agg [.bool ((Kerb.lG b).val).aq,.bool ((Kerb.lG b).val).gA,.int .i64 ((Kerb.lG b).val).bP,.str ((Kerb.lG b).val).aJ,.bs ((Kerb.lG b).val).aN,.bs ((Kerb.lG b).val).fA],.int .i64 (Kerb.lG b).next],[]))
 | _,_=>Zy
def Ny:Sp
 | [.ptr 0 0],[(0,[.bs B,.int .i64 at_,.bool bad])]=>az (Zz (B.length<=140737488355328)) (Zx (.str (Kerb.lV B at_ bad).val,[[.bs B,.int .i64 (Kerb.lV B at_ bad).pos,.bool (Kerb.lV B at_ bad).bad]]))
 | _,_=>Zy
def Gh:Sp
 | [.ptr 0 0],[(0,[.bs B,.int .i64 at_,.bool bad])]=>az (Zz (B.length<=140737488355328)) (Zx (.int .i64 (Kerb.fD B 2 at_ bad).val,[[.bs B,.int .i64 (Kerb.fD B 2 at_ bad).pos,.bool (Kerb.fD B 2 at_ bad).bad]]))
 | _,_=>Zy
def Gi:Sp
 | [.ptr 0 0],[(0,[.bs B,.int .i64 at_,.bool bad])]=>az (Zz (B.length<=140737488355328)) (Zx (.int .i64 (Kerb.o_ B 1 at_ bad).val,[[.bs B,.int .i64 (Kerb.o_ B 1 at_ bad).pos,.bool (Kerb.o_ B 1 at_ bad).bad]]))
 | _,_=>Zy
def pJ:Sp
 | [.bs b,.int .i64 n],[]=>az (Zz (b.length<=70368744177664)) (Zx (.bE (b++Kerb.aS n 1 Zw),[]))
 | _,_=>Zy
def oE:Sp
 | [.bs b,.agg [.str x,.str y,.str z]],[]=>az (Zz (b.length+x.length+y.length+z.length<=70368744170000)) (Zx (.bE (Kerb.c5 b ⟨x,y,z⟩),[]))
 | _,_=>Zy
def kD:Sp
 | [.bs b,.int .i64 n,.bool aq],[]=>az (Zz (b.length<=70368744177664)) (Zx (.bE (b++Kerb.aS n 4 aq),[]))
 | _,_=>Zy
def Gk:Sp
 | [.agg [.str lb,.int .i64 t,.int .i64 st,.int .i64 en,.int .u64 k]],[]=>az (Zz (0<=k)&&Zz (k<18446744073709551616)) (Zx (.int .i64 (Kerb.aW ⟨lb,t,st,en,k⟩).err,[]))
 | _,_=>Zy
def Ai:Sp
 | [.bs b,.int .i64 n,.bool aq],[]=>az (Zz (b.length<=70368744177664)) (Zx (.bE (b++Kerb.aS n 2 aq),[]))
 | _,_=>Zy
def Gp:Sp
 | [.bs b,.int .i64 at_,.int .i64 most,.bool li],[]=>az (Zz (b.length<=140737488355328)) (Zx (.aQ [.bs (Kerb.fH b at_ most li).val,.int .i64 (Kerb.fH b at_ most li).next,.bool (Kerb.fH b at_ most li).ok],[]))
 | _,_=>Zy
def Al:Sp
 | [.str s,.str bad],[]=>az (Zz (s.length<=9223372036854775807)) (Zx (.bool (Kerb.dO s bad),[]))
 | _,_=>Zy
def Gu:Sp
 | [.bz 0 27 1,.int .i64 a,.int .i64 b],[(0,els)]=>az (Zu els&&Zz ((els.length:Int)<=1152921504606846976)&&Zz (0<=a)&&Zz (a<=b)&&Zz (b<=(els.length:Int))) (Zx (.aQ [],[Kerb.IA els a b]))
 | _,_=>Zy
def Gv:Sp
 | [.bz 0 27 1,.int .i64 a,.int .i64 b],[(0,els)]=>az (Zu els&&Zz ((els.length:Int)<=1152921504606846976)&&Zz (0<=a)&&Zz (a<=b)&&Zz (b<=(els.length:Int))) (Zx (.aQ [],[Kerb.Cw els a b]))
 | _,_=>Zy
def xM:Sp
 | [.bz 0 27 1,.int .i64 a,.int .i64 b,.int .i64 c,.ptr 4 0],[(0,els),(4,[.int .i64 s])]=>az (Zu els&&Zz ((els.length:Int)<=1152921504606846976)&&Zz (0<=a)&&Zz (a<(els.length:Int))&&Zz (0<=b)&&Zz (b<(els.length:Int))&&Zz (0<=c)&&Zz (c<(els.length:Int))&&Zz (0<=s)&&Zz (s<=900)) (Zx (.int .i64 (Kerb.median els a b c s).1,[els,[.int .i64 (Kerb.median els a b c s).2]]))
 | _,_=>Zy
def KK:Sp
 | [.agg [.bool li,.str x,.str y,.str z,.int .i64 ad,.int .u64 k,.int .i64 lf,.int .i64 uG,.str sv,.str ins]],[]=>az (Zz (x.length<=9223372036854775807)&&Zz (y.length<=9223372036854775807)&&Zz (z.length<=9223372036854775807)&&Zz (sv.length<=9223372036854775807)&&Zz (ins.length<=9223372036854775807)&&Zz (0<=k)&&Zz (k<18446744073709551616)) (Zx (.aQ [.bs (Kerb.bR (Kerb.dz.mk li ⟨x,y,z⟩ ad k lf uG sv ins)).val,.int .i64 (Kerb.bR (Kerb.dz.mk li ⟨x,y,z⟩ ad k lf uG sv ins)).err],[]))
 | _,_=>Zy
def Od:Sp
 | [.agg [.str x,.str y,.str z,.int .i64 ck,.int .i64 tc,.int .i64 tm],.bool li],[]=>az (Zz (x.length<=9223372036854775807)&&Zz (y.length<=9223372036854775807)&&Zz (z.length<=9223372036854775807)) (Zx (.aQ [.bs (Kerb.gN (Kerb.lL.mk ⟨x,y,z⟩ ck tc tm) li).val,.int .i64 (Kerb.gN (Kerb.lL.mk ⟨x,y,z⟩ ck tc tm) li).err],[]))
 | _,_=>Zy
def z4:Sp
 | [.agg [.bs dt,.int .i64 tc,.int .i64 ad,.int .i64 tm],.bool li,.int .i64 kd,.int .u64 k],[]=>az (Zz (0<=k)&&Zz (k<18446744073709551616)) (Zx (.aQ [.bs (Kerb.jD ⟨dt,tc,ad,tm⟩ li kd k).text,.bs (Kerb.jD ⟨dt,tc,ad,tm⟩ li kd k).box,.int .i64 (Kerb.jD ⟨dt,tc,ad,tm⟩ li kd k).err],[]))
 | _,_=>Zy
def z7:Sp
 | [.ptr 0 0],[(0,[.bs B,.int .i64 at_,.bool bad])]=>az (Zz (B.length<=140737488355328)) (Zx (.int .u64 (Kerb.zI B at_ bad).val,[[.bs B,.int .i64 (Kerb.zI B at_ bad).pos,.bool (Kerb.zI B at_ bad).bad]]))
 | _,_=>Zy
def F_:Sp
 | [.agg [.str lb,.int .i64 t,.int .i64 st,.int .i64 en,.int .u64 k]],[]=>az (Zz (0<=k)&&Zz (k<18446744073709551616)) (Zx (.aQ [.bs (Kerb.aW ⟨lb,t,st,en,k⟩).val,.int .i64 (Kerb.aW ⟨lb,t,st,en,k⟩).err],[]))
 | _,_=>Zy
def z8:Sp
 | [.ptr 0 0],[(0,[.bs B,.int .i64 at_,.bool bad])]=>az (Zz (B.length<=140737488355328)) (Zx (.int .u64 (Kerb.xR B at_ bad).val,[[.bs B,.int .i64 (Kerb.xR B at_ bad).pos,.bool (Kerb.xR B at_ bad).bad]]))
 | _,_=>Zy
def Gd:Sp
 | [.bs b],[]=>az (Zz (b.length<=140737488355328)) (Zx (.aQ [.agg [.int .i64 (Kerb.aY b).box.kind,.int .u64 (Kerb.aY b).box.key,.bs (Kerb.aY b).box.body],.int .i64 (Kerb.aY b).n,.int .i64 (Kerb.aY b).err],[]))
 | _,_=>Zy
def Nx:Sp
 | [.bs s,.bool li],[]=>Zx (.aQ [.bs (Kerb.dM s li).val,.int .i64 (Kerb.dM s li).err],[])
 | _,_=>Zy
def Gg:Sp
 | [.bs b],[]=>az (Zz (b.length<=140737488355328)) (Zx (.aQ [.int .i64 (Kerb.io b).kind,.bs (Kerb.io b).plain,.bs (Kerb.io b).iu,.bool (Kerb.io b).aq,.int .i64 (Kerb.io b).err],[]))
 | _,_=>Zy
def Ae:Sp
 | [.bs b,.bs t],[]=>az (Zz (b.length+t.length<=70368744170000)) (Zx (.bs (Kerb.iO b t),[]))
 | _,_=>Zy
def Ah:Sp
 | [.bs b,.bs t],[]=>az (Zz (b.length+t.length<=70368744170000)) (Zx (.bs (Kerb.c7 b t),[]))
 | _,_=>Zy
def sC:Sp
 | [.str s],[]=>az (Zz (s.length<=9223372036854775807)) (Zx (.bool (Kerb.validName s),[]))
 | _,_=>Zy
def pL:Sp
 | [.str s],[]=>az (Zz (s.length<=9223372036854775807)) (Zx (.bool (Kerb.bO s),[]))
 | _,_=>Zy
def xL:Sp
 | [.bs b,.bs t],[]=>az (Zz (b.length+t.length<=70368744170000)) (Zx (.bs (Kerb.c7 b t),[]))
 | _,_=>Zy
def Am:Sp
 | [.bz 0 27 1,.int .i64 a,.ptr 2 0],[(0,els),(2,[.int .i64 s])]=>az (Zu els&&Zz ((els.length:Int)<=1152921504606846976)&&Zz (1<=a)&&Zz (a+1<(els.length:Int))&&Zz (0<=s)&&Zz (s<=800)) (Zx (.int .i64 (Kerb.De els a s).1,[els,[.int .i64 (Kerb.De els a s).2]]))
 | _,_=>Zy
def NM:Sp
 | [.agg [.bool li,.str x,.str y,.str z,.int .i64 ad,.int .u64 k,.int .i64 lf,.int .i64 uG,.str sv,.str ins],.int .u64 key],[]=>az (Zz (x.length<=9223372036854775807)&&Zz (y.length<=9223372036854775807)&&Zz (z.length<=9223372036854775807)&&Zz (sv.length<=9223372036854775807)&&Zz (ins.length<=9223372036854775807)&&Zz (0<=k)&&Zz (k<18446744073709551616)&&Zz (0<=key)&&Zz (key<18446744073709551616)) (Zx (.aQ [.bs (Kerb.fz (Kerb.dz.mk li ⟨x,y,z⟩ ad k lf uG sv ins) key).val,.int .i64 (Kerb.fz (Kerb.dz.mk li ⟨x,y,z⟩ ad k lf uG sv ins) key).err],[]))
 | _,_=>Zy
def N':Sp
 | [.agg [.bs dt,.int .i64 tc,.int .i64 ad,.int .i64 tm],.bool li,.int .u64 k],[]=>az (Zz (0<=k)&&Zz (k<18446744073709551616)) (Zx (.aQ [.bs (Kerb.px ⟨dt,tc,ad,tm⟩ li k).val,.int .i64 (Kerb.px ⟨dt,tc,ad,tm⟩ li k).err],[]))
 | _,_=>Zy
def Oa:Sp
 | [.agg [.bs dt,.int .i64 tc,.int .i64 ad,.int .i64 tm],.bool li,.int .u64 k],[]=>az (Zz (0<=k)&&Zz (k<18446744073709551616)) (Zx (.aQ [.bs (Kerb.pw ⟨dt,tc,ad,tm⟩ li k).val,.int .i64 (Kerb.pw ⟨dt,tc,ad,tm⟩ li k).err],[]))
 | _,_=>Zy
def Om:Sp
 | [.bs b],[]=>az (Zz (b.length<=140737488355328)) (Zx (.aQ [.agg [.str ((Kerb.dR b).val).label,.int .i64 ((Kerb.dR b).val).time,.int .i64 ((Kerb.dR b).val).start,.int .i64 ((Kerb.dR b).val).stop,.int .u64 ((Kerb.dR b).val).new],.int .i64 (Kerb.dR b).err],[]))
 | _,_=>Zy
def FW:Sp
 | [.bs b],[]=>az (Zz (b.length<=140737488355328)) (Zx (.bool (Kerb.ox b),[]))
 | _,_=>Zy
def F0:Sp
 | [.bs b],[]=>az (Zz (b.length<=140737488355328)) (Zx (.aQ [.bs (Kerb.jo b).val,.bool (Kerb.jo b).aq,.int .i64 (Kerb.jo b).err],[]))
 | _,_=>Zy
def F2:Sp
 | [.bs b],[]=>az (Zz (b.length<=140737488355328)) (Zx (.aQ [.bs (Kerb.io b).plain,.bs (Kerb.io b).iu,.bool (Kerb.io b).aq,.int .i64 (Kerb.io b).err],[]))
 | _,_=>Zy
def NA:Sp
 | [.agg [.int .i64 op,.int .i64 cd,.bs bx]],[]=>Zx (.aQ [.bs (Kerb.cg ⟨op,cd,bx⟩).val,.int .i64 (Kerb.cg ⟨op,cd,bx⟩).err],[])
 | _,_=>Zy
def Aj:Sp
 | [.str s],[]=>az (Zz (s.length<=9223372036854775807)) (Zx (.bool (Kerb.c4 s),[]))
 | _,_=>Zy
def Gw:Sp
 | [.bz 0 27 1,.int .i64 a,.int .i64 b],[(0,els)]=>az (Zu els&&Zz ((els.length:Int)<=1152921504606846976)&&Zz (0<=a)&&Zz (a<=b)&&Zz (b<=(els.length:Int))&&Zz (a+8<=b)) (Zx (.aQ [.int .i64 (Kerb.FG els a b).1,.int .i64 (Kerb.ER (Kerb.FG els a b).2)],[els]))
 | _,_=>Zy
def Sl:Sp
 | [.agg [.u8 kd,.u8 bx,.u8 se,.u8 fN,.u8 de,.bool li,.int .u16 hw]],[]=>Zx (.bs (Kerb.m6 fN de),[])
 | _,_=>Zy
def Be:Sp
 | [.sl 1 bs],[]=>az (Kerb.rM bs) (Zx (.sl 1 (Kerb.cQ (Kerb.gJ (Kerb.qo bs))),[]))
 | _,_=>Zy
def F4:Sp
 | [.bs b],[]=>az (Zz (b.length<=140737488355328)) (Zx (.aQ [.agg [.int .i64 ((Kerb.dC b).val).op,.int .i64 ((Kerb.dC b).val).code,.bs ((Kerb.dC b).val).box],.int .i64 (Kerb.dC b).err],[]))
 | _,_=>Zy
def Ab:Sp
 | [.agg [.bool li,.bool mu,.int .i64 kv,.str rl,.bs tk,.bs au]],[]=>az (Zz (rl.length<=9223372036854775807)) (Zx (.aQ [.bs (Kerb.cH (Kerb.cS.mk li mu kv rl tk au)).val,.int .i64 (Kerb.cH (Kerb.cS.mk li mu kv rl tk au)).err],[]))
 | _,_=>Zy
def lW:Sp
 | [.agg [.str a,.str b,.str c]],[]=>az (Zz (a.length<=9223372036854775807)&&Zz (b.length<=9223372036854775807)&&Zz (c.length<=9223372036854775807)) (Zx (.bool (Kerb.aZ.valid ⟨a,b,c⟩),[]))
 | _,_=>Zy
def sq(xP:Nat):Sp
 | [.bz 0 27 1,.int .i64 a,.int .i64 b,.int .i64 l],[(0,els)]=>az ((Zu els&&Zz ((els.length:Int)<=1152921504606846976)&&Kerb.nn a&&Zz (a<=b)&&Zz (b<=(els.length:Int))&&Zz (0<=l)&&Zz (l<=64))&&Zz (b-a<(xP:Int))) (Zx (.aQ [],[Kerb.MR els a b l]))
 | _,_=>Zy
def Cb:Sp
 | [.bz 0 27 1,.int .i64 a,.int .i64 b,.int .i64 l],[(0,els)]=>az (Zu els&&Zz ((els.length:Int)<=1152921504606846976)&&Kerb.nn a&&Zz (a<=b)&&Zz (b<=(els.length:Int))&&Zz (0<=l)&&Zz (l<=64)) (Zx (.aQ [],[Kerb.MR els a b l]))
 | _,_=>Zy
def Ni:Sp
 | [.agg [.u8 kd,.u8 bx,.u8 se,.u8 fN,.u8 de,.bool li,.int .u16 hw]],[]=>az (Zz (0<=hw)&&Zz (hw<=65535)) (Zx (.bs (Kerb.tp ⟨kd,bx,se,fN,de,li,hw⟩),[]))
 | _,_=>Zy
def FY:Sp
 | [.bs b],[]=>az (Zz (b.length<=140737488355328)) (Zx (.aQ [.agg [.bool ((Kerb.fU b).val).aq,.bool ((Kerb.fU b).val).gA,.int .i64 ((Kerb.fU b).val).bP,.str ((Kerb.fU b).val).aJ,.bs ((Kerb.fU b).val).aN,.bs ((Kerb.fU b).val).fA],.int .i64 (Kerb.fU b).err],[]))
 | _,_=>Zy
def vW:Sp
 | [.bs b,.int .i64 pos],[]=>az (Zz (b.length<=4611686018427387904)) (Zx (.aQ [.agg [.str (Kerb.ia b pos).val.name,.str (Kerb.ia b pos).val.inst,.str (Kerb.ia b pos).val.aJ],.int .i64 (Kerb.ia b pos).next,.int .i64 (Kerb.ia b pos).err],[]))
 | _,_=>Zy
def F9:Sp
 | [.agg [.int .u64 k,.str x,.str y,.str z,.int .i64 lf,.int .i64 kv,.bs tk,.int .i64 t],.bool aq],[]=>az (Zz (x.length<=9223372036854775807)&&Zz (y.length<=9223372036854775807)&&Zz (z.length<=9223372036854775807)&&Zz (0<=k)&&Zz (k<18446744073709551616)) (Zx (.aQ [.bs (Kerb.cX ⟨k,⟨x,y,z⟩,lf,kv,tk,t⟩ aq).val,.int .i64 (Kerb.cX ⟨k,⟨x,y,z⟩,lf,kv,tk,t⟩ aq).err],[]))
 | _,_=>Zy
def Gb:Sp
 | [.agg [.str cx,.str cy,.str cz,.str sx,.str sy,.str sz,.int .u64 k,.int .i64 t,.int .i64 e,.int .i64 a]],[]=>az (Zz (cx.length<=9223372036854775807)&&Zz (cy.length<=9223372036854775807)&&Zz (cz.length<=9223372036854775807)&&Zz (sx.length<=9223372036854775807)&&Zz (sy.length<=9223372036854775807)&&Zz (sz.length<=9223372036854775807)&&Zz (0<=k)&&Zz (k<18446744073709551616)) (Zx (.aQ [.bs (Kerb.eN ⟨⟨cx,cy,cz⟩,⟨sx,sy,sz⟩,k,t,e,a⟩).val,.int .i64 (Kerb.eN ⟨⟨cx,cy,cz⟩,⟨sx,sy,sz⟩,k,t,e,a⟩).err],[]))
 | _,_=>Zy
def Gc:Sp
 | [.agg [.int .u64 k,.str sx,.str sy,.str sz,.int .i64 t,.int .i64 e,.bs rc]],[]=>az (Zz (sx.length<=9223372036854775807)&&Zz (sy.length<=9223372036854775807)&&Zz (sz.length<=9223372036854775807)&&Zz (0<=k)&&Zz (k<18446744073709551616)) (Zx (.aQ [.bs (Kerb.dT ⟨k,⟨sx,sy,sz⟩,t,e,rc⟩).val,.int .i64 (Kerb.dT ⟨k,⟨sx,sy,sz⟩,t,e,rc⟩).err],[]))
 | _,_=>Zy
def Ge:Sp
 | [.agg [.bool li,.str x,.str y,.str z,.int .i64 t,.int .i64 ex,.int .i64 kv,.bs sd]],[]=>az (Zz (x.length<=9223372036854775807)&&Zz (y.length<=9223372036854775807)&&Zz (z.length<=9223372036854775807)) (Zx (.aQ [.bs (Kerb.dU ⟨li,⟨x,y,z⟩,t,ex,kv,sd⟩).val,.int .i64 (Kerb.dU ⟨li,⟨x,y,z⟩,t,ex,kv,sd⟩).err],[]))
 | _,_=>Zy
def Gf:Sp
 | [.agg [.bool li,.bool mu,.int .i64 kv,.str rl,.bs tk,.bs au,.int .i64 tm,.int .i64 lf,.str sv,.str ins]],[]=>az (Zz (rl.length<=9223372036854775807)&&Zz (sv.length<=9223372036854775807)&&Zz (ins.length<=9223372036854775807)) (Zx (.aQ [.bs (Kerb.dN (Kerb.ft.mk (Kerb.cS.mk li mu kv rl tk au) tm lf sv ins)).val,.int .i64 (Kerb.dN (Kerb.ft.mk (Kerb.cS.mk li mu kv rl tk au) tm lf sv ins)).err],[]))
 | _,_=>Zy
def Gj:Sp
 | [.agg [.int .i64 op,.str ux,.str uy,.str uz,.bs bx]],[]=>az (Zz (ux.length<=9223372036854775807)&&Zz (uy.length<=9223372036854775807)&&Zz (uz.length<=9223372036854775807)) (Zx (.aQ [.bs (Kerb.eM ⟨op,⟨ux,uy,uz⟩,bx⟩).val,.int .i64 (Kerb.eM ⟨op,⟨ux,uy,uz⟩,bx⟩).err],[]))
 | _,_=>Zy
def NF:Sp
 | [.agg [.bool li,.str x,.str y,.str z,.int .i64 ad,.int .u64 k,.int .i64 lf,.int .i64 uG,.str sv,.str ins]],[]=>az (Zz (x.length<=9223372036854775807)&&Zz (y.length<=9223372036854775807)&&Zz (z.length<=9223372036854775807)&&Zz (sv.length<=9223372036854775807)&&Zz (ins.length<=9223372036854775807)&&Zz (0<=k)&&Zz (k<18446744073709551616)) (Zx (.int .i64 (Kerb.dz.mk li ⟨x,y,z⟩ ad k lf uG sv ins).err,[]))
 | _,_=>Zy
def Gl:Sp
 | [.agg [.str lb,.int .i64 t,.int .u64 k,.int .i64 st,.int .i64 en,.int .i64 kv,.str x,.str y,.str z,.bs tk]],[]=>az (Zz (x.length<=9223372036854775807)&&Zz (y.length<=9223372036854775807)&&Zz (z.length<=9223372036854775807)&&Zz (0<=k)&&Zz (k<18446744073709551616)) (Zx (.int .i64 (Kerb.bm ⟨lb,t,k,st,en,kv,⟨x,y,z⟩,tk⟩).err,[]))
 | _,_=>Zy
def Gm:Sp
 | [.bz 0 27 1],[(0,els)]=>az (Zu els&&Zz ((els.length:Int)<=1152921504606846976)) (Zx (.aQ [],[Kerb.xJ els]))
 | _,_=>Zy
def Gq:Sp
 | [.agg [.int .i64 op,.str ux,.str uy,.str uz,.int .i64 kv,.str rl,.bs tk,.str sv,.str ins,.bs bx]],[]=>az (Zz (ux.length<=9223372036854775807)&&Zz (uy.length<=9223372036854775807)&&Zz (uz.length<=9223372036854775807)&&Zz (rl.length<=9223372036854775807)&&Zz (sv.length<=9223372036854775807)&&Zz (ins.length<=9223372036854775807)) (Zx (.int .i64 (Kerb.aV ⟨op,⟨ux,uy,uz⟩,kv,rl,tk,sv,ins,bx⟩).err,[]))
 | _,_=>Zy
def Qw:Sp
 | [.agg [.u8 kd,.u8 bx,.u8 se,.u8 fN,.u8 de,.bool li,.int .u16 hw]],[]=>az (Zz (0<=hw)&&Zz (hw<=65535)) (Zx (.bs (Kerb.pz ⟨kd,bx,se,fN,de,li,hw⟩),[]))
 | _,_=>Zy
def KL:Sp
 | [.bs b,.bool aq],[]=>az (Zz (b.length<=140737488355328)) (Zx (.aQ [.agg [.int .u64 ((Kerb.ca b aq).val).aG,.str ((Kerb.ca b aq).val).service.name,.str ((Kerb.ca b aq).val).service.inst,.str ((Kerb.ca b aq).val).service.aJ,.int .i64 ((Kerb.ca b aq).val).cj,.int .i64 ((Kerb.ca b aq).val).bP,.bs ((Kerb.ca b aq).val).aN,.int .i64 ((Kerb.ca b aq).val).time],.int .i64 (Kerb.ca b aq).err],[]))
 | _,_=>Zy
def FX:Sp
 | [.bs b],[]=>az (Zz (b.length<=140737488355328)) (Zx (.aQ [.agg [.bool ((Kerb.bK b).val).aq,.str ((Kerb.bK b).val).client.name,.str ((Kerb.bK b).val).client.inst,.str ((Kerb.bK b).val).client.aJ,.int .i64 ((Kerb.bK b).val).time,.int .i64 ((Kerb.bK b).val).dZ,.int .i64 ((Kerb.bK b).val).bP,.bs ((Kerb.bK b).val).iu],.int .i64 (Kerb.bK b).err],[]))
 | _,_=>Zy
def FZ:Sp
 | [.bs b],[]=>az (Zz (b.length<=140737488355328)) (Zx (.aQ [.agg [.bool ((Zj b).val).ap.aq,.bool ((Zj b).val).ap.gA,.int .i64 ((Zj b).val).ap.bP,.str ((Zj b).val).ap.aJ,.bs ((Zj b).val).ap.aN,.bs ((Zj b).val).ap.fA,.int .i64 ((Zj b).val).time,.int .i64 ((Zj b).val).cj,.str ((Zj b).val).service,.str ((Zj b).val).inst],.int .i64 (Zj b).err],[]))
 | _,_=>Zy
def F8:Sp
 | [.agg [.bool li,.str x,.str y,.str z,.int .i64 ad,.int .u64 k,.int .i64 lf,.int .i64 uG,.str sv,.str ins]],[]=>az (Zz (x.length<=9223372036854775807)&&Zz (y.length<=9223372036854775807)&&Zz (z.length<=9223372036854775807)&&Zz (sv.length<=9223372036854775807)&&Zz (ins.length<=9223372036854775807)&&Zz (0<=k)&&Zz (k<18446744073709551616)) (Zx (.aQ [.bs (Kerb.bR (Kerb.dz.mk li ⟨x,y,z⟩ ad k lf uG sv ins)).val,.int .i64 (Kerb.bR (Kerb.dz.mk li ⟨x,y,z⟩ ad k lf uG sv ins)).err],[]))
 | _,_=>Zy
def F':Sp
 | [.ptr 0 0],[(0,[.bs B,.int .i64 at_,.bool bad])]=>az (Zz (B.length<=140737488355328)) (Zx (.agg [.str (Kerb.mR B at_ bad).val.name,.str (Kerb.mR B at_ bad).val.inst,.str (Kerb.mR B at_ bad).val.aJ],[[.bs B,.int .i64 (Kerb.mR B at_ bad).pos,.bool (Kerb.mR B at_ bad).bad]]))
 | _,_=>Zy
def Ga:Sp
 | [.agg [.str lb,.int .i64 t,.int .u64 k,.int .i64 st,.int .i64 en,.int .i64 kv,.str x,.str y,.str z,.bs tk]],[]=>az (Zz (x.length<=9223372036854775807)&&Zz (y.length<=9223372036854775807)&&Zz (z.length<=9223372036854775807)&&Zz (0<=k)&&Zz (k<18446744073709551616)) (Zx (.aQ [.bs (Kerb.bm ⟨lb,t,k,st,en,kv,⟨x,y,z⟩,tk⟩).val,.int .i64 (Kerb.bm ⟨lb,t,k,st,en,kv,⟨x,y,z⟩,tk⟩).err],[]))
 | _,_=>Zy
def tI:Sp
 | [.ptr 0 0],[(0,[.bs B,.int .i64 at_,.bool bad])]=>az (Zz (B.length<=140737488355328)) (Zx (.agg [.str (Kerb.kU B at_ bad).val.name,.str (Kerb.kU B at_ bad).val.inst,.str (Kerb.kU B at_ bad).val.aJ],[[.bs B,.int .i64 (Kerb.kU B at_ bad).pos,.bool (Kerb.kU B at_ bad).bad]]))
 | _,_=>Zy
def Nt:Sp
 | [.sl 1 l,.int .u64 k],[]=>az (Zu l&&Kerb.Jh (Kerb.AL l k)&&Zz ((l.length:Int)<=100000000)) (Zx (.aF (Kerb.AL l k),[]))
 | _,_=>Zy
def Nz:Sp
 | [.agg [.int .i64 op,.str ux,.str uy,.str uz,.int .i64 kv,.str rl,.bs tk,.str sv,.str ins,.bs bx]],[]=>az (Zz (ux.length<=9223372036854775807)&&Zz (uy.length<=9223372036854775807)&&Zz (uz.length<=9223372036854775807)&&Zz (rl.length<=9223372036854775807)&&Zz (sv.length<=9223372036854775807)&&Zz (ins.length<=9223372036854775807)) (Zx (.aQ [.bs (Kerb.aV ⟨op,⟨ux,uy,uz⟩,kv,rl,tk,sv,ins,bx⟩).val,.int .i64 (Kerb.aV ⟨op,⟨ux,uy,uz⟩,kv,rl,tk,sv,ins,bx⟩).err],[]))
 | _,_=>Zy
def Ol:Sp
 | [.bs b],[]=>az (Zz (b.length<=140737488355328)) (Zx (.aQ [.agg [.bool ((Zp b).val).aq,.str ((Zp b).val).client.name,.str ((Zp b).val).client.inst,.str ((Zp b).val).client.aJ,.int .i64 ((Zp b).val).address,.int .u64 ((Zp b).val).aG,.int .i64 ((Zp b).val).cj,.int .i64 ((Zp b).val).cE,.str ((Zp b).val).service,.str ((Zp b).val).inst],.int .i64 (Zp b).err],[]))
 | _,_=>Zy
def On:Sp
 | [.bs b],[]=>az (Zz (b.length<=140737488355328)) (Zx (.aQ [.agg [.str ((Zf b).val).label,.int .i64 ((Zf b).val).time,.int .u64 ((Zf b).val).aG,.int .i64 ((Zf b).val).start,.int .i64 ((Zf b).val).stop,.int .i64 ((Zf b).val).bP,.str ((Zf b).val).service.name,.str ((Zf b).val).service.inst,.str ((Zf b).val).service.aJ,.bs ((Zf b).val).aN],.int .i64 (Zf b).err],[]))
 | _,_=>Zy
def Oo:Sp
 | [.bs b],[]=>az (Zz (b.length<=140737488355328)) (Zx (.aQ [.agg [.str ((Zk b).val).client.name,.str ((Zk b).val).client.inst,.str ((Zk b).val).client.aJ,.str ((Zk b).val).service.name,.str ((Zk b).val).service.inst,.str ((Zk b).val).service.aJ,.int .u64 ((Zk b).val).aG,.int .i64 ((Zk b).val).start,.int .i64 ((Zk b).val).stop,.int .i64 ((Zk b).val).addr],.int .i64 (Zk b).err],[]))
 | _,_=>Zy
def Oq:Sp
 | [.bs b],[]=>az (Zz (b.length<=140737488355328)) (Zx (.aQ [.agg [.int .u64 ((Kerb.dp b).val).aG,.str ((Kerb.dp b).val).service.name,.str ((Kerb.dp b).val).service.inst,.str ((Kerb.dp b).val).service.aJ,.int .i64 ((Kerb.dp b).val).start,.int .i64 ((Kerb.dp b).val).stop,.bs ((Kerb.dp b).val).record],.int .i64 (Kerb.dp b).err],[]))
 | _,_=>Zy
def F3:Sp
 | [.bs b],[]=>az (Zz (b.length<=140737488355328)) (Zx (.aQ [.agg [.int .i64 ((Zd b).val).op,.str ((Zd b).val).user.name,.str ((Zd b).val).user.inst,.str ((Zd b).val).user.aJ,.int .i64 ((Zd b).val).bP,.str ((Zd b).val).aJ,.bs ((Zd b).val).aN,.str ((Zd b).val).service,.str ((Zd b).val).inst,.bs ((Zd b).val).box],.int .i64 (Zd b).err],[]))
 | _,_=>Zy
def F5:Sp
 | [.bs b],[]=>az (Zz (b.length<=140737488355328)) (Zx (.aQ [.agg [.int .i64 ((Kerb.fu b).val).op,.str ((Kerb.fu b).val).name.name,.str ((Kerb.fu b).val).name.inst,.str ((Kerb.fu b).val).name.aJ,.bs ((Kerb.fu b).val).box],.int .i64 (Kerb.fu b).err],[]))
 | _,_=>Zy
def PR:Sp
 | [.agg [.int .i64 kd,.int .u64 k,.bs b]],[]=>az (Zz (b.length<=70368744170000)) (Zx (.aQ [.sl 1 (Kerb.cZ (Kerb.k_ ⟨kd,k,b⟩).keys),.sl 1 (Kerb.cQ (Kerb.k_ ⟨kd,k,b⟩).boxes)],[]))
 | _,_=>Zy
def Ob:Sp
 | [.bs b],[]=>az (Zz (b.length<=70368744170000)) (Zx (.sl 1 (Kerb.cQ (Kerb.nZ b)),[]))
 | _,_=>Zy
def Sj:Sp
 | [.bs b],[]=>az (Zz (b.length<=70368744170000)) (Zx (.sl 1 (Kerb.cQ (Kerb.partsOf b)),[]))
 | _,_=>Zy
def B_(xP:Nat):Sp
 | [.ptr 0 0,.bs b],[(0,[.sl 1 ks,.sl 1 bs])]=>az ((Kerb.td ks bs&&Zz (b.length<=70368744170000))&&Zz ((b.length:Int)<(xP:Int))) (Zx (.bool !(Kerb.cq (Zg ks bs) b),[[.sl 1 ks,.sl 1 bs]]))
 | _,_=>Zy
def Ca:Sp
 | [.ptr 0 0,.bs b],[(0,[.sl 1 ks,.sl 1 bs])]=>az (Kerb.td ks bs&&Zz (b.length<=70368744170000)) (Zx (.bool !(Kerb.cq (Zg ks bs) b),[[.sl 1 ks,.sl 1 bs]]))
 | _,_=>Zy
def KJ:Sp
 | [.agg [.sl 1 ks,.sl 1 bs],.bs b],[]=>az (Kerb.td ks bs&&Zz (b.length<=70368744160000)) (Zx (.bool (Kerb.kM (Zg ks bs) b),[]))
 | _,_=>Zy
def N8:Sp
 | [.agg [.sl 1 ks,.sl 1 bs],.bs b],[]=>az (Kerb.td ks bs&&Zz (b.length<=70368744170000)) (Zx (.bool (Kerb.cq (Zg ks bs) b),[]))
 | _,_=>Zy
def KH:Sp
 | [.agg [.sl 1 ks,.sl 1 bs],.bs b],[]=>az (Kerb.td ks bs&&Zz (Kerb.lT (Zg ks bs)+2*b.length+2100<=1000000)) (Zx (.agg [.sl 1 (Kerb.cZ (Kerb.learn (Zg ks bs) b).keys),.sl 1 (Kerb.cQ (Kerb.learn (Zg ks bs) b).boxes)],[]))
 | _,_=>Zy
def N3:Sp
 | [.agg [.sl 1 ks,.sl 1 bs],.int .u64 k],[]=>az (Kerb.td ks bs&&Zz (0<=k)&&Zz (k<18446744073709551616)&&Zz (Kerb.lT (Zg ks bs)+1<=1000000)) (Zx (.agg [.sl 1 (Kerb.cZ (Kerb.leak (Zg ks bs) k).keys),.sl 1 (Kerb.cQ (Kerb.leak (Zg ks bs) k).boxes)],[]))
 | _,_=>Zy
def ZK:Sp
 | [],[]=>Zx (.bool Zn,[])
 | _,_=>Zy
def Nu:Sp
 | [.sl 7 ls,.bs lk,.int .i64 tn],[]=>az (ls.all Kerb.nf&&Zz (ls.length<=10)&&Zz (0<=tn)&&Zz (tn<=255)) (Zx (.agg [.sl 1 (Kerb.cZ (Kerb.oe ls lk tn).keys),.sl 1 (Kerb.cQ (Kerb.oe ls lk tn).boxes)],[]))
 | _,_=>Zy
def ZJ:Sp
 | [.sl 7 ls,.bs lk,.agg [.u8 kd,.u8 bx,.u8 se,.u8 fN,.u8 de,.bool li,.int .u16 hw]],[]=>az (ls.all Kerb.nf&&Zz (0<=hw)&&Zz (hw<=65535)) (Zx (.bool Zn,[]))
 | _,_=>Zy
def qK{β:Type}(a:List AV)(f:List UInt8->Int->Int->Option β):Option β:=Option.bind (qH a []) (kT fun l=>bq l fun p1 l=>ak .i64 l fun p2 l=>ak .i64 l fun p3 l=>aw l (f p1 p2 p3))
def Jb{β:Type}(a:List AV)(f:Int->Int->Int->Option β):Option β:=Option.bind (Ac a []) (kT fun l=>ak .i64 l fun p1 l=>ak .i64 l fun p2 l=>ak .i64 l fun p3 l=>aw l (f p1 p2 p3))
def SH{β:Type}(a:List AV)(f:List UInt8->List UInt8->List UInt8->Option β):Option β:=Option.bind (H4 a []) (kA fun l=>aK l fun p1 l=>aK l fun p2 l=>aK l fun p3 l=>aw l (f p1 p2 p3))
def C67{β:Type}(a:List AV)(f:List UInt8->Int->Option β):Option β:=Option.bind (Og a []) (kT fun l=>ay l fun x l=>AV.eF x fun p1=>ak .i64 l fun p2 l=>aw l (f p1 p2))
def SI{β:Type}(a:List AV)(f:List UInt8->Int->Option β):Option β:=Option.bind (H6 a []) (kT fun l=>bq l fun p1 l=>ak .i64 l fun p2 l=>aw l (f p1 p2))
def oV{β:Type}(a:List AV)(f:Int->Int->Int->Option β):Option β:=Option.bind (su a []) (kT fun l=>ak .i64 l fun p1 l=>ak .i64 l fun p2 l=>ak .i64 l fun p3 l=>aw l (f p1 p2 p3))
def uH{β:Type}(a:List AV)(f:Int->Int->Int->Option β):Option β:=Option.bind (tH a []) (kT fun l=>ak .i64 l fun p1 l=>ak .i64 l fun p2 l=>ak .i64 l fun p3 l=>aw l (f p1 p2 p3))
def uI{β:Type}(a:List AV)(f:List UInt8->Int->Int->Option β):Option β:=Option.bind (vY a []) (kT fun l=>aK l fun p1 l=>ak .i64 l fun p2 l=>ak .i64 l fun p3 l=>aw l (f p1 p2 p3))
def AK{β:Type}(a:List AV)(f:Int->Int->Int->Option β):Option β:=Option.bind (wc a []) (kT fun l=>ak .i64 l fun p1 l=>ak .i64 l fun p2 l=>ak .i64 l fun p3 l=>aw l (f p1 p2 p3))
def C68{β:Type}(a:List AV)(f:List UInt8->Int->Option β):Option β:=Option.bind (Oh a []) (kT fun l=>bq l fun p1 l=>ak .i64 l fun p2 l=>aw l (f p1 p2))
def C69{β:Type}(a:List AV)(f:List UInt8->Int->Option β):Option β:=Option.bind (Oi a []) (kT fun l=>bq l fun p1 l=>ak .i64 l fun p2 l=>aw l (f p1 p2))
def C70{β:Type}(a:List AV)(f:List UInt8->Int->Option β):Option β:=Option.bind (Oj a []) (kT fun l=>bq l fun p1 l=>ak .i64 l fun p2 l=>aw l (f p1 p2))
def AJ{β:Type}(a:List AV)(f:Int->Bool->Option β):Option β:=Option.bind (vX a []) (kT fun l=>ak .u64 l fun p1 l=>aE l fun p2 l=>aw l (f p1 p2))
def OR{β:Type}(a:List AV)(f:List UInt8->Int->Bool->Option β):Option β:=Option.bind (Gp a []) (kT fun l=>bq l fun p1 l=>ak .i64 l fun p2 l=>aE l fun p3 l=>aw l (f p1 p2 p3))
def VS{β:Type}(a:List AV)(f:List UInt8->Int->Option β):Option β:=Option.bind (KK a []) (kT fun l=>bq l fun p1 l=>ak .i64 l fun p2 l=>aw l (f p1 p2))
def S0{β:Type}(a:List AV)(f:Int->Int->List UInt8->Int->Int->Option β):Option β:=Option.bind (Gd a []) (kT fun l=>ay l fun x l=>AV.eu x fun m=>ak .i64 m fun p1 m=>ak .u64 m fun p2 m=>bq m fun p3 m=>aw m (ak .i64 l fun p4 l=>ak .i64 l fun p5 l=>aw l (f p1 p2 p3 p4 p5)))
def AH{β:Type}(a:List AV)(f:List UInt8->List UInt8->List UInt8->Int->Int->Option β):Option β:=Option.bind (vW a []) (kT fun l=>ay l fun x l=>AV.eu x fun m=>aK m fun p1 m=>aK m fun p2 m=>aK m fun p3 m=>aw m (ak .i64 l fun p4 l=>ak .i64 l fun p5 l=>aw l (f p1 p2 p3 p4 p5)))
def C15{β:Type}(a:List AV)(f:List AV->List AV->Option β):Option β:=Option.bind (PR a []) (kT fun l=>ci 1 l fun p1 l=>ci 1 l fun p2 l=>aw l (f p1 p2))
def VR{β:Type}(a:List AV)(f:List AV->List AV->Option β):Option β:=Option.bind (KH a []) (kA fun l=>ci 1 l fun p1 l=>ci 1 l fun p2 l=>aw l (f p1 p2))
def C27{β:Type}(a:List AV)(f:List AV->List AV->Option β):Option β:=Option.bind (N3 a []) (kA fun l=>ci 1 l fun p1 l=>ci 1 l fun p2 l=>aw l (f p1 p2))
def C18{β:Type}(a:List AV)(f:List AV->List AV->Option β):Option β:=Option.bind (Nu a []) (kA fun l=>ci 1 l fun p1 l=>ci 1 l fun p2 l=>aw l (f p1 p2))
def KN:List (Nat×Nat×List CT×Sp):=[(17,1,[.sl 1,.sl 1],Nq),(21,1,[.int .i64],H2),(24,1,[.int .i64],NR),(46,1,[.ff,.int .u16],H5),(89,1,[.ptr,.int .i64],xd),(90,1,[.int .i64],Sw),(92,1,[.int .i64,.int .i64],Sx),(94,1,[.int .i64,.bool],Sy),(95,1,[.ff,.str],oa),(107,1,[.int .i64,.int .i64],Nf),(113,1,[.int .i64],Ng),(114,1,[.int .i64,.int .i64],Nh),(138,1,[.int .u64],lI),(139,1,[.ff],ii),(142,1,[.int .i64,.int .i64],Nk),(144,1,[.int .i64,.int .i64],Nl),(152,1,[.ff,.ff],Nm),(156,1,[.str],Nn),(159,1,[.str],Np),(170,1,[.sl 1],Nr),(171,1,[.sl 1],Ns),(174,1,[.str,.str],wa),(175,1,[.ff,.int .i64,.int .i64,.bool],wb),(184,1,[],Nv),(205,1,[.int .i64,.int .i64],NB),(206,1,[.int .i64,.int .i64],NC),(207,1,[.int .i64,.int .i64],ND),(210,1,[.ff,.int .i64,.int .i64],wg),(211,1,[.ff],Ad),(218,1,[.int .u64],sB),(221,1,[.int .i64,.int .i64],NH),(222,1,[.ptr,.int .i64,.int .i64],NI),(226,1,[.ptr,.int .i64,.int .i64],NJ),(229,1,[.int .i64,.int .i64],NL),(233,1,[.int .i64],NN),(234,1,[.int .i64],NP),(238,1,[.int .i64],NQ),(241,1,[.int .i64,.sl 1],Gn),(245,1,[.int .i64,.int .i64],NU),(251,1,[.int .i64],NW),(252,1,[.int .i64,.int .i64],NX),(254,1,[.ff,.u8],NY),(255,1,[.int .i64,.int .i64],NZ),(257,1,[.other,.other],Gr),(258,1,[.other,.other],Gs),(261,1,[.int .i64],N0),(267,1,[.sl 1,.int .i64,.int .i64],Gx),(273,1,[.int .u64],Gz),(277,1,[.ptr],GB),(280,1,[.int .u64],N5),(283,1,[.str,.u8],N7),(29,2,[.u8],Sk),(60,2,[.u8],Sr),(91,2,[.str],DK),(93,2,[.ff,.int .i64],hX),(105,2,[.int .i64],z3),(108,2,[.ff,.other],iP),(109,2,[.ff,.int .i64,.bool],ew),(110,2,[.ff,.int .i64,.bool],kC),(111,2,[.str],sr),(112,2,[.str],ss),(136,2,[.int .u64],m4),(148,2,[.ff,.int .i64,.int .i64],qH),(177,2,[.int .u64],z_),(208,2,[.ff,.int .i64,.int .i64,.bool],Ac),(212,2,[.ff,.u8],NE),(217,2,[.sl 1],NG),(228,2,[.int .i64,.int .i64],NK),(240,2,[.ff],NS),(242,2,[.int .i64,.bool],NT),(260,2,[.int .u64],Ak),(269,2,[.int .u64,.int .u64],N1),(281,2,[.str,.u8],N6),(25,3,[.other],NV),(36,3,[.int .i64],H4),(40,3,[.ff,.bool],Sn),(42,3,[.other],Sq),(59,3,[.int .i64],Oc),(67,3,[.other],Og),(71,3,[.int .i64,.int .u64,.ff],H6),(97,3,[.int .u64],xe),(106,3,[.other],ji),(116,3,[.ff,.ff,.bool],xK),(141,3,[.ff,.bool],Nj),(143,3,[.int .u64],z6),(145,3,[.ff,.int .i64],su),(147,3,[.ff,.int .i64,.bool],tH),(150,3,[.ff,.int .i64],vY),(154,3,[.ptr,.int .i64],qI),(167,3,[.ptr,.int .i64],v_),(185,3,[.ff,.sl 1],Nw),(186,3,[.ff,.int .i64,.bool],wc),(219,3,[.ff,.str],oF),(220,3,[.ff],pK),(227,3,[.int .u64],Ag),(256,3,[.ff,.int .i64,.int .i64,.bool],wh),(263,3,[.sl 1,.int .i64,.int .i64],Gt),(268,3,[.sl 1,.int .i64,.int .i64],Gy),(270,3,[.sl 1,.int .i64,.int .i64,.int .i64],Cc),(271,3,[.sl 1,.int .i64,.int .i64,.int .i64],Cd),(274,3,[.str,.u8],N4),(275,3,[.sl 1,.int .i64,.int .i64,.int .i64],Ce),(276,3,[.int .i64],GA),(282,3,[.sl 1,.int .i64,.int .i64,.ptr],An),(22,4,[.ff],H3),(37,4,[.other],N9),(39,4,[.other],Sm),(41,4,[.other],So),(43,4,[.other],N_),(63,4,[.ff],Ss),(64,4,[.other,.bool],Oe),(65,4,[.other,.bool],Su),(66,4,[.other,.bool],Sv),(68,4,[.other],Oh),(69,4,[.other],Oi),(70,4,[.other],Oj),(73,4,[.sl 1],Ao),(137,4,[.other],F6),(140,4,[.other],F7),(149,4,[.ff],vX),(155,4,[.ptr],sA),(160,4,[.ptr],vZ),(165,4,[.ptr],tJ),(168,4,[.ptr],z9),(188,4,[.ff],Aa),(193,4,[.ptr],Ny),(194,4,[.ptr],Gh),(197,4,[.ptr],Gi),(214,4,[.ff,.int .i64],pJ),(215,4,[.ff,.other],oE),(216,4,[.ff,.int .i64,.bool],kD),(223,4,[.other],Gk),(243,4,[.ff,.int .i64,.bool],Ai),(248,4,[.ff,.int .i64,.int .i64,.bool],Gp),(262,4,[.str,.str],Al),(264,4,[.sl 1,.int .i64,.int .i64],Gu),(265,4,[.sl 1,.int .i64,.int .i64],Gv),(279,4,[.sl 1,.int .i64,.int .i64,.int .i64,.ptr],xM),(61,5,[.other],KK),(62,5,[.other,.bool],Od),(115,5,[.other,.bool,.int .i64,.int .u64],z4),(157,5,[.ptr],z7),(158,5,[.other],F_),(164,5,[.ptr],z8),(182,5,[.ff],Gd),(191,5,[.ff,.bool],Nx),(192,5,[.ff],Gg),(225,5,[.ff,.ff],Ae),(230,5,[.ff,.ff],Ah),(246,5,[.str],sC),(247,5,[.str],pL),(250,5,[.ff,.ff],xL),(278,5,[.sl 1,.int .i64,.ptr],Am),(23,6,[.other,.int .u64],NM),(44,6,[.other,.bool,.int .u64],N'),(45,6,[.other,.bool,.int .u64],Oa),(75,6,[.ff],Om),(117,6,[.ff],FW),(121,6,[.ff],F0),(122,6,[.ff],F2),(196,6,[.other],NA),(244,6,[.str],Aj),(266,6,[.sl 1,.int .i64,.int .i64],Gw)]
def KO:List (Nat×Nat×List CT×Sp):=[(38,7,[.other],Sl),(47,7,[.sl 1],Be),(124,7,[.ff],F4),(189,7,[.other],Ab),(209,7,[.other],lW),(259,7,[.sl 1,.int .i64,.int .i64,.int .i64],Cb),(14,8,[.other],Ni),(119,8,[.ff],FY),(146,8,[.ff,.int .i64],vW),(153,8,[.other,.bool],F9),(166,8,[.other],Gb),(169,8,[.other],Gc),(187,8,[.other],Ge),(190,8,[.other],Gf),(198,8,[.other],Gj),(213,8,[.other],NF),(224,8,[.other],Gl),(236,8,[.sl 1],Gm),(249,8,[.other],Gq),(9,9,[.other],Qw),(74,9,[.ff,.bool],KL),(118,9,[.ff],FX),(120,9,[.ff],FZ),(151,9,[.other],F8),(161,9,[.ptr],F'),(162,9,[.other],Ga),(163,9,[.ptr],tI),(179,9,[.sl 1,.int .u64],Nt),(195,9,[.other],Nz),(72,10,[.ff],Ol),(76,10,[.ff],On),(77,10,[.ff],Oo),(78,10,[.ff],Oq),(123,10,[.ff],F3),(125,10,[.ff],F5),(15,11,[.other],PR),(48,11,[.ff],Ob)]
def Ot:List (Nat×Nat×List CT×Sp):=[(11,12,[.ff],Sj),(102,12,[.ptr,.ff],Ca),(31,13,[.other,.ff],KJ),(33,13,[.other,.ff],N8),(19,15,[.other,.ff],KH),(27,15,[.other,.int .u64],N3),(8,16,[],ZK),(18,16,[.sl 7,.ff,.int .i64],Nu),(7,17,[.sl 7,.ff,.other],ZJ)]
def PT:List (Nat×Nat×List CT×Sp):=KN++KO++Ot
def Tp:List (Nat×List AV):=[]
noncomputable def RR:List (Nat×Func):=[(181,Tryz.f181),(232,Tryz.f232),(237,Tryz.f237),(239,Tryz.f239),(86,Tryz.f86),(101,Tryz.f101),(172,Tryz.f172),(176,Tryz.f176),(183,Tryz.f183),(235,Tryz.f235),(87,Tryz.f87),(96,Tryz.f96),(26,Tryz.f26),(178,Tryz.f178),(98,Tryz.f98),(231,Tryz.f231),(173,Tryz.f173),(88,Tryz.f88)]
def look{α:Type}(k:Nat):List (Nat×α)->Option α
 | []=>Zy
 | (j,x)::r=>cond (Nat.beq j k) (Zx x) (look k r)
def My{α:Type}(k m:Nat):List (Nat×Nat×List α)->List α
 | []=>[]
 | (j,i,x)::r=>cond (Nat.beq j k) (cond (Nat.beq i m) x (My k m r)) (My k m r)
noncomputable def G:nE:={ ty:=fun t=>(SB[t]?).join,hJ:=fun f r=>My f r Uw,own:=fun f=>Zr.contains f,pd:=fun q=>look q Tp,rts:=fun f=>look f ZD,uC:=fun f=>look f PT,inl:=fun f=>look f RR }
end
abbrev Wk(f k:Nat)(s:Sp):Prop:=Cq Tryz.prog G f k s
abbrev Rb:=Option (AV×aC)
theorem cw{a c:Rb}(b:Rb)(h:a=b)(g:b=c):a=c:=h.trans g
theorem dA{b:Bool}{v r:AV×aC}(h:az b (Zx v)=Zx r):b=Zn/\v=r:=by
 cases b
 ·cases h
 ·cases h;exact⟨rfl,rfl⟩
theorem UF : (Tryz.prog.funcs.all fun fn => fn.name != "runtime.NumGoroutine") = Zn := by kernel_rfl
theorem cA{f k:Nat}{s:Sp}{fn:Func}(h1:Tryz.prog.funcs[f]? = Zx fn)(h2:G.rts f=Zx fn.resultTypes.toList)(h:∀ xs bl r,s xs bl=Zx r->FM (G.env f k) G.rts (G.own f) fn xs bl=Zx r):Wk f k s :=
 ⟨fn,h1,fun e=>by
  have h0:=UF;rw[Array.all_eq_true_iff_forall_mem] at h0;have:=h0 fn (Array.mem_of_getElem? h1);rw[e] at this;simp at this,h2,h⟩
end Go.Proofs.YteafbgcimcpfiaaGreat
