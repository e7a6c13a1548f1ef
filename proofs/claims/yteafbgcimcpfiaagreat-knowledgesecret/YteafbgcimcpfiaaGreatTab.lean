/- The table of functions of this seat. -/
import Derived.Test.YteafbgcimcpfiaaGreatAbsPrimL
import Derived.Test.YteafbgcimcpfiaaGreatProg
set_option linter.all false
open Decidable renaming decide→Zz
open Option renaming none→Zy,some→Zx
open Bool renaming false→Zw,true→Zb
open Kerb renaming within→Zv,ep→Zu,get→Zq,df→Zj,c6→Zk,br→Zp,bn→Zd,bY→Zf,aI→Zg
namespace Go.Proofs.YteafbgcimcpfiaaGreat
open Go Go.Abs
noncomputable section
abbrev Sp:=Abs.Spec
def dS:Option TI:=Zx ⟨1,8,.other,[.wT],[.other],[]⟩
def ti1:Option TI:=Zx ⟨1,8,.int .i64,[.int .i64 0],[.int .i64],[.int .i64]⟩
def ti2:Option TI:=Zx ⟨1,1,.u8,[.u8 0],[.u8],[.u8]⟩
def ZG:Option TI:=Zx ⟨1,8,.int .u64,[.int .u64 0],[.int .u64],[.int .u64]⟩
def ti4:Option TI:=Zx ⟨1,8,.struct [(0,17)],[.mc],[.ptr],[]⟩
def ti5:Option TI:=Zx ⟨1,4,.int .i32,[.int .i32 0],[.int .i32],[.int .i32]⟩
def ti6:Option TI:=Zx ⟨7,8,.struct [(0,5),(1,5),(2,5),(3,5),(4,5),(5,4),(6,22)],[.u8 0,.u8 0,.u8 0,.u8 0,.u8 0,.bool Zw,.int .u16 0],[.u8,.u8,.u8,.u8,.u8,.bool,.int .u16],[.u8,.u8,.u8,.u8,.u8,.bool,.int .u16]⟩
def ti7:Option TI:=Zx ⟨3,40,.struct [(0,3),(1,27),(2,25)],[.int .i64 0,.int .u64 0,.cY],[.int .i64,.int .u64,.fT],[]⟩
def ti8:Option TI:=Zx ⟨2,48,.struct [(0,39),(1,32)],[.cY,.cY],[.sl 1,.sl 1],[]⟩
def ti9:Option TI:=Zx ⟨3,48,.struct [(0,9),(1,9),(2,9)],[.str [],.str [],.str []],[.str,.str,.str],[.str,.str,.str]⟩
def Y8:Option TI:=Zx ⟨10,120,.struct [(0,4),(1,53),(4,3),(5,27),(6,3),(7,3),(8,9),(9,9)],[.bool Zw,.str [],.str [],.str [],.int .i64 0,.int .u64 0,.int .i64 0,.int .i64 0,.str [],.str []],[.bool,.str,.str,.str,.int .i64,.int .u64,.int .i64,.int .i64,.str,.str],[.bool,.str,.str,.str,.int .i64,.int .u64,.int .i64,.int .i64,.str,.str]⟩
def Y9:Option TI:=Zx ⟨6,80,.struct [(0,4),(1,4),(2,3),(3,9),(4,25),(5,25)],[.bool Zw,.bool Zw,.int .i64 0,.str [],.cY,.cY],[.bool,.bool,.int .i64,.str,.fT,.fT],[]⟩
def Y_:Option TI:=Zx ⟨8,104,.struct [(0,4),(1,53),(4,3),(5,3),(6,3),(7,25)],[.bool Zw,.str [],.str [],.str [],.int .i64 0,.int .i64 0,.int .i64 0,.cY],[.bool,.str,.str,.str,.int .i64,.int .i64,.int .i64,.fT],[]⟩
def Y':Option TI:=Zx ⟨10,128,.struct [(0,61),(6,3),(7,3),(8,9),(9,9)],[.bool Zw,.bool Zw,.int .i64 0,.str [],.cY,.cY,.int .i64 0,.int .i64 0,.str [],.str []],[.bool,.bool,.int .i64,.str,.fT,.fT,.int .i64,.int .i64,.str,.str],[]⟩
def Za:Option TI:=Zx ⟨10,160,.struct [(0,3),(1,53),(4,3),(5,9),(6,25),(7,9),(8,9),(9,25)],[.int .i64 0,.str [],.str [],.str [],.int .i64 0,.str [],.cY,.str [],.str [],.cY],[.int .i64,.str,.str,.str,.int .i64,.str,.fT,.str,.str,.fT],[]⟩
def Zc:Option TI:=Zx ⟨3,40,.struct [(0,3),(1,35),(2,25)],[.int .i64 0,.int .i64 0,.cY],[.int .i64,.int .i64,.fT],[]⟩
def Ze:Option TI:=Zx ⟨5,80,.struct [(0,3),(1,53),(4,25)],[.int .i64 0,.str [],.str [],.str [],.cY],[.int .i64,.str,.str,.str,.fT],[]⟩
def Zi:Option TI:=Zx ⟨4,48,.struct [(0,25),(1,3),(2,3),(3,3)],[.cY,.int .i64 0,.int .i64 0,.int .i64 0],[.fT,.int .i64,.int .i64,.int .i64],[]⟩
def Zl:Option TI:=Zx ⟨6,72,.struct [(0,53),(3,3),(4,3),(5,3)],[.str [],.str [],.str [],.int .i64 0,.int .i64 0,.int .i64 0],[.str,.str,.str,.int .i64,.int .i64,.int .i64],[.str,.str,.str,.int .i64,.int .i64,.int .i64]⟩
def Zo:Option TI:=Zx ⟨8,104,.struct [(0,27),(1,53),(4,3),(5,3),(6,25),(7,3)],[.int .u64 0,.str [],.str [],.str [],.int .i64 0,.int .i64 0,.cY,.int .i64 0],[.int .u64,.str,.str,.str,.int .i64,.int .i64,.fT,.int .i64],[]⟩
def Zr:Option TI:=Zx ⟨3,24,.struct [(0,3),(1,3),(2,3)],[.int .i64 0,.int .i64 0,.int .i64 0],[.int .i64,.int .i64,.int .i64],[.int .i64,.int .i64,.int .i64]⟩
def Zs:Option TI:=Zx ⟨5,48,.struct [(0,9),(1,3),(2,3),(3,3),(4,27)],[.str [],.int .i64 0,.int .i64 0,.int .i64 0,.int .u64 0],[.str,.int .i64,.int .i64,.int .i64,.int .u64],[.str,.int .i64,.int .i64,.int .i64,.int .u64]⟩
def Zt:Option TI:=Zx ⟨10,128,.struct [(0,9),(1,3),(2,27),(3,3),(4,3),(5,3),(6,53),(9,25)],[.str [],.int .i64 0,.int .u64 0,.int .i64 0,.int .i64 0,.int .i64 0,.str [],.str [],.str [],.cY],[.str,.int .i64,.int .u64,.int .i64,.int .i64,.int .i64,.str,.str,.str,.fT],[]⟩
def ZA:Option TI:=Zx ⟨10,128,.struct [(0,53),(3,53),(6,27),(7,3),(8,3),(9,3)],[.str [],.str [],.str [],.str [],.str [],.str [],.int .u64 0,.int .i64 0,.int .i64 0,.int .i64 0],[.str,.str,.str,.str,.str,.str,.int .u64,.int .i64,.int .i64,.int .i64],[.str,.str,.str,.str,.str,.str,.int .u64,.int .i64,.int .i64,.int .i64]⟩
def ZB:Option TI:=Zx ⟨7,96,.struct [(0,27),(1,53),(4,3),(5,3),(6,25)],[.int .u64 0,.str [],.str [],.str [],.int .i64 0,.int .i64 0,.cY],[.int .u64,.str,.str,.str,.int .i64,.int .i64,.fT],[]⟩
def ZC:Option TI:=Zx ⟨2,48,.struct [(0,46)],[.cY,.cY],[.sl 1,.sl 1],[]⟩
def ZD:Option TI:=Zx ⟨3,56,.struct [(0,153),(2,154)],[.cY,.cY,.EK],[.sl 1,.sl 1,.other],[]⟩
def ZE:Option TI:=Zx ⟨2,32,.struct [(0,25),(1,3)],[.cY,.int .i64 0],[.fT,.int .i64],[]⟩
def ZF:Option TI:=Zx ⟨4,40,.struct [(0,25),(1,3),(2,4),(3,4)],[.cY,.int .i64 0,.bool Zw,.bool Zw],[.fT,.int .i64,.bool,.bool],[]⟩
def Sk:Option TI:=Zx ⟨3,40,.struct [(0,25),(1,3),(2,4)],[.cY,.int .i64 0,.bool Zw],[.fT,.int .i64,.bool],[]⟩
def VA:List (Option TI):=[
 Zy,dS,ti1,ti1,Zx ⟨1,1,.bool,[.bool Zw],[.bool],[.bool]⟩,ti2,ti2,Zx ⟨4,24,.struct [(0,2),(1,3),(2,4),(3,6)],[.int .i64 0,.int .i64 0,.bool Zw,.u8 0],[.int .i64,.int .i64,.bool,.u8],[.int .i64,.int .i64,.bool,.u8]⟩,Zy,Zx ⟨1,16,.str,[.str []],[.str],[.str]⟩,Zy,Zy,ZG,Zy,Zy,Zx ⟨1,8,.ptr 285,[.mc],[.ptr],[]⟩,Zx ⟨1,8,.ptr 288,[.mc],[.ptr],[]⟩,Zx ⟨1,8,.ptr 296,[.mc],[.ptr],[]⟩,ti4,ti4,Zy,ti5,Zx ⟨1,2,.int .u16,[.int .u16 0],[.int .u16],[.int .u16]⟩,ti6,ti6,Zx ⟨1,24,.slice 5 Zb,[.cY],[.fT],[]⟩,ZG,ZG,ti7,ti7,dS,dS,Zx ⟨1,24,.slice 25 Zw,[.cY],[.sl 1],[]⟩,dS,dS,ti1,Zy,dS,Zx ⟨1,24,.slice 29 Zw,[.cY],[.sl 3],[]⟩,Zx ⟨1,24,.slice 27 Zw,[.cY],[.sl 1],[]⟩,Zy,dS,dS,dS,Zx ⟨1,24,.slice 24 Zw,[.cY],[.sl 7],[]⟩,ti8,ti8,dS,dS,dS,dS,dS,ti9,ti9,Y8,Y8,dS,Zy,dS,dS,Y9,Y9,dS,dS,dS,dS,dS,dS,dS,dS,dS,Y_,Y_,dS,Y',Y',dS,dS,Za,Za,dS,Zc,Zc,dS,Ze,Ze,dS,Zi,Zi,dS,dS,Zy,dS,Zy,dS,Zy,dS,Zy,dS,Zy,dS,Zy,dS,Zy,dS,Zy,dS,Zy,dS,ZG,dS,dS,Zl,Zl,dS,dS,Zo,Zo,dS,Zr,Zr,dS,dS,Zs,Zs,dS,Zt,Zt,dS,ZA,ZA,dS,ZB,ZB,dS,Zy,dS,dS,Zy,dS,Zy,dS,Zy,dS,Zy,dS,Zy,dS,dS,Zx ⟨1,8,.ptr 156,[.mc],[.ptr],[]⟩,dS,dS,ZC,ZC,Zx ⟨1,8,.map 3 4,[.EK],[.other],[]⟩,ZD,ZD,Zx ⟨1,8,.ptr 159,[.mc],[.ptr],[]⟩,ZE,ZE,dS,dS,dS,dS,dS,dS,dS,dS,dS,Zy,dS,dS,Zx ⟨1,8,.ptr 153,[.mc],[.ptr],[]⟩,dS,dS,dS,Zx ⟨1,24,.slice 9 Zw,[.cY],[.sl 1],[]⟩,dS,dS,dS,dS,dS,Zy,dS,dS,Zy,dS,Zx ⟨1,8,.ptr 189,[.mc],[.ptr],[]⟩,ZF,ZF,dS,dS,dS,Zy,dS,Zy,dS,dS,Zx ⟨1,24,.slice 53 Zw,[.cY],[.sl 3],[]⟩,dS,dS,dS,dS,dS,dS,Zy,dS,Zy,dS,dS,Zy,dS,Zy,dS,dS,Sk,Sk,dS,Sk,Sk,dS,dS,dS,dS,Zy,dS,dS,dS,dS,dS,Zy,dS,Zy,dS,Zx ⟨1,24,.slice 3 Zw,[.cY],[.sl 1],[]⟩,dS,dS,dS,Zx ⟨1,8,.ptr 9,[.mc],[.ptr],[]⟩,Zx ⟨1,24,.slice 238 Zw,[.cY],[.sl 1],[]⟩,dS,dS,dS,Zx ⟨1,8,.ptr 216,[.mc],[.ptr],[]⟩,dS,dS,dS,dS,Zx ⟨1,8,.ptr 219,[.mc],[.ptr],[]⟩,dS,dS,dS,dS,dS,Zy,dS,dS,Zx ⟨1,24,.slice 39 Zw,[.cY],[.sl 1],[]⟩,dS,dS,dS,Zx ⟨4,4,.cM 4 5 Zb,[.u8 0,.u8 0,.u8 0,.u8 0],[.u8,.u8,.u8,.u8],[]⟩,dS,ti1,Zy,dS,dS,dS,dS,Zy,dS,dS,Zx ⟨1,4,.int .u32,[.int .u32 0],[.int .u32],[.int .u32]⟩,dS,dS,ZG,dS,dS,dS,Zx ⟨1,8,.ptr 3,[.mc],[.ptr],[]⟩,dS,Zx ⟨1,8,.ptr 275,[.mc],[.ptr],[]⟩,Zy,dS,Zx ⟨4,40,.struct [(0,17),(1,17),(2,17),(3,9)],[.mc,.mc,.mc,.str []],[.ptr,.ptr,.ptr,.str],[]⟩,Zy,Zx ⟨0,0,.cM 0 16 Zw,[],[],[]⟩,Zy,Zy,ti2,ti2,dS,Zx ⟨1,8,.ptr 5,[.mc],[.ptr],[]⟩,ti5,ti5,Zy,Zx ⟨11,48,.struct [(0,12),(1,12),(2,272),(3,289),(4,5),(5,5),(6,290),(7,291),(8,292),(9,293),(10,294)],[.int .u64 0,.int .u64 0,.int .u32 0,.u8 0,.u8 0,.u8 0,.u8 0,.wT,.mc,.int .i32 0,.int .i32 0],[.int .u64,.int .u64,.int .u32,.u8,.u8,.u8,.u8,.other,.ptr,.int .i32,.int .i32],[]⟩,Zy]
def X7:List (Nat×Nat×List iP):=[(5,8000026,[.cells 0 [.bool],.bC 2 2 [8],.bC 8 1 [7],.bC 8 1 [7,7],.bC 8 1 [7,7,7]]),
 (8,8000026,[.cells 0 [.bool],.bC 2 2 [8],.bC 8 1 [7],.bC 8 1 [7,7],.bC 8 1 [7,7,7]]),
 (9,3000006,[.cells 1 [.u8,.u8,.u8,.u8,.u8,.bool,.int .u16],.ptr 1 1 0,.val 2 25,.val 5 25]),
 (14,2000016,[.cells 1 [.u8,.u8,.u8,.u8,.u8,.bool,.int .u16],.ptr 1 1 0,.cells 4 [.str,.str,.str],.ptr 4 4 0,.cells 5 [.str,.str,.str],.ptr 5 5 0,.val 6 3,.val 23 3,.val 86 4,.val 2 25]),
 (14,3000007,[.cells 1 [.u8,.u8,.u8,.u8,.u8,.bool,.int .u16],.ptr 1 1 0,.val 2 25,.val 3 25,.val 6 3]),
 (14,3000030,[.cells 1 [.u8,.u8,.u8,.u8,.u8,.bool,.int .u16],.ptr 1 1 0,.val 2 25,.val 3 25,.val 6 3]),
 (18,3,[.val 0 44,.val 1 25,.val 2 3,.cells 6 [.sl 1,.sl 1],.ptr 6 6 0,.cells 7 [.sl 1,.sl 1],.ptr 7 7 0,.val 8 3]),
 (18,7,[.val 1 25,.val 2 3,.cells 6 [.sl 1,.sl 1],.ptr 6 6 0,.cells 7 [.sl 1,.sl 1],.ptr 7 7 0,.val 9 3]),
 (19,3,[.cells 4 [.sl 1,.sl 1],.ptr 4 4 0,.jR 1000015 [.own 4001 27 1 Zw,.own 4002 25 1 Zw,.qS 4003 Zw .i64],.ptr 5 1000015 0,.val 11 32,.val 12 3,.val 13 3]),
 (27,3000003,[.cells 4 [.sl 1,.sl 1],.ptr 4 4 0,.jR 800015 [.own 4021 27 1 Zw,.own 4022 25 1 Zw,.qS 4023 Zw .i64],.ptr 5 800015 0]),
 (41,2000001,[.cells 1 [.int .i64,.str,.str,.str,.int .i64,.str,.fT,.str,.str,.fT],.ptr 1 1 0,.val 13 4,.val 3 35]),
 (41,2000003,[.cells 1 [.int .i64,.str,.str,.str,.int .i64,.str,.fT,.str,.str,.fT],.ptr 1 1 0,.val 46 4,.val 3 35]),
 (41,2000005,[.cells 1 [.int .i64,.str,.str,.str,.int .i64,.str,.fT,.str,.str,.fT],.ptr 1 1 0,.val 56 4,.val 3 35]),
 (41,2000007,[.cells 1 [.int .i64,.str,.str,.str,.int .i64,.str,.fT,.str,.str,.fT],.ptr 1 1 0,.val 72 4,.val 3 35]),
 (41,2000009,[.cells 1 [.int .i64,.str,.str,.str,.int .i64,.str,.fT,.str,.str,.fT],.ptr 1 1 0,.val 113 4,.val 3 35]),
 (46,1000038,[.val 0 3]),
 (46,1000042,[.val 0 3]),
 (47,3,[.c7 3 25 1 Zw,.val 6 32,.val 7 3,.val 8 3]),
 (71,1000023,[.val 0 3]),
 (73,3,[.c7 3 27 1 Zw,.val 6 39,.val 7 3,.val 8 3]),
 (87,8000172,[.cells 0 [.bool],.bC 12 2 [19]]),
 (88,1,[.val 2 30]),
 (88,5000001,[.jR 9000000 [.own 4001 27 1 Zw,.own 4002 25 1 Zw,.qS 4003 Zw .i64]]),
 (88,6000001,[.bC 6 1 [10],.bC 6 1 [24],.bC 6 1 [24,24],.bC 6 1 [24,5],.bC 6 1 [24,36],.bC 6 1 [24,36,10],.bC 6 1 [24,36,10,2],.bC 6 1 [24,36,10,8],.bC 6 1 [24,36,10,8,7],.bC 6 1 [24,36,10,8,7,7],.bC 6 1 [24,36,10,8,7,7,7],.bC 6 1 [24,45],.bC 6 1 [24,53],.bC 6 1 [24,53,7],.bC 6 1 [24,53,7,7],.bC 6 1 [24,53,7,16],.bC 6 1 [24,53,7,16,10],.bC 6 1 [24,53,7,16,10,2],.bC 6 1 [24,53,7,16,10,8],.bC 6 1 [24,53,7,16,10,8,7],.bC 6 1 [24,53,7,16,10,8,7,7],.bC 6 1 [24,53,7,16,10,8,7,7,7],.bC 6 1 [24,61],.bC 6 1 [24,61,7],.bC 6 1 [24,61,7,7],.bC 6 1 [24,61,7,16],.bC 6 1 [24,61,7,16,12],.bC 6 1 [24,61,7,16,19],.bC 6 1 [24,65],.bC 6 1 [24,74],.bC 6 1 [24,74,6],.bC 6 1 [24,74,6,10],.bC 6 1 [24,74,6,10,2],.bC 6 1 [24,74,6,10,8],.bC 6 1 [24,74,6,10,8,7],.bC 6 1 [24,74,6,10,8,7,7],.bC 6 1 [24,74,6,10,8,7,7,7],.bC 6 1 [24,74,14],.bC 6 1 [24,77],.bC 6 1 [24,86],.bC 6 1 [24,86,6],.bC 6 1 [24,86,6,12],.bC 6 1 [24,86,6,19],.bC 6 1 [24,86,14],.bC 6 1 [24,86,15],.bC 6 1 [24,4001],.bC 6 1 [24,4002],.bC 6 1 [24,4003],.bC 6 1 [24,4011],.bC 6 1 [24,4012],.bC 6 1 [24,4013],.bC 6 1 [4001],.bC 6 1 [4002],.bC 6 1 [4003]]),
 (90,3,[.val 0 3,.cells 2 [.str,.str,.str],.ptr 2 2 0,.val 3 9,.val 4 3]),
 (90,7,[.val 0 3,.cells 2 [.str,.str,.str],.ptr 2 2 0,.val 3 9,.val 5 3]),
 (98,8000178,[.cells 0 [.bool],.bC 10 2 [],.bC 10 1 [2],.bC 10 1 [8],.bC 10 1 [8,7],.bC 10 1 [8,7,7],.bC 10 1 [8,7,7,7]]),
 (102,8000172,[.cells 0 [.bool],.bC 12 2 [19]]),
 (102,8000178,[.cells 0 [.bool],.bC 10 2 [],.bC 10 1 [2],.bC 10 1 [8],.bC 10 1 [8,7],.bC 10 1 [8,7,7],.bC 10 1 [8,7,7,7]]),
 (102,8000183,[.cells 0 [.bool],.bC 7 2 [],.bC 7 1 [7],.bC 7 1 [16],.bC 7 1 [16,10],.bC 7 1 [16,10,2],.bC 7 1 [16,10,8],.bC 7 1 [16,10,8,7],.bC 7 1 [16,10,8,7,7],.bC 7 1 [16,10,8,7,7,7]]),
 (138,3,[.val 0 27,.eo 3 5 Zw,.val 4 3]),
 (139,2,[.eo 3 5 Zw]),
 (146,4,[.val 0 25,.val 1 3,.cells 4 [.str,.str,.str],.ptr 4 4 0,.val 5 3,.val 6 35,.cells 7 [.str,.str,.str],.ptr 7 7 0,.bC 14 7 [0,1,2],.val 15 3,.val 16 3]),
 (149,5,[.val 4 27,.val 10 25,.val 11 3,.val 12 3]),
 (172,2,[.val 1 25,.val 4 4,.val 11 32,.val 12 3,.val 13 3]),
 (172,5000002,[.val 4 4,.val 13 3]),
 (173,2,[.cells 0 [.sl 1,.sl 1,.other],.ptr 0 0 0,.val 2 4,.val 10 3,.val 11 3]),
 (173,5000002,[.val 2 4,.val 11 3,.jR 9000000 [.own 4001 27 1 Zw,.own 4002 25 1 Zw,.qS 4003 Zw .i64]]),
 (173,6000002,[.bC 24 1 [24],.bC 24 1 [5],.bC 24 1 [36],.bC 24 1 [36,10],.bC 24 1 [36,10,2],.bC 24 1 [36,10,8],.bC 24 1 [36,10,8,7],.bC 24 1 [36,10,8,7,7],.bC 24 1 [36,10,8,7,7,7],.bC 24 1 [45],.bC 24 1 [53],.bC 24 1 [53,7],.bC 24 1 [53,7,7],.bC 24 1 [53,7,16],.bC 24 1 [53,7,16,10],.bC 24 1 [53,7,16,10,2],.bC 24 1 [53,7,16,10,8],.bC 24 1 [53,7,16,10,8,7],.bC 24 1 [53,7,16,10,8,7,7],.bC 24 1 [53,7,16,10,8,7,7,7],.bC 24 1 [61],.bC 24 1 [61,7],.bC 24 1 [61,7,7],.bC 24 1 [61,7,16],.bC 24 1 [61,7,16,12],.bC 24 1 [61,7,16,19],.bC 24 1 [65],.bC 24 1 [74],.bC 24 1 [74,6],.bC 24 1 [74,6,10],.bC 24 1 [74,6,10,2],.bC 24 1 [74,6,10,8],.bC 24 1 [74,6,10,8,7],.bC 24 1 [74,6,10,8,7,7],.bC 24 1 [74,6,10,8,7,7,7],.bC 24 1 [74,14],.bC 24 1 [77],.bC 24 1 [86],.bC 24 1 [86,6],.bC 24 1 [86,6,12],.bC 24 1 [86,6,19],.bC 24 1 [86,14],.bC 24 1 [86,15],.bC 24 1 [4001],.bC 24 1 [4002],.bC 24 1 [4003],.bC 24 1 [4011],.bC 24 1 [4012],.bC 24 1 [4013]]),
 (174,2,[.val 0 9,.val 1 9,.val 4 4,.val 5 3]),
 (174,7,[.val 0 9,.val 1 9,.val 4 4,.val 5 3,.val 6 3]),
 (175,3,[.val 1 3,.val 2 3,.val 3 4,.eo 9 5 Zw,.val 10 3]),
 (178,8000026,[.cells 0 [.bool],.bC 2 2 [8],.bC 8 1 [7],.bC 8 1 [7,7],.bC 8 1 [7,7,7]]),
 (181,2,[.val 0 32,.val 1 174,.val 4 3,.val 7 3,.val 8 3]),
 (181,5000002,[.val 4 3,.val 8 3,.bC 1 (9500000+102) [1,1]]),
 (181,6000002,[.bC 16 1 [12],.bC 16 1 [19]]),
 (181,7000102,[.val 0 172]),
 (181,8000172,[.cells 0 [.bool],.bC 12 2 [19]]),
 (208,6,[.val 0 25,.val 1 3,.val 2 3,.val 3 4,.val 12 3,.val 22 3,.val 23 3]),
 (217,3,[.val 0 32,.val 3 3,.val 9 32,.val 10 3,.val 11 3]),
 (217,11,[.eo 6 5 Zw,.val 25 32,.val 26 3,.val 27 3]),
 (218,3,[.val 0 27,.eo 3 5 Zw,.val 7 3,.val 8 3]),
 (231,9,[.cells 0 [.sl 1,.sl 1,.other],.ptr 0 0 0,.val 9 32,.val 64 39,.val 65 3,.val 66 3]),
 (231,14,[.cells 0 [.sl 1,.sl 1,.other],.ptr 0 0 0,.val 76 32,.val 77 3,.val 78 3]),
 (231,5000009,[.val 66 3,.jR 9000000 [.own 4001 27 1 Zw,.own 4002 25 1 Zw,.qS 4003 Zw .i64]]),
 (231,5000014,[.val 78 3,.jR 9000000 [.own 4011 27 1 Zw,.own 4012 25 1 Zw,.qS 4013 Zw .i64]]),
 (231,6000009,[.bC 36 1 [10],.bC 36 1 [10,2],.bC 36 1 [10,8],.bC 36 1 [10,8,7],.bC 36 1 [10,8,7,7],.bC 36 1 [10,8,7,7,7],.bC 53 1 [7],.bC 53 1 [7,7],.bC 53 1 [7,16],.bC 53 1 [7,16,10],.bC 53 1 [7,16,10,2],.bC 53 1 [7,16,10,8],.bC 53 1 [7,16,10,8,7],.bC 53 1 [7,16,10,8,7,7],.bC 53 1 [7,16,10,8,7,7,7],.bC 61 1 [7],.bC 61 1 [7,7],.bC 61 1 [7,16],.bC 61 1 [7,16,12],.bC 61 1 [7,16,19],.bC 74 1 [6],.bC 74 1 [6,10],.bC 74 1 [6,10,2],.bC 74 1 [6,10,8],.bC 74 1 [6,10,8,7],.bC 74 1 [6,10,8,7,7],.bC 74 1 [6,10,8,7,7,7],.bC 74 1 [14],.bC 86 1 [6],.bC 86 1 [6,12],.bC 86 1 [6,19],.bC 86 1 [14],.bC 86 1 [15]]),
 (231,6000014,[.bC 36 1 [10],.bC 36 1 [10,2],.bC 36 1 [10,8],.bC 36 1 [10,8,7],.bC 36 1 [10,8,7,7],.bC 36 1 [10,8,7,7,7],.bC 53 1 [7],.bC 53 1 [7,7],.bC 53 1 [7,16],.bC 53 1 [7,16,10],.bC 53 1 [7,16,10,2],.bC 53 1 [7,16,10,8],.bC 53 1 [7,16,10,8,7],.bC 53 1 [7,16,10,8,7,7],.bC 53 1 [7,16,10,8,7,7,7],.bC 61 1 [7],.bC 61 1 [7,7],.bC 61 1 [7,16],.bC 61 1 [7,16,12],.bC 61 1 [7,16,19],.bC 74 1 [6],.bC 74 1 [6,10],.bC 74 1 [6,10,2],.bC 74 1 [6,10,8],.bC 74 1 [6,10,8,7],.bC 74 1 [6,10,8,7,7],.bC 74 1 [6,10,8,7,7,7],.bC 74 1 [14],.bC 86 1 [6],.bC 86 1 [6,12],.bC 86 1 [6,19],.bC 86 1 [14],.bC 86 1 [15]]),
 (231,8000101,[.cells 0 [.bool],.bC 7 2 [],.bC 7 1 [7],.bC 7 1 [16],.bC 7 1 [16,12],.bC 7 1 [16,19]]),
 (231,8000172,[.cells 0 [.bool],.bC 12 2 [19]]),
 (231,8000178,[.cells 0 [.bool],.bC 10 2 [],.bC 10 1 [2],.bC 10 1 [8],.bC 10 1 [8,7],.bC 10 1 [8,7,7],.bC 10 1 [8,7,7,7]]),
 (231,8000183,[.cells 0 [.bool],.bC 7 2 [],.bC 7 1 [7],.bC 7 1 [16],.bC 7 1 [16,10],.bC 7 1 [16,10,2],.bC 7 1 [16,10,8],.bC 7 1 [16,10,8,7],.bC 7 1 [16,10,8,7,7],.bC 7 1 [16,10,8,7,7,7]]),
 (232,2,[.val 0 39,.val 1 27,.val 4 3,.val 7 3,.val 8 3]),
 (232,5000002,[.val 4 3,.val 8 3]),
 (235,3,[.val 0 257,.val 3 3,.val 9 257,.val 10 3,.val 11 3]),
 (235,11,[.c7 6 27 1 Zw,.val 25 257,.val 26 3,.val 27 3]),
 (237,4,[.val 0 39,.val 2 39,.val 3 3]),
 (237,9,[.val 0 39,.val 3 3,.val 4 39,.val 5 3]),
 (237,5000004,[.val 3 3]),
 (237,5000009,[.cells 99999 []]),
 (239,2,[.val 0 39,.val 1 167,.val 4 3,.val 7 3,.val 8 3]),
 (239,5000002,[.val 4 3,.val 8 3]),
 (239,6000002,[.bC 16 1 [10],.bC 16 1 [10,2],.bC 16 1 [10,8],.bC 16 1 [10,8,7],.bC 16 1 [10,8,7,7],.bC 16 1 [10,8,7,7,7]]),
 (239,8000178,[.cells 0 [.bool],.bC 10 2 [],.bC 10 1 [2],.bC 10 1 [8],.bC 10 1 [8,7],.bC 10 1 [8,7,7],.bC 10 1 [8,7,7,7]]),
 (241,2,[.val 0 3,.val 4 4,.val 7 234,.val 8 3,.val 9 3]),
 (256,3,[.val 0 25,.val 1 3,.val 2 3,.val 3 4,.iz 9 Zw,.ptr 9 9 0,.val 12 3,.val 13 3]),
 (259,2,[.rowAt 0 Zb 27 1,.gD 0 0 27 1,.val 1 3,.val 2 3,.val 3 3,.val 8 4,.val 9 4]),
 (259,2000014,[.rowAt 0 Zb 27 1,.gD 0 0 27 1,.val 1 3,.val 2 3,.val 3 3,.val 8 4,.val 9 4,.val 10 3,.val 11 3,.val 12 263]),
 (259,2000015,[.rowAt 0 Zb 27 1,.gD 0 0 27 1,.val 1 3,.val 2 3,.val 3 3,.val 8 4,.val 9 4,.val 10 3,.val 11 3,.val 68 4]),
 (259,2000016,[.rowAt 0 Zb 27 1,.gD 0 0 27 1,.val 1 3,.val 2 3,.val 3 3,.val 8 4,.val 9 4,.val 10 3,.val 11 3,.val 72 4]),
 (259,2000017,[.rowAt 0 Zb 27 1,.gD 0 0 27 1,.val 1 3,.val 2 3,.val 3 3,.val 8 4,.val 9 4,.val 10 3,.val 11 3,.val 87 4]),
 (259,3000008,[.rowAt 0 Zb 27 1,.gD 0 0 27 1,.val 1 3,.val 2 3,.val 3 3,.val 8 4,.val 9 4,.val 10 3]),
 (259,3000012,[.rowAt 0 Zb 27 1,.gD 0 0 27 1,.val 1 3,.val 2 3,.val 3 3,.val 8 4,.val 9 4,.val 10 3,.val 11 3,.val 12 263]),
 (262,2,[.val 0 9,.val 1 9,.val 4 4,.val 7 3,.val 8 3]),
 (263,1,[.rowAt 0 Zb 27 1,.gD 0 0 27 1,.val 1 3,.val 2 3,.val 6 3]),
 (263,4,[.rowAt 0 Zb 27 1,.gD 0 0 27 1,.val 1 3,.val 2 3,.val 6 3,.val 7 3]),
 (264,4,[.rowAt 0 Zb 27 1,.gD 0 0 27 1,.val 6 3,.val 7 3,.val 8 3,.val 9 3]),
 (264,8,[.rowAt 0 Zb 27 1,.gD 0 0 27 1,.val 6 3,.val 7 3,.val 10 3]),
 (265,5,[.rowAt 0 Zb 27 1,.gD 0 0 27 1,.val 1 3,.val 6 3,.cells 7 [.int .u64],.ptr 7 7 0,.val 8 109,.val 9 3]),
 (267,2,[.rowAt 0 Zb 27 1,.gD 0 0 27 1,.val 6 3,.val 7 3]),
 (268,3,[.rowAt 0 Zb 27 1,.gD 0 0 27 1,.val 1 3,.val 2 3,.val 6 4,.val 7 3,.val 8 3]),
 (268,5,[.rowAt 0 Zb 27 1,.gD 0 0 27 1,.val 1 3,.val 2 3,.val 7 3,.val 8 3,.val 6 4]),
 (268,14,[.rowAt 0 Zb 27 1,.gD 0 0 27 1,.val 1 3,.val 2 3,.val 7 3,.val 8 3,.val 9 3,.val 6 4]),
 (268,20,[.rowAt 0 Zb 27 1,.gD 0 0 27 1,.val 1 3,.val 2 3,.val 7 3,.val 8 3,.val 10 3,.val 6 4]),
 (270,3,[.rowAt 0 Zb 27 1,.gD 0 0 27 1,.val 1 3,.val 9 3,.val 10 3]),
 (270,5,[.rowAt 0 Zb 27 1,.gD 0 0 27 1,.val 1 3,.val 9 3,.val 10 3]),
 (271,3,[.rowAt 0 Zb 27 1,.gD 0 0 27 1,.val 1 3,.val 10 3,.val 11 3]),
 (271,5,[.rowAt 0 Zb 27 1,.gD 0 0 27 1,.val 1 3,.val 10 3,.val 11 3]),
 (271,13,[.rowAt 0 Zb 27 1,.gD 0 0 27 1,.val 1 3,.val 10 3,.val 11 3]),
 (271,15,[.rowAt 0 Zb 27 1,.gD 0 0 27 1,.val 1 3,.val 10 3,.val 11 3]),
 (275,1,[.rowAt 0 Zb 27 1,.gD 0 0 27 1,.val 2 3,.val 3 3,.val 8 3])]
def acC:List Nat:=[95,139,170,171,175,257,258,93,108,109,110,217,67,141,219,256,214,215,216,243,179,1017088,1016832,1017152,1017280,1017344,1017600,1018048,1016896,1016960,1017856,1017792,1017024,1016576,1015104]
def acI:List (Nat×List Nat):=[(21,[27]),(24,[27]),(46,[25]),(89,[3]),(90,[53]),(92,[4]),(94,[25]),(95,[25]),(107,[4]),(113,[4]),(114,[4]),(138,[25]),(139,[25]),(142,[4]),(144,[4]),(152,[4]),(156,[4]),(159,[4]),(170,[39]),(171,[32]),(174,[4]),(175,[25]),(184,[176]),(205,[27]),(206,[4]),(207,[4]),(210,[35]),(211,[25]),(218,[25]),(221,[4]),(222,[4]),(226,[]),(229,[4]),(233,[4]),(234,[4]),(238,[4]),(241,[4]),(245,[4]),(251,[4]),(252,[4]),(254,[3]),(255,[4]),(257,[25]),(258,[39]),(261,[4]),(267,[]),(273,[3]),(277,[26]),(280,[4]),(283,[3]),(29,[27]),(60,[27]),(91,[4]),(93,[25]),(105,[9]),(108,[25]),(109,[25]),(110,[25]),(111,[4]),(112,[4]),(136,[4]),(148,[25,3,35]),(177,[3,3,4]),(208,[3,3,35]),(212,[3]),(217,[25]),(228,[4]),(240,[3,4,35]),(242,[25]),(260,[3]),(269,[4]),(281,[3]),(25,[25,35]),(36,[53]),(40,[25,35]),(42,[25,35]),(59,[53]),(67,[25,35]),(71,[25,35]),(97,[4]),(106,[4]),(116,[25]),(141,[25]),(143,[3]),(145,[3,3,35]),(147,[3,3,35]),(150,[9,3,35]),(154,[25]),(167,[25]),(185,[4,35]),(186,[3,3,35]),(219,[25]),(220,[25]),(227,[3]),(256,[25]),(263,[]),(268,[4]),(270,[3]),(271,[3,4]),(274,[3]),(275,[]),(276,[109]),(282,[3,3]),(22,[55]),(37,[25,35]),(39,[25,35]),(41,[25,35]),(43,[25,35]),(63,[113]),(64,[25,35]),(65,[25,35]),(66,[25,35]),(68,[25,35]),(69,[25,35]),(70,[25,35]),(73,[39]),(137,[35]),(140,[35]),(149,[27,4]),(155,[3]),(160,[3]),(165,[3]),(168,[3]),(188,[61,3]),(193,[9]),(194,[3]),(197,[3]),(214,[25]),(215,[25]),(216,[25]),(223,[35]),(243,[25]),(248,[25,3,4]),(262,[4]),(264,[]),(265,[]),(279,[3]),(61,[25,35]),(62,[25,35]),(115,[25,25,35]),(157,[27]),(158,[25,35]),(164,[27]),(182,[29,3,35]),(191,[25,35]),(192,[3,25,25,4,35]),(225,[25]),(230,[25]),(246,[4]),(247,[4]),(250,[25]),(278,[3]),(23,[25,35]),(44,[25,35]),(45,[25,35]),(75,[124,35]),(117,[4]),(121,[25,4,35]),(122,[25,25,4,35]),(196,[25,35]),(244,[4]),(266,[3,263]),(38,[25]),(47,[32]),(124,[82,35]),(189,[25,35]),(209,[4]),(259,[]),(14,[25]),(119,[61,35]),(146,[53,3,35]),(153,[25,35]),(166,[25,35]),(169,[25,35]),(187,[25,35]),(190,[25,35]),(198,[25,35]),(213,[35]),(224,[35]),(236,[]),(249,[35]),(9,[25]),(74,[117,35]),(118,[72,35]),(120,[75,35]),(151,[25,35]),(161,[53]),(162,[25,35]),(163,[53]),(179,[39]),(195,[25,35]),(72,[55,35]),(76,[127,35]),(77,[130,35]),(78,[133,35]),(123,[79,35]),(125,[85,35]),(15,[39,32]),(48,[32]),(11,[32]),(102,[4]),(31,[4]),(19,[46]),(27,[46]),(8,[4]),(18,[46]),(5,[4])]
def JS:Sp
 | [.int .i64 n],[]=>az (Zz (0<=n)&&Zz (n<=1000)) (Zx (.int .u64 (Kerb.aB n),[]))
 | _,_=>Zy
def Qf:Sp
 | [.int .i64 n],[]=>az (Zz (0<=n)&&Zz (n<=1000)) (Zx (.int .u64 (Kerb.ou n),[]))
 | _,_=>Zy
def JV:Sp
 | [.bs b,.int .u16 how],[]=>az (Zz (b.length<=1000000)&&Zz (0<=how)&&Zz (how<=65535)) (Zx (.bs (Kerb.oJ b how),[]))
 | _,_=>Zy
def yv:Sp
 | [.ptr 0 0,.int .i64 n],[(0,[.bs l,.int .i64 pos])]=>az (Zz (l.length<=4611686018427387904)&&Zz (0<=pos)) (Zx (.int .i64 (Kerb.next l pos n),[[.bs l,.int .i64 (Kerb.dl l pos n)]]))
 | _,_=>Zy
def Vl:Sp
 | [.int .i64 n],[]=>az (Zz (0<=n)&&Zz (n<=1)) (Zx (.agg [.str (Kerb.fm n).name,.str (Kerb.fm n).inst,.str (Kerb.fm n).aJ],[]))
 | _,_=>Zy
def Vo:Sp
 | [.int .i64 n,.int .i64 m],[]=>Zx (.bool (Zv n m),[])
 | _,_=>Zy
def Vr:Sp
 | [.int .i64 k,.bool aq],[]=>Zx (.bs (Kerb.header k aq),[])
 | _,_=>Zy
def oN:Sp
 | [.bs b,.str s],[]=>az (Zz (b.length+s.length<=70368744177664)) (Zx (.bK (Kerb.a_ b s),[]))
 | _,_=>Zy
def PI:Sp
 | [.int .i64 n,.int .i64 m],[]=>Zx (.bool (Zv n m),[])
 | _,_=>Zy
def PJ:Sp
 | [.int .i64 n],[]=>Zx (.bool (n==1||n==3),[])
 | _,_=>Zy
def PK:Sp
 | [.int .i64 n,.int .i64 m],[]=>Zx (.bool (Zv n m),[])
 | _,_=>Zy
def l8:Sp
 | [.int .u64 k],[]=>az (Zz (0<=k)&&Zz (k<18446744073709551616)) (Zx (.bs (Kerb.keyBytes k),[]))
 | _,_=>Zy
def iG:Sp
 | [.bs b],[]=>az (Zz (b.length<=70368744177664)) (Zx (.bK (Kerb.pad b),[]))
 | _,_=>Zy
def PN:Sp
 | [.int .i64 n,.int .i64 m],[]=>Zx (.bool (Zv n m),[])
 | _,_=>Zy
def PO:Sp
 | [.int .i64 n,.int .i64 m],[]=>Zx (.bool (Zv n m),[])
 | _,_=>Zy
def PP:Sp
 | [.bs a,.bs b],[]=>Zx (.bool (a==b),[])
 | _,_=>Zy
def PQ:Sp
 | [.str l],[]=>Zx (.bool (Kerb.jf l),[])
 | _,_=>Zy
def PR:Sp
 | [.str l],[]=>Zx (.bool (Kerb.dD l),[])
 | _,_=>Zy
def PS:Sp
 | [.sl 1 ks],[]=>az (Zu ks&&Zz (ks.length<=1000000)) (Zx (.aF ks,[]))
 | _,_=>Zy
def PT:Sp
 | [.sl 1 bs],[]=>az (Kerb.vK bs&&Zz (bs.length<=1000000)) (Zx (.aF bs,[]))
 | _,_=>Zy
def xp:Sp
 | [.str s,.str bad],[]=>az (Zz (s.length<=9223372036854775807)&&Zz (bad.length<=100)) (Zx (.bool (Kerb.dE s bad&&Zz (s.length<=39)),[]))
 | _,_=>Zy
def xq:Sp
 | [.bs b,.int .i64 n,.int .i64 k,.bool aq],[]=>az (Zz (k=1\/k=2\/k=4)&&Zz (b.length<=70368744177664)) (Zx (.bK (b++Kerb.aN n k.toNat aq),[]))
 | _,_=>Zy
def PW:Sp
 | [],[]=>Zx (.sl 1 [.str [65,84,72],.str [66,79,83],.str [67,65,77]],[])
 | _,_=>Zy
def P3:Sp
 | [.int .i64 c,.int .i64 n],[]=>Zx (.int .u64 (cond (Kerb.mX c&&Kerb.ke n) (c*72057594037927936+n) 0),[])
 | _,_=>Zy
def P4:Sp
 | [.int .i64 n,.int .i64 m],[]=>Zx (.bool (Zv n m),[])
 | _,_=>Zy
def P5:Sp
 | [.int .i64 n,.int .i64 m],[]=>Zx (.bool (Zv n m),[])
 | _,_=>Zy
def xt:Sp
 | [.bs b,.int .i64 pos,.int .i64 n],[]=>az (Zz (b.length<=4611686018427387904)) (Zx (.int .i64 (Kerb.room b pos n),[]))
 | _,_=>Zy
def BA:Sp
 | [.bs b],[]=>az (Zz (b.length<=140737488355328)) (Zx (.bs b,[]))
 | _,_=>Zy
def tA:Sp
 | [.int .u64 k],[]=>az (Zz (0<=k)&&Zz (k<18446744073709551616)) (Zx (.bs (Kerb.keyBytes k),[]))
 | _,_=>Zy
def P9:Sp
 | [.int .i64 n,.int .i64 m],[]=>Zx (.bool (Zv n m),[])
 | _,_=>Zy
def P_:Sp
 | [.ptr 0 0,.int .i64 nx,.int .i64 e],[(0,[.bs B,.int .i64 at_,.bool bad])]=>Zx (.bool (!(bad || !(e==0))),[[.bs B,.int .i64 (cond (bad || !(e==0)) at_ nx),.bool (bad || !(e==0))]])
 | _,_=>Zy
def P':Sp
 | [.ptr 0 0,.int .i64 nx,.int .i64 e],[(0,[.bs B,.int .i64 at_,.bool bad])]=>Zx (.aS [],[[.bs B,.int .i64 (cond (e==0) nx at_),.bool (bad || !(e==0))]])
 | _,_=>Zy
def Qb:Sp
 | [.int .i64 n,.int .i64 m],[]=>Zx (.bool (Zv n m),[])
 | _,_=>Zy
def Qc:Sp
 | [.int .i64 k],[]=>Zx (.bool (Kerb.mX k),[])
 | _,_=>Zy
def Qd:Sp
 | [.int .i64 k],[]=>Zx (.bool (Kerb.ke k),[])
 | _,_=>Zy
def Qe:Sp
 | [.int .i64 k],[]=>Zx (.bool (Kerb.isKind k),[])
 | _,_=>Zy
def H3:Sp
 | [.int .i64 k,.sl 1 els],[]=>az (oR els&&Zz (els.length<=1000)) (Zx (.bool ((jT els).contains k),[]))
 | _,_=>Zy
def Qi:Sp
 | [.int .i64 n,.int .i64 m],[]=>Zx (.bool (Zv n m),[])
 | _,_=>Zy
def Qk:Sp
 | [.int .i64 n],[]=>Zx (.bool (Kerb.lN n),[])
 | _,_=>Zy
def Ql:Sp
 | [.int .i64 n,.int .i64 m],[]=>Zx (.bool (Zv n m),[])
 | _,_=>Zy
def Qm:Sp
 | [.bs s,.u8 c],[]=>Zx (.int .i64 (Kerb.indexOf c s),[])
 | _,_=>Zy
def Qn:Sp
 | [.int .i64 n,.int .i64 m],[]=>Zx (.bool (Zv n m),[])
 | _,_=>Zy
def H6:Sp
 | [.cY,.int .i64 n],[]=>az (Zz (0<=n)&&Zz (n<=140737488355328)) (Zx (.bK [],[]))
 | _,_=>Zy
def H7:Sp
 | [.cY,.int .i64 n],[]=>az (Zz (0<=n)&&Zz (n<=1000000000000)) (Zx (.aF [],[]))
 | _,_=>Zy
def Qo:Sp
 | [.int .i64 k],[]=>Zx (.bool (Kerb.isKind k),[])
 | _,_=>Zy
def Ia:Sp
 | [.bE 0 27 1,.int .i64 a,.int .i64 b],[(0,els)]=>az (Zu els&&Zz ((els.length:Int)<=1152921504606846976)&&Zz (0<=a)&&Zz (a<=b)&&Zz (b<=(els.length:Int))) (Zx (.aS [],[Kerb.R6 els a b]))
 | _,_=>Zy
def Ic:Sp
 | [.int .u64 x],[]=>az (Zz (0<=x)&&Zz (x<18446744073709551616)) (Zx (.int .i64 (Kerb.RN x),[]))
 | _,_=>Zy
def Ig:Sp
 | [.ptr 0 0],[(0,[.int .u64 x])]=>az (Zz (0<=x)&&Zz (x<18446744073709551616)) (Zx (.int .u64 (Kerb.J3 x),[[.int .u64 (Kerb.J3 x)]]))
 | _,_=>Zy
def Qr:Sp
 | [.int .u64 x],[]=>Zx (.bool Zw,[])
 | _,_=>Zy
def Qt:Sp
 | [.str s,.u8 c],[]=>Zx (.int .i64 (Kerb.indexOf c s),[])
 | _,_=>Zy
def U5:Sp
 | [.u8 n],[]=>Zx (.int .u64 (Kerb.fZ n),[])
 | _,_=>Zy
def Va:Sp
 | [.u8 n],[]=>Zx (.int .u64 (Kerb.gw n),[])
 | _,_=>Zy
def Fe:Sp
 | [.str s],[]=>az (Zz (s.length<=9223372036854775807)) (Zx (.bool (Kerb.cJ s),[]))
 | _,_=>Zy
def iu:Sp
 | [.bs b,.int .i64 n],[]=>az (Zz (b.length<=70368744177664)) (Zx (.bK (b++Kerb.aN n 1 Zw),[]))
 | _,_=>Zy
def Bp:Sp
 | [.int .i64 n],[]=>az (Zz (0<=n)) (Zx (.str (Kerb.aJ n),[]))
 | _,_=>Zy
def je:Sp
 | [.bs b,.agg [.str x,.str y,.str z]],[]=>az (Zz (b.length+x.length+y.length+z.length<=70368744170000)) (Zx (.bK (Kerb.cC b ⟨x,y,z⟩),[]))
 | _,_=>Zy
def eF:Sp
 | [.bs b,.int .i64 n,.bool aq],[]=>az (Zz (b.length<=70368744177664)) (Zx (.bK (b++Kerb.aN n 4 aq),[]))
 | _,_=>Zy
def k_:Sp
 | [.bs b,.int .i64 n,.bool aq],[]=>az (Zz (b.length<=70368744177664)) (Zx (.bK (b++Kerb.aN n 2 aq),[]))
 | _,_=>Zy
def tu:Sp
 | [.str s],[]=>az (Zz (s.length<=9223372036854775807)) (Zx (.bool (Kerb.validName s),[]))
 | _,_=>Zy
def tv:Sp
 | [.str s],[]=>az (Zz (s.length<=9223372036854775807)) (Zx (.bool (Kerb.bS s),[]))
 | _,_=>Zy
def nD:Sp
 | [.int .u64 k],[]=>az (Zz (0<=k)&&Zz (k<18446744073709551616)) (Zx (.bool (Kerb.bm k),[]))
 | _,_=>Zy
def rF:Sp
 | [.bs b,.int .i64 pos,.int .i64 n],[]=>az (Zz (b.length<=140737488355328)) (Zx (.aS [.bs (Kerb.bytes b pos n).val,.int .i64 (Kerb.bytes b pos n).next,.int .i64 (Kerb.bytes b pos n).err],[]))
 | _,_=>Zy
def Bv:Sp
 | [.int .u64 k],[]=>az (Zz (0<=k)&&Zz (k<18446744073709551616)) (Zx (.aS [.int .i64 (cond (Kerb.bm k) (Kerb.kf k) 0),.int .i64 (cond (Kerb.bm k) (Kerb.jI k) 0),.bool (Kerb.bm k)],[]))
 | _,_=>Zy
def Bz:Sp
 | [.bs b,.int .i64 pos,.int .i64 k,.bool aq],[]=>az (Zz (b.length<=4611686018427387904)&&Zz (0<=k)&&Zz (k<=4)) (Zx (.aS [.int .i64 (Zq b pos k aq).val,.int .i64 (Zq b pos k aq).next,.int .i64 (Zq b pos k aq).err],[]))
 | _,_=>Zy
def P6:Sp
 | [.bs s,.u8 c],[]=>Zx (.int .i64 (Kerb.indexOf c s),[])
 | _,_=>Zy
def P8:Sp
 | [.sl 1 els],[]=>az (Ra els&&Zz ((rX els).length<=140737488355328)&&Zz (els.length<=1000)) (Zx (.bK (rX els),[]))
 | _,_=>Zy
def Qa:Sp
 | [.int .i64 a,.int .i64 b],[]=>Zx (.bool (Kerb.period a b),[])
 | _,_=>Zy
def Qg:Sp
 | [.bs b],[]=>Zx (.aS [.int .i64 (Kerb.dL b).kind,.bool (Kerb.dL b).aq,.int .i64 (Kerb.dL b).err],[])
 | _,_=>Zy
def Qh:Sp
 | [.int .i64 k,.bool aq],[]=>Zx (.bs (Kerb.header k aq),[])
 | _,_=>Zy
def BG:Sp
 | [.int .u64 x],[]=>az (Kerb.ok x&&Zz (0<=x)&&Zz (x<18446744073709551616)) (Zx (.int .i64 (Kerb.RN x),[]))
 | _,_=>Zy
def Qp:Sp
 | [.int .u64 x,.int .u64 y],[]=>Zx (.bool (Zz (x<y)),[])
 | _,_=>Zy
def Qs:Sp
 | [.str s,.u8 c],[]=>Zx (.int .i64 (Kerb.indexOf c s),[])
 | _,_=>Zy
def Qj:Sp
 | [.agg [.bool li,.bool mu,.int .i64 kv,.str rl,.bs tk,.bs au]],[]=>az (Zz (rl.length<=9223372036854775807)) (Zx (.aS [.bs (Kerb.bZ (Kerb.cP.mk li mu kv rl tk au)).val,.int .i64 (Kerb.bZ (Kerb.cP.mk li mu kv rl tk au)).err],[]))
 | _,_=>Zy
def JU:Sp
 | [.int .i64 n],[]=>az (Zz (0<=n)&&Zz (n<=4611686018427387904)) (Zx (.agg [.str (Kerb.user n).name,.str (Kerb.user n).inst,.str (Kerb.user n).aJ],[]))
 | _,_=>Zy
def U9:Sp
 | [.bs s,.bool li],[]=>Zx (.aS [.bs (Kerb.dN s li).val,.int .i64 (Kerb.dN s li).err],[])
 | _,_=>Zy
def U':Sp
 | [.agg [.int .i64 op,.int .i64 cd,.bs bx]],[]=>Zx (.aS [.bs (Kerb.cf ⟨op,cd,bx⟩).val,.int .i64 (Kerb.cf ⟨op,cd,bx⟩).err],[])
 | _,_=>Zy
def Qz:Sp
 | [.int .i64 n],[]=>az (Zz (0<=n)&&Zz (n<=4611686018427387904)) (Zx (.agg [.str (Kerb.service n).name,.str (Kerb.service n).inst,.str (Kerb.service n).aJ],[]))
 | _,_=>Zy
def QC:Sp
 | [.agg [.str lb,.int .i64 t,.int .i64 st,.int .i64 en,.int .u64 k]],[]=>az (Zz (0<=k)&&Zz (k<18446744073709551616)) (Zx (.aS [.bK (Kerb.aR ⟨lb,t,st,en,k⟩).val,.int .i64 (Kerb.aR ⟨lb,t,st,en,k⟩).err],[]))
 | _,_=>Zy
def JW:Sp
 | [.int .i64 kd,.int .u64 k,.bs bd],[]=>az (Zz (0<=k)&&Zz (k<18446744073709551616)) (Zx (.aS [.bs (Kerb.fo kd k bd).val,.int .i64 (Kerb.fo kd k bd).err],[]))
 | _,_=>Zy
def yw:Sp
 | [.int .u64 k],[]=>az (Zz (0<=k)&&Zz (k<18446744073709551616)) (Zx (.bool (Kerb.bm k),[]))
 | _,_=>Zy
def jA:Sp
 | [.agg [.str a,.str b,.str c]],[]=>az (Zz (a.length<=9223372036854775807)&&Zz (b.length<=9223372036854775807)&&Zz (c.length<=9223372036854775807)) (Zx (.bool (Kerb.bf.valid ⟨a,b,c⟩),[]))
 | _,_=>Zy
def yW:Sp
 | [.bs b,.bs s,.bool li],[]=>az (Zz (b.length+s.length<=70368744170000)) (Zx (.bs (Kerb.w7 b s li),[]))
 | _,_=>Zy
def PM:Sp
 | [.bs b,.bool aq],[]=>az (Zz (b.length<=70368744177664)) (Zx (.bK (b++Kerb.aN (cond aq 1 0) 1 Zw),[]))
 | _,_=>Zy
def Br:Sp
 | [.int .u64 k],[]=>az (Zz (0<=k)&&Zz (k<18446744073709551616)) (Zx (.int .i64 (Kerb.gR k),[]))
 | _,_=>Zy
def tw:Sp
 | [.bs b,.int .i64 pos],[]=>az (Zz (b.length<=4611686018427387904)) (Zx (.aS [.int .i64 (Zq b pos 1 Zw).val,.int .i64 (Zq b pos 1 Zw).next,.int .i64 (Zq b pos 1 Zw).err],[]))
 | _,_=>Zy
def uK:Sp
 | [.bs b,.int .i64 pos,.bool aq],[]=>az (Zz (b.length<=4611686018427387904)) (Zx (.aS [.int .i64 (Zq b pos 4 aq).val,.int .i64 (Zq b pos 4 aq).next,.int .i64 (Zq b pos 4 aq).err],[]))
 | _,_=>Zy
def xk:Sp
 | [.bs b,.int .i64 pos],[]=>az (Zz (b.length<=4611686018427387904)) (Zx (.aS [.str (Kerb.text b pos).val,.int .i64 (Kerb.text b pos).next,.int .i64 (Kerb.text b pos).err],[]))
 | _,_=>Zy
def rG:Sp
 | [.ptr 0 0,.int .i64 n],[(0,[.bs B,.int .i64 at_,.bool bad])]=>az (Zz (B.length<=140737488355328)) (Zx (.bs (Kerb.dj B n at_ bad).val,[[.bs B,.int .i64 (Kerb.dj B n at_ bad).pos,.bool (Kerb.dj B n at_ bad).bad]]))
 | _,_=>Zy
def xo:Sp
 | [.ptr 0 0,.int .i64 n],[(0,[.bs B,.int .i64 at_,.bool bad])]=>az (Zz (B.length<=140737488355328)) (Zx (.bs (Kerb.nv B n at_ bad).val,[[.bs B,.int .i64 (Kerb.nv B n at_ bad).pos,.bool (Kerb.nv B n at_ bad).bad]]))
 | _,_=>Zy
def PX:Sp
 | [.bs b,.sl 1 els],[]=>az (oR els&&Zz (els.length<=1000)) (Zx (.aS [.bool (Kerb.bh b (jT els)).1,.int .i64 (Kerb.bh b (jT els)).2],[]))
 | _,_=>Zy
def xr:Sp
 | [.bs b,.int .i64 pos,.bool aq],[]=>az (Zz (b.length<=4611686018427387904)) (Zx (.aS [.int .i64 (Zq b pos 2 aq).val,.int .i64 (Zq b pos 2 aq).next,.int .i64 (Zq b pos 2 aq).err],[]))
 | _,_=>Zy
def ph:Sp
 | [.bs b,.str s],[]=>az (Zz (b.length+s.length<=70368744177664)) (Zx (.bK (Kerb.a_ b s),[]))
 | _,_=>Zy
def ql:Sp
 | [.bs b],[]=>az (Zz (b.length<=70368744177664)) (Zx (.bs (Kerb.pad b),[]))
 | _,_=>Zy
def BC:Sp
 | [.int .u64 k],[]=>az (Zz (0<=k)&&Zz (k<18446744073709551616)) (Zx (.int .i64 (Kerb.gR k),[]))
 | _,_=>Zy
def xu:Sp
 | [.bs b,.int .i64 n,.int .i64 k,.bool aq],[]=>az (Zz (k=1\/k=2\/k=4)&&Zz (b.length<=70368744177664)) (Zx (.bK (b++Kerb.aN n k.toNat aq),[]))
 | _,_=>Zy
def H8:Sp
 | [.bE 0 27 1,.int .i64 a,.int .i64 b],[(0,els)]=>az (Zu els&&Zz ((els.length:Int)<=1152921504606846976)&&Zz (0<=a)&&Zz (a<=b)&&Zz (b<=(els.length:Int))) (Zx (.aS [],[Kerb.zs els a b]))
 | _,_=>Zy
def Ib:Sp
 | [.bE 0 27 1,.int .i64 a,.int .i64 b],[(0,els)]=>az (Zu els&&Zz ((els.length:Int)<=1152921504606846976)&&Zz (0<=a)&&Zz (a<=b)&&Zz (b<=(els.length:Int))&&Zz (a<b)) (Zx (.bool (Kerb.wZ els a b).2,[(Kerb.wZ els a b).1]))
 | _,_=>Zy
def DC:Sp
 | [.bE 0 27 1,.int .i64 a,.int .i64 b,.int .i64 p],[(0,els)]=>az (Zu els&&Zz ((els.length:Int)<=1152921504606846976)&&Zz (0<=a)&&Zz (a<=b)&&Zz (b<=(els.length:Int))&&Zz (a<=p)&&Zz (p<b)) (Zx (.int .i64 (Kerb.ER els a b p).1,[(Kerb.ER els a b p).2]))
 | _,_=>Zy
def DE:Sp
 | [.bE 0 27 1,.int .i64 a,.int .i64 b,.int .i64 p],[(0,els)]=>az (Zu els&&Zz ((els.length:Int)<=1152921504606846976)&&Zz (0<=a)&&Zz (a<=b)&&Zz (b<=(els.length:Int))&&Zz (a<=p)&&Zz (p<b)) (Zx (.aS [.int .i64 (Kerb.part els a b p).1,.bool (Kerb.part els a b p).2.1],[(Kerb.part els a b p).2.2]))
 | _,_=>Zy
def Qq:Sp
 | [.str s,.u8 c],[]=>Zx (.int .i64 (Kerb.indexOf c s),[])
 | _,_=>Zy
def DF:Sp
 | [.bE 0 27 1,.int .i64 lo,.int .i64 hi,.int .i64 first],[(0,els)]=>az (Zu els&&Zz ((els.length:Int)<=1152921504606846976)&&Zz (0<=lo)&&Zz (0<=hi)&&Zz (0<=first)&&Zz (first+hi<=(els.length:Int))&&Zz (lo<=(els.length:Int))) (Zx (.aS [],[Kerb.sift els lo hi first]))
 | _,_=>Zy
def Ie:Sp
 | [.int .i64 n],[]=>az (Zz (0<=n)&&Zz (n<=4611686018427387904)) (Zx (.int .u64 (Kerb.Pa n),[]))
 | _,_=>Zy
def BJ:Sp
 | [.bE 0 27 1,.int .i64 a,.int .i64 b,.ptr 3 0],[(0,els),(3,[.int .i64 s])]=>az (Zu els&&Zz ((els.length:Int)<=1152921504606846976)&&Zz (0<=a)&&Zz (a<(els.length:Int))&&Zz (0<=b)&&Zz (b<(els.length:Int))&&Zz (0<=s)&&Zz (s<=1000)) (Zx (.aS [.int .i64 (Kerb.order2 els a b s).1,.int .i64 (Kerb.order2 els a b s).2.1],[els,[.int .i64 (Kerb.order2 els a b s).2.2]]))
 | _,_=>Zy
def Fc:Sp
 | [.bs l],[]=>az (Zz (l.length<=4611686018427387904)) (Zx (.agg [.bool (Zg l).aq,.str (Zg l).client.name,.str (Zg l).client.inst,.str (Zg l).client.aJ,.int .i64 (Zg l).address,.int .u64 (Zg l).aB,.int .i64 (Zg l).cl,.int .i64 (Zg l).cE,.str (Zg l).service,.str (Zg l).inst],[]))
 | _,_=>Zy
def Qu:Sp
 | [.agg [.bool li,.str x,.str y,.str z,.int .i64 t,.int .i64 ex,.int .i64 kv,.bs sd]],[]=>az (Zz (x.length<=9223372036854775807)&&Zz (y.length<=9223372036854775807)&&Zz (z.length<=9223372036854775807)) (Zx (.aS [.bs (Kerb.dQ ⟨li,⟨x,y,z⟩,t,ex,kv,sd⟩).val,.int .i64 (Kerb.dQ ⟨li,⟨x,y,z⟩,t,ex,kv,sd⟩).err],[]))
 | _,_=>Zy
def U8:Sp
 | [.agg [.bool li,.bool mu,.int .i64 kv,.str rl,.bs tk,.bs au,.int .i64 tm,.int .i64 lf,.str sv,.str ins]],[]=>az (Zz (rl.length<=9223372036854775807)&&Zz (sv.length<=9223372036854775807)&&Zz (ins.length<=9223372036854775807)) (Zx (.aS [.bs (Kerb.dO (Kerb.ff.mk (Kerb.cP.mk li mu kv rl tk au) tm lf sv ins)).val,.int .i64 (Kerb.dO (Kerb.ff.mk (Kerb.cP.mk li mu kv rl tk au) tm lf sv ins)).err],[]))
 | _,_=>Zy
def U_:Sp
 | [.agg [.int .i64 op,.str ux,.str uy,.str uz,.int .i64 kv,.str rl,.bs tk,.str sv,.str ins,.bs bx]],[]=>az (Zz (ux.length<=9223372036854775807)&&Zz (uy.length<=9223372036854775807)&&Zz (uz.length<=9223372036854775807)&&Zz (rl.length<=9223372036854775807)&&Zz (sv.length<=9223372036854775807)&&Zz (ins.length<=9223372036854775807)) (Zx (.aS [.bs (Kerb.aX ⟨op,⟨ux,uy,uz⟩,kv,rl,tk,sv,ins,bx⟩).val,.int .i64 (Kerb.aX ⟨op,⟨ux,uy,uz⟩,kv,rl,tk,sv,ins,bx⟩).err],[]))
 | _,_=>Zy
def Qv:Sp
 | [.agg [.int .i64 op,.str ux,.str uy,.str uz,.bs bx]],[]=>az (Zz (ux.length<=9223372036854775807)&&Zz (uy.length<=9223372036854775807)&&Zz (uz.length<=9223372036854775807)) (Zx (.aS [.bs (Kerb.eH ⟨op,⟨ux,uy,uz⟩,bx⟩).val,.int .i64 (Kerb.eH ⟨op,⟨ux,uy,uz⟩,bx⟩).err],[]))
 | _,_=>Zy
def Vc:Sp
 | [.bs [x]],[]=>Zx (.agg [.str (Kerb.iH x).client.name,.str (Kerb.iH x).client.inst,.str (Kerb.iH x).client.aJ,.int .i64 (Kerb.iH x).cX,.int .i64 (Kerb.iH x).tick,.int .i64 (Kerb.iH x).time],[])
 | _,_=>Zy
def QB:Sp
 | [.agg [.int .u64 k,.str x,.str y,.str z,.int .i64 lf,.int .i64 kv,.bs tk,.int .i64 t],.bool aq],[]=>az (Zz (x.length<=9223372036854775807)&&Zz (y.length<=9223372036854775807)&&Zz (z.length<=9223372036854775807)&&Zz (0<=k)&&Zz (k<18446744073709551616)) (Zx (.aS [.bs (Kerb.bR ⟨k,⟨x,y,z⟩,lf,kv,tk,t⟩ aq).val,.int .i64 (Kerb.bR ⟨k,⟨x,y,z⟩,lf,kv,tk,t⟩ aq).err],[]))
 | _,_=>Zy
def Ve:Sp
 | [.agg [.int .i64 ck,.int .i64 tc,.int .i64 tm],.bool li],[]=>Zx (.aS [.bs (Kerb.dG ⟨ck,tc,tm⟩ li).val,.int .i64 (Kerb.dG ⟨ck,tc,tm⟩ li).err],[])
 | _,_=>Zy
def Vi:Sp
 | [.agg [.bs dt,.int .i64 tc,.int .i64 ad,.int .i64 tm],.bool li],[]=>Zx (.aS [.bs (Kerb.ca ⟨dt,tc,ad,tm⟩ li).val,.int .i64 (Kerb.ca ⟨dt,tc,ad,tm⟩ li).err],[])
 | _,_=>Zy
def QD:Sp
 | [.agg [.str lb,.int .i64 t,.int .u64 k,.int .i64 st,.int .i64 en,.int .i64 kv,.str x,.str y,.str z,.bs tk]],[]=>az (Zz (x.length<=9223372036854775807)&&Zz (y.length<=9223372036854775807)&&Zz (z.length<=9223372036854775807)&&Zz (0<=k)&&Zz (k<18446744073709551616)) (Zx (.aS [.bs (Kerb.aZ ⟨lb,t,k,st,en,kv,⟨x,y,z⟩,tk⟩).val,.int .i64 (Kerb.aZ ⟨lb,t,k,st,en,kv,⟨x,y,z⟩,tk⟩).err],[]))
 | _,_=>Zy
def QE:Sp
 | [.agg [.str cx,.str cy,.str cz,.str sx,.str sy,.str sz,.int .u64 k,.int .i64 t,.int .i64 e,.int .i64 a]],[]=>az (Zz (cx.length<=9223372036854775807)&&Zz (cy.length<=9223372036854775807)&&Zz (cz.length<=9223372036854775807)&&Zz (sx.length<=9223372036854775807)&&Zz (sy.length<=9223372036854775807)&&Zz (sz.length<=9223372036854775807)&&Zz (0<=k)&&Zz (k<18446744073709551616)) (Zx (.aS [.bs (Kerb.dH ⟨⟨cx,cy,cz⟩,⟨sx,sy,sz⟩,k,t,e,a⟩).val,.int .i64 (Kerb.dH ⟨⟨cx,cy,cz⟩,⟨sx,sy,sz⟩,k,t,e,a⟩).err],[]))
 | _,_=>Zy
def QF:Sp
 | [.agg [.int .u64 k,.str sx,.str sy,.str sz,.int .i64 t,.int .i64 e,.bs rc]],[]=>az (Zz (sx.length<=9223372036854775807)&&Zz (sy.length<=9223372036854775807)&&Zz (sz.length<=9223372036854775807)&&Zz (0<=k)&&Zz (k<18446744073709551616)) (Zx (.aS [.bs (Kerb.cN ⟨k,⟨sx,sy,sz⟩,t,e,rc⟩).val,.int .i64 (Kerb.cN ⟨k,⟨sx,sy,sz⟩,t,e,rc⟩).err],[]))
 | _,_=>Zy
def BK:Sp
 | [.sl 1 ks],[]=>az (Kerb.x_ ks) (Zx (.sl 1 (Kerb.dy (Kerb.bQ (Kerb.ny ks))),[]))
 | _,_=>Zy
def HJ:Sp
 | [.agg [.bool li,.str x,.str y,.str z,.int .i64 ad,.int .u64 k,.int .i64 lf,.int .i64 vE,.str sv,.str ins]],[]=>az (Zz (x.length<=9223372036854775807)&&Zz (y.length<=9223372036854775807)&&Zz (z.length<=9223372036854775807)&&Zz (sv.length<=9223372036854775807)&&Zz (ins.length<=9223372036854775807)&&Zz (0<=k)&&Zz (k<18446744073709551616)) (Zx (.int .i64 (Kerb.dF.mk li ⟨x,y,z⟩ ad k lf vE sv ins).err,[]))
 | _,_=>Zy
def HK:Sp
 | [.agg [.str x,.str y,.str z,.int .i64 ck,.int .i64 tc,.int .i64 tm]],[]=>az (Zz (x.length<=9223372036854775807)&&Zz (y.length<=9223372036854775807)&&Zz (z.length<=9223372036854775807)) (Zx (.int .i64 (Kerb.ma.mk ⟨x,y,z⟩ ck tc tm).check,[]))
 | _,_=>Zy
def xj:Sp
 | [.bs b],[]=>az (Zz (b.length<=4611686018427387904)) (Zx (.aS [.int .u64 (Kerb.eQ b).1,.bool (Kerb.eQ b).2],[]))
 | _,_=>Zy
def tz:Sp
 | [.ptr 0 0],[(0,[.bs B,.int .i64 at_,.bool bad])]=>az (Zz (B.length<=140737488355328)) (Zx (.int .i64 (Kerb.fQ B 4 at_ bad).val,[[.bs B,.int .i64 (Kerb.fQ B 4 at_ bad).pos,.bool (Kerb.fQ B 4 at_ bad).bad]]))
 | _,_=>Zy
def xn:Sp
 | [.ptr 0 0],[(0,[.bs B,.int .i64 at_,.bool bad])]=>az (Zz (B.length<=140737488355328)) (Zx (.int .i64 (Kerb.fQ B 1 at_ bad).val,[[.bs B,.int .i64 (Kerb.fQ B 1 at_ bad).pos,.bool (Kerb.fQ B 1 at_ bad).bad]]))
 | _,_=>Zy
def uM:Sp
 | [.ptr 0 0],[(0,[.bs B,.int .i64 at_,.bool bad])]=>az (Zz (B.length<=140737488355328)) (Zx (.int .i64 (Kerb.pP B 4 at_ bad).val,[[.bs B,.int .i64 (Kerb.pP B 4 at_ bad).pos,.bool (Kerb.pP B 4 at_ bad).bad]]))
 | _,_=>Zy
def Bu:Sp
 | [.ptr 0 0],[(0,[.bs B,.int .i64 at_,.bool bad])]=>az (Zz (B.length<=140737488355328)) (Zx (.int .i64 (Kerb.pP B 2 at_ bad).val,[[.bs B,.int .i64 (Kerb.pP B 2 at_ bad).pos,.bool (Kerb.pP B 2 at_ bad).bad]]))
 | _,_=>Zy
def Bw:Sp
 | [.bs b],[]=>az (Zz (b.length<=140737488355328)) (Zx (.aS [.agg [.bool ((Kerb.jV b).val).aq,.bool ((Kerb.jV b).val).gS,.int .i64 ((Kerb.jV b).val).bO,.str ((Kerb.jV b).val).aJ,.bs ((Kerb.jV b).val).aI,.bs ((Kerb.jV b).val).fg],.int .i64 (Kerb.jV b).next],[]))
 | _,_=>Zy
def PZ:Sp
 | [.ptr 0 0],[(0,[.bs B,.int .i64 at_,.bool bad])]=>az (Zz (B.length<=140737488355328)) (Zx (.str (Kerb.mo B at_ bad).val,[[.bs B,.int .i64 (Kerb.mo B at_ bad).pos,.bool (Kerb.mo B at_ bad).bad]]))
 | _,_=>Zy
def HW:Sp
 | [.ptr 0 0],[(0,[.bs B,.int .i64 at_,.bool bad])]=>az (Zz (B.length<=140737488355328)) (Zx (.int .i64 (Kerb.fQ B 2 at_ bad).val,[[.bs B,.int .i64 (Kerb.fQ B 2 at_ bad).pos,.bool (Kerb.fQ B 2 at_ bad).bad]]))
 | _,_=>Zy
def HX:Sp
 | [.ptr 0 0],[(0,[.bs B,.int .i64 at_,.bool bad])]=>az (Zz (B.length<=140737488355328)) (Zx (.int .i64 (Kerb.pP B 1 at_ bad).val,[[.bs B,.int .i64 (Kerb.pP B 1 at_ bad).pos,.bool (Kerb.pP B 1 at_ bad).bad]]))
 | _,_=>Zy
def qk:Sp
 | [.bs b,.int .i64 n],[]=>az (Zz (b.length<=70368744177664)) (Zx (.bK (b++Kerb.aN n 1 Zw),[]))
 | _,_=>Zy
def pg:Sp
 | [.bs b,.agg [.str x,.str y,.str z]],[]=>az (Zz (b.length+x.length+y.length+z.length<=70368744170000)) (Zx (.bK (Kerb.cC b ⟨x,y,z⟩),[]))
 | _,_=>Zy
def la:Sp
 | [.bs b,.int .i64 n,.bool aq],[]=>az (Zz (b.length<=70368744177664)) (Zx (.bK (b++Kerb.aN n 4 aq),[]))
 | _,_=>Zy
def HZ:Sp
 | [.agg [.str lb,.int .i64 t,.int .i64 st,.int .i64 en,.int .u64 k]],[]=>az (Zz (0<=k)&&Zz (k<18446744073709551616)) (Zx (.int .i64 (Kerb.aR ⟨lb,t,st,en,k⟩).err,[]))
 | _,_=>Zy
def BE:Sp
 | [.bs b,.int .i64 n,.bool aq],[]=>az (Zz (b.length<=70368744177664)) (Zx (.bK (b++Kerb.aN n 2 aq),[]))
 | _,_=>Zy
def H4:Sp
 | [.bs b,.int .i64 at_,.int .i64 most,.bool li],[]=>az (Zz (b.length<=140737488355328)) (Zx (.aS [.bs (Kerb.fu b at_ most li).val,.int .i64 (Kerb.fu b at_ most li).next,.bool (Kerb.fu b at_ most li).ok],[]))
 | _,_=>Zy
def BH:Sp
 | [.str s,.str bad],[]=>az (Zz (s.length<=9223372036854775807)) (Zx (.bool (Kerb.dE s bad),[]))
 | _,_=>Zy
def H9:Sp
 | [.bE 0 27 1,.int .i64 a,.int .i64 b],[(0,els)]=>az (Zu els&&Zz ((els.length:Int)<=1152921504606846976)&&Zz (0<=a)&&Zz (a<=b)&&Zz (b<=(els.length:Int))) (Zx (.aS [],[Kerb.Ks els a b]))
 | _,_=>Zy
def H_:Sp
 | [.bE 0 27 1,.int .i64 a,.int .i64 b],[(0,els)]=>az (Zu els&&Zz ((els.length:Int)<=1152921504606846976)&&Zz (0<=a)&&Zz (a<=b)&&Zz (b<=(els.length:Int))) (Zx (.aS [],[Kerb.DX els a b]))
 | _,_=>Zy
def yY:Sp
 | [.bE 0 27 1,.int .i64 a,.int .i64 b,.int .i64 c,.ptr 4 0],[(0,els),(4,[.int .i64 s])]=>az (Zu els&&Zz ((els.length:Int)<=1152921504606846976)&&Zz (0<=a)&&Zz (a<(els.length:Int))&&Zz (0<=b)&&Zz (b<(els.length:Int))&&Zz (0<=c)&&Zz (c<(els.length:Int))&&Zz (0<=s)&&Zz (s<=900)) (Zx (.int .i64 (Kerb.median els a b c s).1,[els,[.int .i64 (Kerb.median els a b c s).2]]))
 | _,_=>Zy
def MV:Sp
 | [.agg [.bool li,.str x,.str y,.str z,.int .i64 ad,.int .u64 k,.int .i64 lf,.int .i64 vE,.str sv,.str ins]],[]=>az (Zz (x.length<=9223372036854775807)&&Zz (y.length<=9223372036854775807)&&Zz (z.length<=9223372036854775807)&&Zz (sv.length<=9223372036854775807)&&Zz (ins.length<=9223372036854775807)&&Zz (0<=k)&&Zz (k<18446744073709551616)) (Zx (.aS [.bs (Kerb.bB (Kerb.dF.mk li ⟨x,y,z⟩ ad k lf vE sv ins)).val,.int .i64 (Kerb.bB (Kerb.dF.mk li ⟨x,y,z⟩ ad k lf vE sv ins)).err],[]))
 | _,_=>Zy
def QA:Sp
 | [.agg [.str x,.str y,.str z,.int .i64 ck,.int .i64 tc,.int .i64 tm],.bool li],[]=>az (Zz (x.length<=9223372036854775807)&&Zz (y.length<=9223372036854775807)&&Zz (z.length<=9223372036854775807)) (Zx (.aS [.bs (Kerb.fM (Kerb.ma.mk ⟨x,y,z⟩ ck tc tm) li).val,.int .i64 (Kerb.fM (Kerb.ma.mk ⟨x,y,z⟩ ck tc tm) li).err],[]))
 | _,_=>Zy
def Bq:Sp
 | [.agg [.bs dt,.int .i64 tc,.int .i64 ad,.int .i64 tm],.bool li,.int .i64 kd,.int .u64 k],[]=>az (Zz (0<=k)&&Zz (k<18446744073709551616)) (Zx (.aS [.bs (Kerb.io ⟨dt,tc,ad,tm⟩ li kd k).text,.bs (Kerb.io ⟨dt,tc,ad,tm⟩ li kd k).box,.int .i64 (Kerb.io ⟨dt,tc,ad,tm⟩ li kd k).err],[]))
 | _,_=>Zy
def Bs:Sp
 | [.ptr 0 0],[(0,[.bs B,.int .i64 at_,.bool bad])]=>az (Zz (B.length<=140737488355328)) (Zx (.int .u64 (Kerb.A8 B at_ bad).val,[[.bs B,.int .i64 (Kerb.A8 B at_ bad).pos,.bool (Kerb.A8 B at_ bad).bad]]))
 | _,_=>Zy
def HN:Sp
 | [.agg [.str lb,.int .i64 t,.int .i64 st,.int .i64 en,.int .u64 k]],[]=>az (Zz (0<=k)&&Zz (k<18446744073709551616)) (Zx (.aS [.bs (Kerb.aR ⟨lb,t,st,en,k⟩).val,.int .i64 (Kerb.aR ⟨lb,t,st,en,k⟩).err],[]))
 | _,_=>Zy
def Bt:Sp
 | [.ptr 0 0],[(0,[.bs B,.int .i64 at_,.bool bad])]=>az (Zz (B.length<=140737488355328)) (Zx (.int .u64 (Kerb.zc B at_ bad).val,[[.bs B,.int .i64 (Kerb.zc B at_ bad).pos,.bool (Kerb.zc B at_ bad).bad]]))
 | _,_=>Zy
def HS:Sp
 | [.bs b],[]=>az (Zz (b.length<=140737488355328)) (Zx (.aS [.agg [.int .i64 (Kerb.aW b).box.kind,.int .u64 (Kerb.aW b).box.key,.bs (Kerb.aW b).box.body],.int .i64 (Kerb.aW b).n,.int .i64 (Kerb.aW b).err],[]))
 | _,_=>Zy
def PY:Sp
 | [.bs s,.bool li],[]=>Zx (.aS [.bs (Kerb.dN s li).val,.int .i64 (Kerb.dN s li).err],[])
 | _,_=>Zy
def HV:Sp
 | [.bs b],[]=>az (Zz (b.length<=140737488355328)) (Zx (.aS [.int .i64 (Kerb.g9 b).kind,.bs (Kerb.g9 b).plain,.bs (Kerb.g9 b).ia,.bool (Kerb.g9 b).aq,.int .i64 (Kerb.g9 b).err],[]))
 | _,_=>Zy
def BB:Sp
 | [.bs b,.bs t],[]=>az (Zz (b.length+t.length<=70368744170000)) (Zx (.bs (Kerb.g_ b t),[]))
 | _,_=>Zy
def BD:Sp
 | [.bs b,.bs t],[]=>az (Zz (b.length+t.length<=70368744170000)) (Zx (.bs (Kerb.cH b t),[]))
 | _,_=>Zy
def tB:Sp
 | [.str s],[]=>az (Zz (s.length<=9223372036854775807)) (Zx (.bool (Kerb.validName s),[]))
 | _,_=>Zy
def qm:Sp
 | [.str s],[]=>az (Zz (s.length<=9223372036854775807)) (Zx (.bool (Kerb.bS s),[]))
 | _,_=>Zy
def yX:Sp
 | [.bs b,.bs t],[]=>az (Zz (b.length+t.length<=70368744170000)) (Zx (.bs (Kerb.cH b t),[]))
 | _,_=>Zy
def BI:Sp
 | [.bE 0 27 1,.int .i64 a,.ptr 2 0],[(0,els),(2,[.int .i64 s])]=>az (Zu els&&Zz ((els.length:Int)<=1152921504606846976)&&Zz (1<=a)&&Zz (a+1<(els.length:Int))&&Zz (0<=s)&&Zz (s<=800)) (Zx (.int .i64 (Kerb.EG els a s).1,[els,[.int .i64 (Kerb.EG els a s).2]]))
 | _,_=>Zy
def JT:Sp
 | [.agg [.bool li,.str x,.str y,.str z,.int .i64 ad,.int .u64 k,.int .i64 lf,.int .i64 vE,.str sv,.str ins],.int .u64 key],[]=>az (Zz (x.length<=9223372036854775807)&&Zz (y.length<=9223372036854775807)&&Zz (z.length<=9223372036854775807)&&Zz (sv.length<=9223372036854775807)&&Zz (ins.length<=9223372036854775807)&&Zz (0<=k)&&Zz (k<18446744073709551616)&&Zz (0<=key)&&Zz (key<18446744073709551616)) (Zx (.aS [.bs (Kerb.eI (Kerb.dF.mk li ⟨x,y,z⟩ ad k lf vE sv ins) key).val,.int .i64 (Kerb.eI (Kerb.dF.mk li ⟨x,y,z⟩ ad k lf vE sv ins) key).err],[]))
 | _,_=>Zy
def Qw:Sp
 | [.agg [.bs dt,.int .i64 tc,.int .i64 ad,.int .i64 tm],.bool li,.int .u64 k],[]=>az (Zz (0<=k)&&Zz (k<18446744073709551616)) (Zx (.aS [.bs (Kerb.oy ⟨dt,tc,ad,tm⟩ li k).val,.int .i64 (Kerb.oy ⟨dt,tc,ad,tm⟩ li k).err],[]))
 | _,_=>Zy
def Qx:Sp
 | [.agg [.bs dt,.int .i64 tc,.int .i64 ad,.int .i64 tm],.bool li,.int .u64 k],[]=>az (Zz (0<=k)&&Zz (k<18446744073709551616)) (Zx (.aS [.bs (Kerb.ox ⟨dt,tc,ad,tm⟩ li k).val,.int .i64 (Kerb.ox ⟨dt,tc,ad,tm⟩ li k).err],[]))
 | _,_=>Zy
def QH:Sp
 | [.bs b],[]=>az (Zz (b.length<=140737488355328)) (Zx (.aS [.agg [.str ((Kerb.cR b).val).label,.int .i64 ((Kerb.cR b).val).time,.int .i64 ((Kerb.cR b).val).start,.int .i64 ((Kerb.cR b).val).stop,.int .u64 ((Kerb.cR b).val).new],.int .i64 (Kerb.cR b).err],[]))
 | _,_=>Zy
def HA:Sp
 | [.bs b],[]=>az (Zz (b.length<=140737488355328)) (Zx (.bool (Kerb.o0 b),[]))
 | _,_=>Zy
def HE:Sp
 | [.bs b],[]=>az (Zz (b.length<=140737488355328)) (Zx (.aS [.bs (Kerb.ig b).val,.bool (Kerb.ig b).aq,.int .i64 (Kerb.ig b).err],[]))
 | _,_=>Zy
def HF:Sp
 | [.bs b],[]=>az (Zz (b.length<=140737488355328)) (Zx (.aS [.bs (Kerb.g9 b).plain,.bs (Kerb.g9 b).ia,.bool (Kerb.g9 b).aq,.int .i64 (Kerb.g9 b).err],[]))
 | _,_=>Zy
def P2:Sp
 | [.agg [.int .i64 op,.int .i64 cd,.bs bx]],[]=>Zx (.aS [.bs (Kerb.cf ⟨op,cd,bx⟩).val,.int .i64 (Kerb.cf ⟨op,cd,bx⟩).err],[])
 | _,_=>Zy
def BF:Sp
 | [.str s],[]=>az (Zz (s.length<=9223372036854775807)) (Zx (.bool (Kerb.cJ s),[]))
 | _,_=>Zy
def H':Sp
 | [.bE 0 27 1,.int .i64 a,.int .i64 b],[(0,els)]=>az (Zu els&&Zz ((els.length:Int)<=1152921504606846976)&&Zz (0<=a)&&Zz (a<=b)&&Zz (b<=(els.length:Int))&&Zz (a+8<=b)) (Zx (.aS [.int .i64 (Kerb.Hm els a b).1,.int .i64 (Kerb.Gq (Kerb.Hm els a b).2)],[els]))
 | _,_=>Zy
def U7:Sp
 | [.agg [.u8 kd,.u8 bx,.u8 se,.u8 fN,.u8 de,.bool li,.int .u16 hw]],[]=>Zx (.bs (Kerb.fc fN de),[])
 | _,_=>Zy
def Cz:Sp
 | [.sl 1 bs],[]=>az (Kerb.sO bs) (Zx (.sl 1 (Kerb.c8 (Kerb.gZ (Kerb.rf bs))),[]))
 | _,_=>Zy
def HH:Sp
 | [.bs b],[]=>az (Zz (b.length<=140737488355328)) (Zx (.aS [.agg [.int .i64 ((Kerb.dd b).val).op,.int .i64 ((Kerb.dd b).val).code,.bs ((Kerb.dd b).val).box],.int .i64 (Kerb.dd b).err],[]))
 | _,_=>Zy
def Bx:Sp
 | [.agg [.bool li,.bool mu,.int .i64 kv,.str rl,.bs tk,.bs au]],[]=>az (Zz (rl.length<=9223372036854775807)) (Zx (.aS [.bs (Kerb.bZ (Kerb.cP.mk li mu kv rl tk au)).val,.int .i64 (Kerb.bZ (Kerb.cP.mk li mu kv rl tk au)).err],[]))
 | _,_=>Zy
def mq:Sp
 | [.agg [.str a,.str b,.str c]],[]=>az (Zz (a.length<=9223372036854775807)&&Zz (b.length<=9223372036854775807)&&Zz (c.length<=9223372036854775807)) (Zx (.bool (Kerb.bf.valid ⟨a,b,c⟩),[]))
 | _,_=>Zy
def tt(za:Nat):Sp
 | [.bE 0 27 1,.int .i64 a,.int .i64 b,.int .i64 l],[(0,els)]=>az ((Zu els&&Zz ((els.length:Int)<=1152921504606846976)&&Kerb.nn a&&Zz (a<=b)&&Zz (b<=(els.length:Int))&&Zz (0<=l)&&Zz (l<=64))&&Zz (b-a<(za:Int))) (Zx (.aS [],[Kerb.O' els a b l]))
 | _,_=>Zy
def DB:Sp
 | [.bE 0 27 1,.int .i64 a,.int .i64 b,.int .i64 l],[(0,els)]=>az (Zu els&&Zz ((els.length:Int)<=1152921504606846976)&&Kerb.nn a&&Zz (a<=b)&&Zz (b<=(els.length:Int))&&Zz (0<=l)&&Zz (l<=64)) (Zx (.aS [],[Kerb.O' els a b l]))
 | _,_=>Zy
def PL:Sp
 | [.agg [.u8 kd,.u8 bx,.u8 se,.u8 fN,.u8 de,.bool li,.int .u16 hw]],[]=>az (Zz (0<=hw)&&Zz (hw<=65535)) (Zx (.bs (Kerb.oS ⟨kd,bx,se,fN,de,li,hw⟩),[]))
 | _,_=>Zy
def HC:Sp
 | [.bs b],[]=>az (Zz (b.length<=140737488355328)) (Zx (.aS [.agg [.bool ((Kerb.fl b).val).aq,.bool ((Kerb.fl b).val).gS,.int .i64 ((Kerb.fl b).val).bO,.str ((Kerb.fl b).val).aJ,.bs ((Kerb.fl b).val).aI,.bs ((Kerb.fl b).val).fg],.int .i64 (Kerb.fl b).err],[]))
 | _,_=>Zy
def xg:Sp
 | [.bs b,.int .i64 pos],[]=>az (Zz (b.length<=4611686018427387904)) (Zx (.aS [.agg [.str (Kerb.iA b pos).val.name,.str (Kerb.iA b pos).val.inst,.str (Kerb.iA b pos).val.aJ],.int .i64 (Kerb.iA b pos).next,.int .i64 (Kerb.iA b pos).err],[]))
 | _,_=>Zy
def HM:Sp
 | [.agg [.int .u64 k,.str x,.str y,.str z,.int .i64 lf,.int .i64 kv,.bs tk,.int .i64 t],.bool aq],[]=>az (Zz (x.length<=9223372036854775807)&&Zz (y.length<=9223372036854775807)&&Zz (z.length<=9223372036854775807)&&Zz (0<=k)&&Zz (k<18446744073709551616)) (Zx (.aS [.bs (Kerb.bR ⟨k,⟨x,y,z⟩,lf,kv,tk,t⟩ aq).val,.int .i64 (Kerb.bR ⟨k,⟨x,y,z⟩,lf,kv,tk,t⟩ aq).err],[]))
 | _,_=>Zy
def HQ:Sp
 | [.agg [.str cx,.str cy,.str cz,.str sx,.str sy,.str sz,.int .u64 k,.int .i64 t,.int .i64 e,.int .i64 a]],[]=>az (Zz (cx.length<=9223372036854775807)&&Zz (cy.length<=9223372036854775807)&&Zz (cz.length<=9223372036854775807)&&Zz (sx.length<=9223372036854775807)&&Zz (sy.length<=9223372036854775807)&&Zz (sz.length<=9223372036854775807)&&Zz (0<=k)&&Zz (k<18446744073709551616)) (Zx (.aS [.bs (Kerb.dH ⟨⟨cx,cy,cz⟩,⟨sx,sy,sz⟩,k,t,e,a⟩).val,.int .i64 (Kerb.dH ⟨⟨cx,cy,cz⟩,⟨sx,sy,sz⟩,k,t,e,a⟩).err],[]))
 | _,_=>Zy
def HR:Sp
 | [.agg [.int .u64 k,.str sx,.str sy,.str sz,.int .i64 t,.int .i64 e,.bs rc]],[]=>az (Zz (sx.length<=9223372036854775807)&&Zz (sy.length<=9223372036854775807)&&Zz (sz.length<=9223372036854775807)&&Zz (0<=k)&&Zz (k<18446744073709551616)) (Zx (.aS [.bs (Kerb.cN ⟨k,⟨sx,sy,sz⟩,t,e,rc⟩).val,.int .i64 (Kerb.cN ⟨k,⟨sx,sy,sz⟩,t,e,rc⟩).err],[]))
 | _,_=>Zy
def HT:Sp
 | [.agg [.bool li,.str x,.str y,.str z,.int .i64 t,.int .i64 ex,.int .i64 kv,.bs sd]],[]=>az (Zz (x.length<=9223372036854775807)&&Zz (y.length<=9223372036854775807)&&Zz (z.length<=9223372036854775807)) (Zx (.aS [.bs (Kerb.dQ ⟨li,⟨x,y,z⟩,t,ex,kv,sd⟩).val,.int .i64 (Kerb.dQ ⟨li,⟨x,y,z⟩,t,ex,kv,sd⟩).err],[]))
 | _,_=>Zy
def HU:Sp
 | [.agg [.bool li,.bool mu,.int .i64 kv,.str rl,.bs tk,.bs au,.int .i64 tm,.int .i64 lf,.str sv,.str ins]],[]=>az (Zz (rl.length<=9223372036854775807)&&Zz (sv.length<=9223372036854775807)&&Zz (ins.length<=9223372036854775807)) (Zx (.aS [.bs (Kerb.dO (Kerb.ff.mk (Kerb.cP.mk li mu kv rl tk au) tm lf sv ins)).val,.int .i64 (Kerb.dO (Kerb.ff.mk (Kerb.cP.mk li mu kv rl tk au) tm lf sv ins)).err],[]))
 | _,_=>Zy
def HY:Sp
 | [.agg [.int .i64 op,.str ux,.str uy,.str uz,.bs bx]],[]=>az (Zz (ux.length<=9223372036854775807)&&Zz (uy.length<=9223372036854775807)&&Zz (uz.length<=9223372036854775807)) (Zx (.aS [.bs (Kerb.eH ⟨op,⟨ux,uy,uz⟩,bx⟩).val,.int .i64 (Kerb.eH ⟨op,⟨ux,uy,uz⟩,bx⟩).err],[]))
 | _,_=>Zy
def P7:Sp
 | [.agg [.bool li,.str x,.str y,.str z,.int .i64 ad,.int .u64 k,.int .i64 lf,.int .i64 vE,.str sv,.str ins]],[]=>az (Zz (x.length<=9223372036854775807)&&Zz (y.length<=9223372036854775807)&&Zz (z.length<=9223372036854775807)&&Zz (sv.length<=9223372036854775807)&&Zz (ins.length<=9223372036854775807)&&Zz (0<=k)&&Zz (k<18446744073709551616)) (Zx (.int .i64 (Kerb.dF.mk li ⟨x,y,z⟩ ad k lf vE sv ins).err,[]))
 | _,_=>Zy
def H0:Sp
 | [.agg [.str lb,.int .i64 t,.int .u64 k,.int .i64 st,.int .i64 en,.int .i64 kv,.str x,.str y,.str z,.bs tk]],[]=>az (Zz (x.length<=9223372036854775807)&&Zz (y.length<=9223372036854775807)&&Zz (z.length<=9223372036854775807)&&Zz (0<=k)&&Zz (k<18446744073709551616)) (Zx (.int .i64 (Kerb.aZ ⟨lb,t,k,st,en,kv,⟨x,y,z⟩,tk⟩).err,[]))
 | _,_=>Zy
def H2:Sp
 | [.bE 0 27 1],[(0,els)]=>az (Zu els&&Zz ((els.length:Int)<=1152921504606846976)) (Zx (.aS [],[Kerb.yV els]))
 | _,_=>Zy
def H5:Sp
 | [.agg [.int .i64 op,.str ux,.str uy,.str uz,.int .i64 kv,.str rl,.bs tk,.str sv,.str ins,.bs bx]],[]=>az (Zz (ux.length<=9223372036854775807)&&Zz (uy.length<=9223372036854775807)&&Zz (uz.length<=9223372036854775807)&&Zz (rl.length<=9223372036854775807)&&Zz (sv.length<=9223372036854775807)&&Zz (ins.length<=9223372036854775807)) (Zx (.int .i64 (Kerb.aX ⟨op,⟨ux,uy,uz⟩,kv,rl,tk,sv,ins,bx⟩).err,[]))
 | _,_=>Zy
def Y7:Sp
 | [.agg [.u8 kd,.u8 bx,.u8 se,.u8 fN,.u8 de,.bool li,.int .u16 hw]],[]=>az (Zz (0<=hw)&&Zz (hw<=65535)) (Zx (.bs (Kerb.oz ⟨kd,bx,se,fN,de,li,hw⟩),[]))
 | _,_=>Zy
def MW:Sp
 | [.bs b,.bool aq],[]=>az (Zz (b.length<=140737488355328)) (Zx (.aS [.agg [.int .u64 ((Kerb.bA b aq).val).aB,.str ((Kerb.bA b aq).val).service.name,.str ((Kerb.bA b aq).val).service.inst,.str ((Kerb.bA b aq).val).service.aJ,.int .i64 ((Kerb.bA b aq).val).cl,.int .i64 ((Kerb.bA b aq).val).bO,.bs ((Kerb.bA b aq).val).aI,.int .i64 ((Kerb.bA b aq).val).time],.int .i64 (Kerb.bA b aq).err],[]))
 | _,_=>Zy
def HB:Sp
 | [.bs b],[]=>az (Zz (b.length<=140737488355328)) (Zx (.aS [.agg [.bool ((Kerb.bJ b).val).aq,.str ((Kerb.bJ b).val).client.name,.str ((Kerb.bJ b).val).client.inst,.str ((Kerb.bJ b).val).client.aJ,.int .i64 ((Kerb.bJ b).val).time,.int .i64 ((Kerb.bJ b).val).eu,.int .i64 ((Kerb.bJ b).val).bO,.bs ((Kerb.bJ b).val).ia],.int .i64 (Kerb.bJ b).err],[]))
 | _,_=>Zy
def HD:Sp
 | [.bs b],[]=>az (Zz (b.length<=140737488355328)) (Zx (.aS [.agg [.bool ((Zk b).val).ap.aq,.bool ((Zk b).val).ap.gS,.int .i64 ((Zk b).val).ap.bO,.str ((Zk b).val).ap.aJ,.bs ((Zk b).val).ap.aI,.bs ((Zk b).val).ap.fg,.int .i64 ((Zk b).val).time,.int .i64 ((Zk b).val).cl,.str ((Zk b).val).service,.str ((Zk b).val).inst],.int .i64 (Zk b).err],[]))
 | _,_=>Zy
def HL:Sp
 | [.agg [.bool li,.str x,.str y,.str z,.int .i64 ad,.int .u64 k,.int .i64 lf,.int .i64 vE,.str sv,.str ins]],[]=>az (Zz (x.length<=9223372036854775807)&&Zz (y.length<=9223372036854775807)&&Zz (z.length<=9223372036854775807)&&Zz (sv.length<=9223372036854775807)&&Zz (ins.length<=9223372036854775807)&&Zz (0<=k)&&Zz (k<18446744073709551616)) (Zx (.aS [.bs (Kerb.bB (Kerb.dF.mk li ⟨x,y,z⟩ ad k lf vE sv ins)).val,.int .i64 (Kerb.bB (Kerb.dF.mk li ⟨x,y,z⟩ ad k lf vE sv ins)).err],[]))
 | _,_=>Zy
def HO:Sp
 | [.ptr 0 0],[(0,[.bs B,.int .i64 at_,.bool bad])]=>az (Zz (B.length<=140737488355328)) (Zx (.agg [.str (Kerb.nk B at_ bad).val.name,.str (Kerb.nk B at_ bad).val.inst,.str (Kerb.nk B at_ bad).val.aJ],[[.bs B,.int .i64 (Kerb.nk B at_ bad).pos,.bool (Kerb.nk B at_ bad).bad]]))
 | _,_=>Zy
def HP:Sp
 | [.agg [.str lb,.int .i64 t,.int .u64 k,.int .i64 st,.int .i64 en,.int .i64 kv,.str x,.str y,.str z,.bs tk]],[]=>az (Zz (x.length<=9223372036854775807)&&Zz (y.length<=9223372036854775807)&&Zz (z.length<=9223372036854775807)&&Zz (0<=k)&&Zz (k<18446744073709551616)) (Zx (.aS [.bs (Kerb.aZ ⟨lb,t,k,st,en,kv,⟨x,y,z⟩,tk⟩).val,.int .i64 (Kerb.aZ ⟨lb,t,k,st,en,kv,⟨x,y,z⟩,tk⟩).err],[]))
 | _,_=>Zy
def uL:Sp
 | [.ptr 0 0],[(0,[.bs B,.int .i64 at_,.bool bad])]=>az (Zz (B.length<=140737488355328)) (Zx (.agg [.str (Kerb.lC B at_ bad).val.name,.str (Kerb.lC B at_ bad).val.inst,.str (Kerb.lC B at_ bad).val.aJ],[[.bs B,.int .i64 (Kerb.lC B at_ bad).pos,.bool (Kerb.lC B at_ bad).bad]]))
 | _,_=>Zy
def PU:Sp
 | [.sl 1 l,.int .u64 k],[]=>az (Zu l&&Kerb.Ld (Kerb.B9 l k)&&Zz ((l.length:Int)<=100000000)) (Zx (.aF (Kerb.B9 l k),[]))
 | _,_=>Zy
def P1:Sp
 | [.agg [.int .i64 op,.str ux,.str uy,.str uz,.int .i64 kv,.str rl,.bs tk,.str sv,.str ins,.bs bx]],[]=>az (Zz (ux.length<=9223372036854775807)&&Zz (uy.length<=9223372036854775807)&&Zz (uz.length<=9223372036854775807)&&Zz (rl.length<=9223372036854775807)&&Zz (sv.length<=9223372036854775807)&&Zz (ins.length<=9223372036854775807)) (Zx (.aS [.bs (Kerb.aX ⟨op,⟨ux,uy,uz⟩,kv,rl,tk,sv,ins,bx⟩).val,.int .i64 (Kerb.aX ⟨op,⟨ux,uy,uz⟩,kv,rl,tk,sv,ins,bx⟩).err],[]))
 | _,_=>Zy
def QG:Sp
 | [.bs b],[]=>az (Zz (b.length<=140737488355328)) (Zx (.aS [.agg [.bool ((Zf b).val).aq,.str ((Zf b).val).client.name,.str ((Zf b).val).client.inst,.str ((Zf b).val).client.aJ,.int .i64 ((Zf b).val).address,.int .u64 ((Zf b).val).aB,.int .i64 ((Zf b).val).cl,.int .i64 ((Zf b).val).cE,.str ((Zf b).val).service,.str ((Zf b).val).inst],.int .i64 (Zf b).err],[]))
 | _,_=>Zy
def QI:Sp
 | [.bs b],[]=>az (Zz (b.length<=140737488355328)) (Zx (.aS [.agg [.str ((Zp b).val).label,.int .i64 ((Zp b).val).time,.int .u64 ((Zp b).val).aB,.int .i64 ((Zp b).val).start,.int .i64 ((Zp b).val).stop,.int .i64 ((Zp b).val).bO,.str ((Zp b).val).service.name,.str ((Zp b).val).service.inst,.str ((Zp b).val).service.aJ,.bs ((Zp b).val).aI],.int .i64 (Zp b).err],[]))
 | _,_=>Zy
def QJ:Sp
 | [.bs b],[]=>az (Zz (b.length<=140737488355328)) (Zx (.aS [.agg [.str ((Zj b).val).client.name,.str ((Zj b).val).client.inst,.str ((Zj b).val).client.aJ,.str ((Zj b).val).service.name,.str ((Zj b).val).service.inst,.str ((Zj b).val).service.aJ,.int .u64 ((Zj b).val).aB,.int .i64 ((Zj b).val).start,.int .i64 ((Zj b).val).stop,.int .i64 ((Zj b).val).addr],.int .i64 (Zj b).err],[]))
 | _,_=>Zy
def QK:Sp
 | [.bs b],[]=>az (Zz (b.length<=140737488355328)) (Zx (.aS [.agg [.int .u64 ((Kerb.cF b).val).aB,.str ((Kerb.cF b).val).service.name,.str ((Kerb.cF b).val).service.inst,.str ((Kerb.cF b).val).service.aJ,.int .i64 ((Kerb.cF b).val).start,.int .i64 ((Kerb.cF b).val).stop,.bs ((Kerb.cF b).val).record],.int .i64 (Kerb.cF b).err],[]))
 | _,_=>Zy
def HG:Sp
 | [.bs b],[]=>az (Zz (b.length<=140737488355328)) (Zx (.aS [.agg [.int .i64 ((Zd b).val).op,.str ((Zd b).val).user.name,.str ((Zd b).val).user.inst,.str ((Zd b).val).user.aJ,.int .i64 ((Zd b).val).bO,.str ((Zd b).val).aJ,.bs ((Zd b).val).aI,.str ((Zd b).val).service,.str ((Zd b).val).inst,.bs ((Zd b).val).box],.int .i64 (Zd b).err],[]))
 | _,_=>Zy
def HI:Sp
 | [.bs b],[]=>az (Zz (b.length<=140737488355328)) (Zx (.aS [.agg [.int .i64 ((Kerb.eW b).val).op,.str ((Kerb.eW b).val).name.name,.str ((Kerb.eW b).val).name.inst,.str ((Kerb.eW b).val).name.aJ,.bs ((Kerb.eW b).val).box],.int .i64 (Kerb.eW b).err],[]))
 | _,_=>Zy
def Sg:Sp
 | [.agg [.int .i64 kd,.int .u64 k,.bs b]],[]=>az (Zz (b.length<=70368744170000)) (Zx (.aS [.sl 1 (Kerb.dy (Kerb.iJ ⟨kd,k,b⟩).keys),.sl 1 (Kerb.c8 (Kerb.iJ ⟨kd,k,b⟩).boxes)],[]))
 | _,_=>Zy
def Qy:Sp
 | [.bs b],[]=>az (Zz (b.length<=70368744170000)) (Zx (.sl 1 (Kerb.c8 (Kerb.l7 b)),[]))
 | _,_=>Zy
def U4:Sp
 | [.bs b],[]=>az (Zz (b.length<=70368744170000)) (Zx (.sl 1 (Kerb.c8 (Kerb.partsOf b)),[]))
 | _,_=>Zy
def DA(za:Nat):Sp
 | [.ptr 0 0,.bs b],[(0,[.sl 1 ks,.sl 1 bs])]=>az ((Kerb.vd ks bs&&Zz (b.length<=70368744170000))&&Zz ((b.length:Int)<(za:Int))) (Zx (.bool !(Kerb.d_ (Kerb.kn ks bs) b),[[.sl 1 ks,.sl 1 bs]]))
 | _,_=>Zy
def K2:Sp
 | [.ptr 0 0,.bs b],[(0,[.sl 1 ks,.sl 1 bs])]=>az (Kerb.vd ks bs&&Zz (b.length<=70368744170000)) (Zx (.bool !(Kerb.d_ (Kerb.kn ks bs) b),[[.sl 1 ks,.sl 1 bs]]))
 | _,_=>Zy
def U6:Sp
 | [.agg [.sl 1 ks,.sl 1 bs],.bs b],[]=>az (Kerb.vd ks bs&&Zz (b.length<=70368744160000)) (Zx (.bool (Kerb.DY (Kerb.kn ks bs) b),[]))
 | _,_=>Zy
def MT:Sp
 | [.agg [.sl 1 ks,.sl 1 bs],.bs b],[]=>az (Kerb.vd ks bs&&Zz (Kerb.ml (Kerb.kn ks bs)+2*b.length+2100<=1000000)) (Zx (.agg [.sl 1 (Kerb.dy (Kerb.learn (Kerb.kn ks bs) b).keys),.sl 1 (Kerb.c8 (Kerb.learn (Kerb.kn ks bs) b).boxes)],[]))
 | _,_=>Zy
def MU:Sp
 | [.agg [.sl 1 ks,.sl 1 bs],.int .u64 k],[]=>az (Kerb.vd ks bs&&Zz (0<=k)&&Zz (k<18446744073709551616)&&Zz (Kerb.ml (Kerb.kn ks bs)+1<=1000000)) (Zx (.agg [.sl 1 (Kerb.dy (Kerb.leak (Kerb.kn ks bs) k).keys),.sl 1 (Kerb.c8 (Kerb.leak (Kerb.kn ks bs) k).boxes)],[]))
 | _,_=>Zy
def sp8:Sp
 | [],[]=>Zx (.bool Zb,[])
 | _,_=>Zy
def PV:Sp
 | [.sl 7 ls,.bs lk,.int .i64 tn],[]=>az (ls.all Kerb.mY&&Zz (ls.length<=10)&&Zz (0<=tn)&&Zz (tn<=255)) (Zx (.agg [.sl 1 (Kerb.dy (Kerb.zR ls lk tn).keys),.sl 1 (Kerb.c8 (Kerb.zR ls lk tn).boxes)],[]))
 | _,_=>Zy
def sp5:Sp
 | [.sl 7 ls,.agg [.u8 kd,.u8 bx,.u8 se,.u8 fN,.u8 de,.bool li,.int .u16 hw]],[]=>az (ls.all Kerb.mY&&Zz (0<=hw)&&Zz (hw<=65535)) (Zx (.bool Zb,[]))
 | _,_=>Zy
def rH{β:Type}(a:List AV)(f:List UInt8->Int->Int->Option β):Option β:=Option.bind (rF a []) (kT fun l=>bu l fun p1 l=>ak .i64 l fun p2 l=>ak .i64 l fun p3 l=>aw l (f p1 p2 p3))
def K'{β:Type}(a:List AV)(f:Int->Int->Int->Option β):Option β:=Option.bind (Bz a []) (kT fun l=>ak .i64 l fun p1 l=>ak .i64 l fun p2 l=>ak .i64 l fun p3 l=>aw l (f p1 p2 p3))
def VH{β:Type}(a:List AV)(f:List UInt8->List UInt8->List UInt8->Option β):Option β:=Option.bind (JU a []) (kA fun l=>aL l fun p1 l=>aL l fun p2 l=>aL l fun p3 l=>aw l (f p1 p2 p3))
def C67{β:Type}(a:List AV)(f:List UInt8->Int->Option β):Option β:=Option.bind (QC a []) (kT fun l=>ay l fun x l=>AV.eO x fun p1=>ak .i64 l fun p2 l=>aw l (f p1 p2))
def VI{β:Type}(a:List AV)(f:List UInt8->Int->Option β):Option β:=Option.bind (JW a []) (kT fun l=>bu l fun p1 l=>ak .i64 l fun p2 l=>aw l (f p1 p2))
def pE{β:Type}(a:List AV)(f:Int->Int->Int->Option β):Option β:=Option.bind (tw a []) (kT fun l=>ak .i64 l fun p1 l=>ak .i64 l fun p2 l=>ak .i64 l fun p3 l=>aw l (f p1 p2 p3))
def vF{β:Type}(a:List AV)(f:Int->Int->Int->Option β):Option β:=Option.bind (uK a []) (kT fun l=>ak .i64 l fun p1 l=>ak .i64 l fun p2 l=>ak .i64 l fun p3 l=>aw l (f p1 p2 p3))
def vG{β:Type}(a:List AV)(f:List UInt8->Int->Int->Option β):Option β:=Option.bind (xk a []) (kT fun l=>aL l fun p1 l=>ak .i64 l fun p2 l=>ak .i64 l fun p3 l=>aw l (f p1 p2 p3))
def B8{β:Type}(a:List AV)(f:Int->Int->Int->Option β):Option β:=Option.bind (xr a []) (kT fun l=>ak .i64 l fun p1 l=>ak .i64 l fun p2 l=>ak .i64 l fun p3 l=>aw l (f p1 p2 p3))
def C68{β:Type}(a:List AV)(f:List UInt8->Int->Option β):Option β:=Option.bind (QD a []) (kT fun l=>bu l fun p1 l=>ak .i64 l fun p2 l=>aw l (f p1 p2))
def C69{β:Type}(a:List AV)(f:List UInt8->Int->Option β):Option β:=Option.bind (QE a []) (kT fun l=>bu l fun p1 l=>ak .i64 l fun p2 l=>aw l (f p1 p2))
def C70{β:Type}(a:List AV)(f:List UInt8->Int->Option β):Option β:=Option.bind (QF a []) (kT fun l=>bu l fun p1 l=>ak .i64 l fun p2 l=>aw l (f p1 p2))
def B7{β:Type}(a:List AV)(f:Int->Bool->Option β):Option β:=Option.bind (xj a []) (kT fun l=>ak .u64 l fun p1 l=>aG l fun p2 l=>aw l (f p1 p2))
def Q7{β:Type}(a:List AV)(f:List UInt8->Int->Bool->Option β):Option β:=Option.bind (H4 a []) (kT fun l=>bu l fun p1 l=>ak .i64 l fun p2 l=>aG l fun p3 l=>aw l (f p1 p2 p3))
def ZQ{β:Type}(a:List AV)(f:List UInt8->Int->Option β):Option β:=Option.bind (MV a []) (kT fun l=>bu l fun p1 l=>ak .i64 l fun p2 l=>aw l (f p1 p2))
def V1{β:Type}(a:List AV)(f:Int->Int->List UInt8->Int->Int->Option β):Option β:=Option.bind (HS a []) (kT fun l=>ay l fun x l=>AV.eL x fun m=>ak .i64 m fun p1 m=>ak .u64 m fun p2 m=>bu m fun p3 m=>aw m (ak .i64 l fun p4 l=>ak .i64 l fun p5 l=>aw l (f p1 p2 p3 p4 p5)))
def B6{β:Type}(a:List AV)(f:List UInt8->List UInt8->List UInt8->Int->Int->Option β):Option β:=Option.bind (xg a []) (kT fun l=>ay l fun x l=>AV.eL x fun m=>aL m fun p1 m=>aL m fun p2 m=>aL m fun p3 m=>aw m (ak .i64 l fun p4 l=>ak .i64 l fun p5 l=>aw l (f p1 p2 p3 p4 p5)))
def C15{β:Type}(a:List AV)(f:List AV->List AV->Option β):Option β:=Option.bind (Sg a []) (kT fun l=>cO 1 l fun p1 l=>cO 1 l fun p2 l=>aw l (f p1 p2))
def ZO{β:Type}(a:List AV)(f:List AV->List AV->Option β):Option β:=Option.bind (MT a []) (kA fun l=>cO 1 l fun p1 l=>cO 1 l fun p2 l=>aw l (f p1 p2))
def ZP{β:Type}(a:List AV)(f:List AV->List AV->Option β):Option β:=Option.bind (MU a []) (kA fun l=>cO 1 l fun p1 l=>cO 1 l fun p2 l=>aw l (f p1 p2))
def MY:List (Nat×Nat×List CT×Sp):=[(21,1,[.int .i64],JS),(24,1,[.int .i64],Qf),(46,1,[.fT,.int .u16],JV),(89,1,[.ptr,.int .i64],yv),(90,1,[.int .i64],Vl),(92,1,[.int .i64,.int .i64],Vo),(94,1,[.int .i64,.bool],Vr),(95,1,[.fT,.str],oN),(107,1,[.int .i64,.int .i64],PI),(113,1,[.int .i64],PJ),(114,1,[.int .i64,.int .i64],PK),(138,1,[.int .u64],l8),(139,1,[.fT],iG),(142,1,[.int .i64,.int .i64],PN),(144,1,[.int .i64,.int .i64],PO),(152,1,[.fT,.fT],PP),(156,1,[.str],PQ),(159,1,[.str],PR),(170,1,[.sl 1],PS),(171,1,[.sl 1],PT),(174,1,[.str,.str],xp),(175,1,[.fT,.int .i64,.int .i64,.bool],xq),(184,1,[],PW),(205,1,[.int .i64,.int .i64],P3),(206,1,[.int .i64,.int .i64],P4),(207,1,[.int .i64,.int .i64],P5),(210,1,[.fT,.int .i64,.int .i64],xt),(211,1,[.fT],BA),(218,1,[.int .u64],tA),(221,1,[.int .i64,.int .i64],P9),(222,1,[.ptr,.int .i64,.int .i64],P_),(226,1,[.ptr,.int .i64,.int .i64],P'),(229,1,[.int .i64,.int .i64],Qb),(233,1,[.int .i64],Qc),(234,1,[.int .i64],Qd),(238,1,[.int .i64],Qe),(241,1,[.int .i64,.sl 1],H3),(245,1,[.int .i64,.int .i64],Qi),(251,1,[.int .i64],Qk),(252,1,[.int .i64,.int .i64],Ql),(254,1,[.fT,.u8],Qm),(255,1,[.int .i64,.int .i64],Qn),(257,1,[.other,.other],H6),(258,1,[.other,.other],H7),(261,1,[.int .i64],Qo),(267,1,[.sl 1,.int .i64,.int .i64],Ia),(273,1,[.int .u64],Ic),(277,1,[.ptr],Ig),(280,1,[.int .u64],Qr),(283,1,[.str,.u8],Qt),(29,2,[.u8],U5),(60,2,[.u8],Va),(91,2,[.str],Fe),(93,2,[.fT,.int .i64],iu),(105,2,[.int .i64],Bp),(108,2,[.fT,.other],je),(109,2,[.fT,.int .i64,.bool],eF),(110,2,[.fT,.int .i64,.bool],k_),(111,2,[.str],tu),(112,2,[.str],tv),(136,2,[.int .u64],nD),(148,2,[.fT,.int .i64,.int .i64],rF),(177,2,[.int .u64],Bv),(208,2,[.fT,.int .i64,.int .i64,.bool],Bz),(212,2,[.fT,.u8],P6),(217,2,[.sl 1],P8),(228,2,[.int .i64,.int .i64],Qa),(240,2,[.fT],Qg),(242,2,[.int .i64,.bool],Qh),(260,2,[.int .u64],BG),(269,2,[.int .u64,.int .u64],Qp),(281,2,[.str,.u8],Qs),(25,3,[.other],Qj),(36,3,[.int .i64],JU),(40,3,[.fT,.bool],U9),(42,3,[.other],U'),(59,3,[.int .i64],Qz),(67,3,[.other],QC),(71,3,[.int .i64,.int .u64,.fT],JW),(97,3,[.int .u64],yw),(106,3,[.other],jA),(116,3,[.fT,.fT,.bool],yW),(141,3,[.fT,.bool],PM),(143,3,[.int .u64],Br),(145,3,[.fT,.int .i64],tw),(147,3,[.fT,.int .i64,.bool],uK),(150,3,[.fT,.int .i64],xk),(154,3,[.ptr,.int .i64],rG),(167,3,[.ptr,.int .i64],xo),(185,3,[.fT,.sl 1],PX),(186,3,[.fT,.int .i64,.bool],xr),(219,3,[.fT,.str],ph),(220,3,[.fT],ql),(227,3,[.int .u64],BC),(256,3,[.fT,.int .i64,.int .i64,.bool],xu),(263,3,[.sl 1,.int .i64,.int .i64],H8),(268,3,[.sl 1,.int .i64,.int .i64],Ib),(270,3,[.sl 1,.int .i64,.int .i64,.int .i64],DC),(271,3,[.sl 1,.int .i64,.int .i64,.int .i64],DE),(274,3,[.str,.u8],Qq),(275,3,[.sl 1,.int .i64,.int .i64,.int .i64],DF),(276,3,[.int .i64],Ie),(282,3,[.sl 1,.int .i64,.int .i64,.ptr],BJ),(22,4,[.fT],Fc),(37,4,[.other],Qu),(39,4,[.other],U8),(41,4,[.other],U_),(43,4,[.other],Qv),(63,4,[.fT],Vc),(64,4,[.other,.bool],QB),(65,4,[.other,.bool],Ve),(66,4,[.other,.bool],Vi),(68,4,[.other],QD),(69,4,[.other],QE),(70,4,[.other],QF),(73,4,[.sl 1],BK),(137,4,[.other],HJ),(140,4,[.other],HK),(149,4,[.fT],xj),(155,4,[.ptr],tz),(160,4,[.ptr],xn),(165,4,[.ptr],uM),(168,4,[.ptr],Bu),(188,4,[.fT],Bw),(193,4,[.ptr],PZ),(194,4,[.ptr],HW),(197,4,[.ptr],HX),(214,4,[.fT,.int .i64],qk),(215,4,[.fT,.other],pg),(216,4,[.fT,.int .i64,.bool],la),(223,4,[.other],HZ),(243,4,[.fT,.int .i64,.bool],BE),(248,4,[.fT,.int .i64,.int .i64,.bool],H4),(262,4,[.str,.str],BH),(264,4,[.sl 1,.int .i64,.int .i64],H9),(265,4,[.sl 1,.int .i64,.int .i64],H_),(279,4,[.sl 1,.int .i64,.int .i64,.int .i64,.ptr],yY),(61,5,[.other],MV),(62,5,[.other,.bool],QA),(115,5,[.other,.bool,.int .i64,.int .u64],Bq),(157,5,[.ptr],Bs),(158,5,[.other],HN),(164,5,[.ptr],Bt),(182,5,[.fT],HS),(191,5,[.fT,.bool],PY),(192,5,[.fT],HV),(225,5,[.fT,.fT],BB),(230,5,[.fT,.fT],BD),(246,5,[.str],tB),(247,5,[.str],qm),(250,5,[.fT,.fT],yX),(278,5,[.sl 1,.int .i64,.ptr],BI),(23,6,[.other,.int .u64],JT),(44,6,[.other,.bool,.int .u64],Qw),(45,6,[.other,.bool,.int .u64],Qx),(75,6,[.fT],QH),(117,6,[.fT],HA),(121,6,[.fT],HE),(122,6,[.fT],HF),(196,6,[.other],P2),(244,6,[.str],BF),(266,6,[.sl 1,.int .i64,.int .i64],H')]
def MZ:List (Nat×Nat×List CT×Sp):=[(38,7,[.other],U7),(47,7,[.sl 1],Cz),(124,7,[.fT],HH),(189,7,[.other],Bx),(209,7,[.other],mq),(259,7,[.sl 1,.int .i64,.int .i64,.int .i64],DB),(14,8,[.other],PL),(119,8,[.fT],HC),(146,8,[.fT,.int .i64],xg),(153,8,[.other,.bool],HM),(166,8,[.other],HQ),(169,8,[.other],HR),(187,8,[.other],HT),(190,8,[.other],HU),(198,8,[.other],HY),(213,8,[.other],P7),(224,8,[.other],H0),(236,8,[.sl 1],H2),(249,8,[.other],H5),(9,9,[.other],Y7),(74,9,[.fT,.bool],MW),(118,9,[.fT],HB),(120,9,[.fT],HD),(151,9,[.other],HL),(161,9,[.ptr],HO),(162,9,[.other],HP),(163,9,[.ptr],uL),(179,9,[.sl 1,.int .u64],PU),(195,9,[.other],P1),(72,10,[.fT],QG),(76,10,[.fT],QI),(77,10,[.fT],QJ),(78,10,[.fT],QK),(123,10,[.fT],HG),(125,10,[.fT],HI),(15,11,[.other],Sg),(48,11,[.fT],Qy)]
def QL:List (Nat×Nat×List CT×Sp):=[(11,12,[.fT],U4),(102,12,[.ptr,.fT],K2),(31,13,[.other,.fT],U6),(19,15,[.other,.fT],MT),(27,15,[.other,.int .u64],MU),(8,16,[],sp8),(18,16,[.sl 7,.fT,.int .i64],PV),(5,17,[.sl 7,.other],sp5)]
def Si:List (Nat×Nat×List CT×Sp):=MY++MZ++QL
def WM:List (Nat×List AV):=[]
noncomputable def UB:List (Nat×Func):=[(181,Tryz.f181),(232,Tryz.f232),(237,Tryz.f237),(239,Tryz.f239),(86,Tryz.f86),(101,Tryz.f101),(172,Tryz.f172),(176,Tryz.f176),(183,Tryz.f183),(235,Tryz.f235),(87,Tryz.f87),(96,Tryz.f96),(26,Tryz.f26),(178,Tryz.f178),(98,Tryz.f98),(231,Tryz.f231),(173,Tryz.f173),(88,Tryz.f88)]
def look{α:Type}(k:Nat):List (Nat×α)->Option α
 | []=>Zy
 | (j,x)::r=>cond (Nat.beq j k) (Zx x) (look k r)
def OS{α:Type}(k m:Nat):List (Nat×Nat×List α)->List α
 | []=>[]
 | (j,i,x)::r=>cond (Nat.beq j k) (cond (Nat.beq i m) x (OS k m r)) (OS k m r)
noncomputable def G:n6:={ ty:=fun t=>(VA[t]?).join,ij:=fun f r=>OS f r X7,own:=fun f=>acC.contains f,pS:=fun q=>look q WM,rts:=fun f=>look f acI,vA:=fun f=>look f Si,inl:=fun f=>look f UB }
end
abbrev Wk(f k:Nat)(s:Sp):Prop:=DR Tryz.prog G f k s
abbrev Rb:=Option (AV×aD)
theorem cK{a c:Rb}(b:Rb)(h:a=b)(g:b=c):a=c:=h.trans g
theorem dM{b:Bool}{v r:AV×aD}(h:az b (Zx v)=Zx r):b=Zb/\v=r:=by
 cases b
 ·cases h
 ·cases h;exact⟨rfl,rfl⟩
theorem Yi : (Tryz.prog.funcs.all fun fn => fn.name != "runtime.NumGoroutine") = Zb := by kernel_rfl
theorem cL{f k:Nat}{s:Sp}{fn:Func}(h1:Tryz.prog.funcs[f]? = Zx fn)(h2:G.rts f=Zx fn.resultTypes.toList)(h:∀ xs bl r,s xs bl=Zx r->Hr (G.env f k) G.rts (G.own f) fn xs bl=Zx r):Wk f k s :=
 ⟨fn,h1,fun e=>by
  have h0:=Yi;rw[Array.all_eq_true_iff_forall_mem] at h0;have:=h0 fn (Array.mem_of_getElem? h1);rw[e] at this;simp at this,h2,h⟩
end Go.Proofs.YteafbgcimcpfiaaGreat
