/- The table of functions of this seat. -/
import Derived.Test.YteafbgcimcpfiaaGreatAbsPrimL
import Derived.Test.YteafbgcimcpfiaaGreatProg
set_option linter.all false
open Decidable renaming decide→Zz
open Option renaming none→Zy,some→Zx
open Kerb renaming get→Zw,ch→Zu,bZ→Zq,bD→Zj,a_→Zk,aU→Zp,within→Zd,eQ→Zf,bt→Zg,bj→Zb,bV→Zn,bytes→Zm,eC→Zh,text→Yz,gA→Yy,dv→Yx,cq→Yw,bm→Yv,aH→Yu
open Bool renaming false→Zv,true→Yq
namespace Go.Proofs.YteafbgcimcpfiaaGreat
open Go Go.Abs
noncomputable section
abbrev Sp:=Abs.Spec
def eJ:Option TI:=Zx ⟨1,8,.other,[.xT],[.other],[]⟩
def ZD:Option TI:=Zx ⟨1,8,.int .i64,[.int .i64 0],[.int .i64],[.int .i64]⟩
def ZE:Option TI:=Zx ⟨1,1,.u8,[.u8 0],[.u8],[.u8]⟩
def YJ:Option TI:=Zx ⟨1,8,.int .u64,[.int .u64 0],[.int .u64],[.int .u64]⟩
def ti4:Option TI:=Zx ⟨1,8,.struct [(0,17)],[.nv],[.ptr],[]⟩
def ti5:Option TI:=Zx ⟨1,4,.int .i32,[.int .i32 0],[.int .i32],[.int .i32]⟩
def ti6:Option TI:=Zx ⟨7,8,.struct [(0,5),(1,5),(2,5),(3,5),(4,5),(5,4),(6,22)],[.u8 0,.u8 0,.u8 0,.u8 0,.u8 0,.bool Zv,.int .u16 0],[.u8,.u8,.u8,.u8,.u8,.bool,.int .u16],[.u8,.u8,.u8,.u8,.u8,.bool,.int .u16]⟩
def ti7:Option TI:=Zx ⟨3,40,.struct [(0,3),(1,27),(2,25)],[.int .i64 0,.int .u64 0,.dc],[.int .i64,.int .u64,.eS],[]⟩
def ti8:Option TI:=Zx ⟨2,48,.struct [(0,39),(1,32)],[.dc,.dc],[.sl 1,.sl 1],[]⟩
def ti9:Option TI:=Zx ⟨3,48,.struct [(0,9),(1,9),(2,9)],[.str [],.str [],.str []],[.str,.str,.str],[.str,.str,.str]⟩
def X':Option TI:=Zx ⟨10,120,.struct [(0,4),(1,53),(4,3),(5,27),(6,3),(7,3),(8,9),(9,9)],[.bool Zv,.str [],.str [],.str [],.int .i64 0,.int .u64 0,.int .i64 0,.int .i64 0,.str [],.str []],[.bool,.str,.str,.str,.int .i64,.int .u64,.int .i64,.int .i64,.str,.str],[.bool,.str,.str,.str,.int .i64,.int .u64,.int .i64,.int .i64,.str,.str]⟩
def Ya:Option TI:=Zx ⟨6,80,.struct [(0,4),(1,4),(2,3),(3,9),(4,25),(5,25)],[.bool Zv,.bool Zv,.int .i64 0,.str [],.dc,.dc],[.bool,.bool,.int .i64,.str,.eS,.eS],[]⟩
def Yc:Option TI:=Zx ⟨8,104,.struct [(0,4),(1,53),(4,3),(5,3),(6,3),(7,25)],[.bool Zv,.str [],.str [],.str [],.int .i64 0,.int .i64 0,.int .i64 0,.dc],[.bool,.str,.str,.str,.int .i64,.int .i64,.int .i64,.eS],[]⟩
def Ye:Option TI:=Zx ⟨10,128,.struct [(0,61),(6,3),(7,3),(8,9),(9,9)],[.bool Zv,.bool Zv,.int .i64 0,.str [],.dc,.dc,.int .i64 0,.int .i64 0,.str [],.str []],[.bool,.bool,.int .i64,.str,.eS,.eS,.int .i64,.int .i64,.str,.str],[]⟩
def Yi:Option TI:=Zx ⟨10,160,.struct [(0,3),(1,53),(4,3),(5,9),(6,25),(7,9),(8,9),(9,25)],[.int .i64 0,.str [],.str [],.str [],.int .i64 0,.str [],.dc,.str [],.str [],.dc],[.int .i64,.str,.str,.str,.int .i64,.str,.eS,.str,.str,.eS],[]⟩
def Yl:Option TI:=Zx ⟨3,40,.struct [(0,3),(1,35),(2,25)],[.int .i64 0,.int .i64 0,.dc],[.int .i64,.int .i64,.eS],[]⟩
def Yo:Option TI:=Zx ⟨5,80,.struct [(0,3),(1,53),(4,25)],[.int .i64 0,.str [],.str [],.str [],.dc],[.int .i64,.str,.str,.str,.eS],[]⟩
def Yr:Option TI:=Zx ⟨4,48,.struct [(0,25),(1,3),(2,3),(3,3)],[.dc,.int .i64 0,.int .i64 0,.int .i64 0],[.eS,.int .i64,.int .i64,.int .i64],[]⟩
def Ys:Option TI:=Zx ⟨6,72,.struct [(0,53),(3,3),(4,3),(5,3)],[.str [],.str [],.str [],.int .i64 0,.int .i64 0,.int .i64 0],[.str,.str,.str,.int .i64,.int .i64,.int .i64],[.str,.str,.str,.int .i64,.int .i64,.int .i64]⟩
def Yt:Option TI:=Zx ⟨8,104,.struct [(0,27),(1,53),(4,3),(5,3),(6,25),(7,3)],[.int .u64 0,.str [],.str [],.str [],.int .i64 0,.int .i64 0,.dc,.int .i64 0],[.int .u64,.str,.str,.str,.int .i64,.int .i64,.eS,.int .i64],[]⟩
def YA:Option TI:=Zx ⟨3,24,.struct [(0,3),(1,3),(2,3)],[.int .i64 0,.int .i64 0,.int .i64 0],[.int .i64,.int .i64,.int .i64],[.int .i64,.int .i64,.int .i64]⟩
def YB:Option TI:=Zx ⟨5,48,.struct [(0,9),(1,3),(2,3),(3,3),(4,27)],[.str [],.int .i64 0,.int .i64 0,.int .i64 0,.int .u64 0],[.str,.int .i64,.int .i64,.int .i64,.int .u64],[.str,.int .i64,.int .i64,.int .i64,.int .u64]⟩
def YC:Option TI:=Zx ⟨10,128,.struct [(0,9),(1,3),(2,27),(3,3),(4,3),(5,3),(6,53),(9,25)],[.str [],.int .i64 0,.int .u64 0,.int .i64 0,.int .i64 0,.int .i64 0,.str [],.str [],.str [],.dc],[.str,.int .i64,.int .u64,.int .i64,.int .i64,.int .i64,.str,.str,.str,.eS],[]⟩
def YD:Option TI:=Zx ⟨10,128,.struct [(0,53),(3,53),(6,27),(7,3),(8,3),(9,3)],[.str [],.str [],.str [],.str [],.str [],.str [],.int .u64 0,.int .i64 0,.int .i64 0,.int .i64 0],[.str,.str,.str,.str,.str,.str,.int .u64,.int .i64,.int .i64,.int .i64],[.str,.str,.str,.str,.str,.str,.int .u64,.int .i64,.int .i64,.int .i64]⟩
def YE:Option TI:=Zx ⟨7,96,.struct [(0,27),(1,53),(4,3),(5,3),(6,25)],[.int .u64 0,.str [],.str [],.str [],.int .i64 0,.int .i64 0,.dc],[.int .u64,.str,.str,.str,.int .i64,.int .i64,.eS],[]⟩
def YF:Option TI:=Zx ⟨2,48,.struct [(0,46)],[.dc,.dc],[.sl 1,.sl 1],[]⟩
def YG:Option TI:=Zx ⟨3,56,.struct [(0,153),(2,154)],[.dc,.dc,.Fb],[.sl 1,.sl 1,.other],[]⟩
def YH:Option TI:=Zx ⟨2,32,.struct [(0,25),(1,3)],[.dc,.int .i64 0],[.eS,.int .i64],[]⟩
def YI:Option TI:=Zx ⟨4,40,.struct [(0,25),(1,3),(2,4),(3,4)],[.dc,.int .i64 0,.bool Zv,.bool Zv],[.eS,.int .i64,.bool,.bool],[]⟩
def Si:Option TI:=Zx ⟨3,40,.struct [(0,25),(1,3),(2,4)],[.dc,.int .i64 0,.bool Zv],[.eS,.int .i64,.bool],[]⟩
def UO:List (Option TI):=[
 Zy,eJ,ZD,ZD,Zx ⟨1,1,.bool,[.bool Zv],[.bool],[.bool]⟩,ZE,ZE,Zx ⟨4,24,.struct [(0,2),(1,3),(2,4),(3,6)],[.int .i64 0,.int .i64 0,.bool Zv,.u8 0],[.int .i64,.int .i64,.bool,.u8],[.int .i64,.int .i64,.bool,.u8]⟩,Zy,Zx ⟨1,16,.str,[.str []],[.str],[.str]⟩,Zy,Zy,YJ,Zy,Zy,Zx ⟨1,8,.ptr 285,[.nv],[.ptr],[]⟩,Zx ⟨1,8,.ptr 288,[.nv],[.ptr],[]⟩,Zx ⟨1,8,.ptr 296,[.nv],[.ptr],[]⟩,ti4,ti4,Zy,ti5,Zx ⟨1,2,.int .u16,[.int .u16 0],[.int .u16],[.int .u16]⟩,ti6,ti6,Zx ⟨1,24,.slice 5 Yq,[.dc],[.eS],[]⟩,YJ,YJ,ti7,ti7,eJ,eJ,Zx ⟨1,24,.slice 25 Zv,[.dc],[.sl 1],[]⟩,eJ,eJ,ZD,Zy,eJ,Zx ⟨1,24,.slice 29 Zv,[.dc],[.sl 3],[]⟩,Zx ⟨1,24,.slice 27 Zv,[.dc],[.sl 1],[]⟩,Zy,eJ,eJ,eJ,Zx ⟨1,24,.slice 24 Zv,[.dc],[.sl 7],[]⟩,ti8,ti8,eJ,eJ,eJ,eJ,eJ,ti9,ti9,X',X',eJ,Zy,eJ,eJ,Ya,Ya,eJ,eJ,eJ,eJ,eJ,eJ,eJ,eJ,eJ,Yc,Yc,eJ,Ye,Ye,eJ,eJ,Yi,Yi,eJ,Yl,Yl,eJ,Yo,Yo,eJ,Yr,Yr,eJ,eJ,Zy,eJ,Zy,eJ,Zy,eJ,Zy,eJ,Zy,eJ,Zy,eJ,Zy,eJ,Zy,eJ,Zy,eJ,YJ,eJ,eJ,Ys,Ys,eJ,eJ,Yt,Yt,eJ,YA,YA,eJ,eJ,YB,YB,eJ,YC,YC,eJ,YD,YD,eJ,YE,YE,eJ,Zy,eJ,eJ,Zy,eJ,Zy,eJ,Zy,eJ,Zy,eJ,Zy,eJ,eJ,Zx ⟨1,8,.ptr 156,[.nv],[.ptr],[]⟩,eJ,eJ,YF,YF,Zx ⟨1,8,.map 3 4,[.Fb],[.other],[]⟩,YG,YG,Zx ⟨1,8,.ptr 159,[.nv],[.ptr],[]⟩,YH,YH,eJ,eJ,eJ,eJ,eJ,eJ,eJ,eJ,eJ,Zy,eJ,eJ,Zx ⟨1,8,.ptr 153,[.nv],[.ptr],[]⟩,eJ,eJ,eJ,Zx ⟨1,24,.slice 9 Zv,[.dc],[.sl 1],[]⟩,eJ,eJ,eJ,eJ,eJ,Zy,eJ,eJ,Zy,eJ,Zx ⟨1,8,.ptr 189,[.nv],[.ptr],[]⟩,YI,YI,eJ,eJ,eJ,Zy,eJ,Zy,eJ,eJ,Zx ⟨1,24,.slice 53 Zv,[.dc],[.sl 3],[]⟩,eJ,eJ,eJ,eJ,eJ,eJ,Zy,eJ,Zy,eJ,eJ,Zy,eJ,Zy,eJ,eJ,Si,Si,eJ,Si,Si,eJ,eJ,eJ,eJ,Zy,eJ,eJ,eJ,eJ,eJ,Zy,eJ,Zy,eJ,Zx ⟨1,24,.slice 3 Zv,[.dc],[.sl 1],[]⟩,eJ,eJ,eJ,Zx ⟨1,8,.ptr 9,[.nv],[.ptr],[]⟩,Zx ⟨1,24,.slice 238 Zv,[.dc],[.sl 1],[]⟩,eJ,eJ,eJ,Zx ⟨1,8,.ptr 216,[.nv],[.ptr],[]⟩,eJ,eJ,eJ,eJ,Zx ⟨1,8,.ptr 219,[.nv],[.ptr],[]⟩,eJ,eJ,eJ,eJ,eJ,Zy,eJ,eJ,Zx ⟨1,24,.slice 39 Zv,[.dc],[.sl 1],[]⟩,eJ,eJ,eJ,Zx ⟨4,4,.c4 4 5 Yq,[.u8 0,.u8 0,.u8 0,.u8 0],[.u8,.u8,.u8,.u8],[]⟩,eJ,ZD,Zy,eJ,eJ,eJ,eJ,Zy,eJ,eJ,Zx ⟨1,4,.int .u32,[.int .u32 0],[.int .u32],[.int .u32]⟩,eJ,eJ,YJ,eJ,eJ,eJ,Zx ⟨1,8,.ptr 3,[.nv],[.ptr],[]⟩,eJ,Zx ⟨1,8,.ptr 275,[.nv],[.ptr],[]⟩,Zy,eJ,Zx ⟨4,40,.struct [(0,17),(1,17),(2,17),(3,9)],[.nv,.nv,.nv,.str []],[.ptr,.ptr,.ptr,.str],[]⟩,Zy,Zx ⟨0,0,.c4 0 16 Zv,[],[],[]⟩,Zy,Zy,ZE,ZE,eJ,Zx ⟨1,8,.ptr 5,[.nv],[.ptr],[]⟩,ti5,ti5,Zy,Zx ⟨11,48,.struct [(0,12),(1,12),(2,272),(3,289),(4,5),(5,5),(6,290),(7,291),(8,292),(9,293),(10,294)],[.int .u64 0,.int .u64 0,.int .u32 0,.u8 0,.u8 0,.u8 0,.u8 0,.xT,.nv,.int .i32 0,.int .i32 0],[.int .u64,.int .u64,.int .u32,.u8,.u8,.u8,.u8,.other,.ptr,.int .i32,.int .i32],[]⟩,Zy]
def Xs:List (Nat×Nat×List jz):=[(3,6,[.val 1 25,.cells 3 [.u8,.u8,.u8,.u8,.u8,.bool,.int .u16],.ptr 3 3 0,.cells 5 [.int .i64,.int .u64,.eS],.ptr 5 5 0,.val 6 4,.val 7 3]),
 (3,14,[.cells 5 [.int .i64,.int .u64,.eS],.ptr 5 5 0,.val 6 4,.cells 9 [.int .i64,.int .u64,.eS],.ptr 9 9 0,.cells 12 [.int .i64,.int .u64,.eS],.ptr 12 12 0,.val 13 3]),
 (8,8000026,[.cells 0 [.bool],.bN 2 2 [8],.bN 8 1 [7],.bN 8 1 [7,7],.bN 8 1 [7,7,7]]),
 (9,3000006,[.cells 1 [.u8,.u8,.u8,.u8,.u8,.bool,.int .u16],.ptr 1 1 0,.val 2 25,.val 5 25]),
 (10,4,[.val 0 32,.val 1 32,.val 4 4,.val 5 3]),
 (14,2000016,[.cells 1 [.u8,.u8,.u8,.u8,.u8,.bool,.int .u16],.ptr 1 1 0,.cells 4 [.str,.str,.str],.ptr 4 4 0,.cells 5 [.str,.str,.str],.ptr 5 5 0,.val 6 3,.val 23 3,.val 86 4,.val 2 25]),
 (14,3000007,[.cells 1 [.u8,.u8,.u8,.u8,.u8,.bool,.int .u16],.ptr 1 1 0,.val 2 25,.val 3 25,.val 6 3]),
 (14,3000030,[.cells 1 [.u8,.u8,.u8,.u8,.u8,.bool,.int .u16],.ptr 1 1 0,.val 2 25,.val 3 25,.val 6 3]),
 (17,4,[.val 0 39,.val 1 39,.val 4 4,.val 5 3]),
 (19,3,[.cells 4 [.sl 1,.sl 1],.ptr 4 4 0,.lg 1000015 [.own 4001 27 1 Zv,.own 4002 25 1 Zv,.so 4003 Zv .i64],.ptr 5 1000015 0,.val 11 32,.val 12 3,.val 13 3]),
 (27,3000003,[.cells 4 [.sl 1,.sl 1],.ptr 4 4 0,.lg 800015 [.own 4021 27 1 Zv,.own 4022 25 1 Zv,.so 4023 Zv .i64],.ptr 5 800015 0]),
 (41,2000001,[.cells 1 [.int .i64,.str,.str,.str,.int .i64,.str,.eS,.str,.str,.eS],.ptr 1 1 0,.val 13 4,.val 3 35]),
 (41,2000003,[.cells 1 [.int .i64,.str,.str,.str,.int .i64,.str,.eS,.str,.str,.eS],.ptr 1 1 0,.val 46 4,.val 3 35]),
 (41,2000005,[.cells 1 [.int .i64,.str,.str,.str,.int .i64,.str,.eS,.str,.str,.eS],.ptr 1 1 0,.val 56 4,.val 3 35]),
 (41,2000007,[.cells 1 [.int .i64,.str,.str,.str,.int .i64,.str,.eS,.str,.str,.eS],.ptr 1 1 0,.val 72 4,.val 3 35]),
 (41,2000009,[.cells 1 [.int .i64,.str,.str,.str,.int .i64,.str,.eS,.str,.str,.eS],.ptr 1 1 0,.val 113 4,.val 3 35]),
 (46,1000038,[.val 0 3]),
 (46,1000042,[.val 0 3]),
 (47,3,[.dz 3 25 1 Zv,.val 6 32,.val 7 3,.val 8 3]),
 (50,3,[.val 0 32,.dz 3 25 1 Zv,.val 4 3]),
 (58,5,[.val 0 25,.val 4 27,.val 5 3]),
 (71,1000023,[.val 0 3]),
 (73,3,[.dz 3 27 1 Zv,.val 6 39,.val 7 3,.val 8 3]),
 (87,8000172,[.cells 0 [.bool],.bN 12 2 [19]]),
 (88,1,[.val 2 30]),
 (88,5000001,[.lg 9000000 [.own 4001 27 1 Zv,.own 4002 25 1 Zv,.so 4003 Zv .i64]]),
 (88,6000001,[.bN 6 1 [10],.bN 6 1 [24],.bN 6 1 [24,24],.bN 6 1 [24,5],.bN 6 1 [24,36],.bN 6 1 [24,36,10],.bN 6 1 [24,36,10,2],.bN 6 1 [24,36,10,8],.bN 6 1 [24,36,10,8,7],.bN 6 1 [24,36,10,8,7,7],.bN 6 1 [24,36,10,8,7,7,7],.bN 6 1 [24,45],.bN 6 1 [24,53],.bN 6 1 [24,53,7],.bN 6 1 [24,53,7,7],.bN 6 1 [24,53,7,16],.bN 6 1 [24,53,7,16,10],.bN 6 1 [24,53,7,16,10,2],.bN 6 1 [24,53,7,16,10,8],.bN 6 1 [24,53,7,16,10,8,7],.bN 6 1 [24,53,7,16,10,8,7,7],.bN 6 1 [24,53,7,16,10,8,7,7,7],.bN 6 1 [24,61],.bN 6 1 [24,61,7],.bN 6 1 [24,61,7,7],.bN 6 1 [24,61,7,16],.bN 6 1 [24,61,7,16,12],.bN 6 1 [24,61,7,16,19],.bN 6 1 [24,65],.bN 6 1 [24,74],.bN 6 1 [24,74,6],.bN 6 1 [24,74,6,10],.bN 6 1 [24,74,6,10,2],.bN 6 1 [24,74,6,10,8],.bN 6 1 [24,74,6,10,8,7],.bN 6 1 [24,74,6,10,8,7,7],.bN 6 1 [24,74,6,10,8,7,7,7],.bN 6 1 [24,74,14],.bN 6 1 [24,77],.bN 6 1 [24,86],.bN 6 1 [24,86,6],.bN 6 1 [24,86,6,12],.bN 6 1 [24,86,6,19],.bN 6 1 [24,86,14],.bN 6 1 [24,86,15],.bN 6 1 [24,4001],.bN 6 1 [24,4002],.bN 6 1 [24,4003],.bN 6 1 [24,4011],.bN 6 1 [24,4012],.bN 6 1 [24,4013],.bN 6 1 [4001],.bN 6 1 [4002],.bN 6 1 [4003]]),
 (90,3,[.val 0 3,.cells 2 [.str,.str,.str],.ptr 2 2 0,.val 3 9,.val 4 3]),
 (90,7,[.val 0 3,.cells 2 [.str,.str,.str],.ptr 2 2 0,.val 3 9,.val 5 3]),
 (98,8000178,[.cells 0 [.bool],.bN 10 2 [],.bN 10 1 [2],.bN 10 1 [8],.bN 10 1 [8,7],.bN 10 1 [8,7,7],.bN 10 1 [8,7,7,7]]),
 (102,8000172,[.cells 0 [.bool],.bN 12 2 [19]]),
 (102,8000178,[.cells 0 [.bool],.bN 10 2 [],.bN 10 1 [2],.bN 10 1 [8],.bN 10 1 [8,7],.bN 10 1 [8,7,7],.bN 10 1 [8,7,7,7]]),
 (102,8000183,[.cells 0 [.bool],.bN 7 2 [],.bN 7 1 [7],.bN 7 1 [16],.bN 7 1 [16,10],.bN 7 1 [16,10,2],.bN 7 1 [16,10,8],.bN 7 1 [16,10,8,7],.bN 7 1 [16,10,8,7,7],.bN 7 1 [16,10,8,7,7,7]]),
 (126,5,[.val 1 234,.val 4 4,.val 5 35,.val 6 3,.val 7 4,.val 9 3]),
 (138,3,[.val 0 27,.fb 3 5 Zv,.val 4 3]),
 (139,2,[.fb 3 5 Zv]),
 (146,4,[.val 0 25,.val 1 3,.cells 4 [.str,.str,.str],.ptr 4 4 0,.val 5 3,.val 6 35,.cells 7 [.str,.str,.str],.ptr 7 7 0,.bN 14 7 [0,1,2],.val 15 3,.val 16 3]),
 (149,5,[.val 4 27,.val 10 25,.val 11 3,.val 12 3]),
 (172,2,[.val 1 25,.val 4 4,.val 11 32,.val 12 3,.val 13 3]),
 (172,5000002,[.val 4 4,.val 13 3]),
 (173,2,[.cells 0 [.sl 1,.sl 1,.other],.ptr 0 0 0,.val 2 4,.val 10 3,.val 11 3]),
 (173,5000002,[.val 2 4,.val 11 3,.lg 9000000 [.own 4001 27 1 Zv,.own 4002 25 1 Zv,.so 4003 Zv .i64]]),
 (173,6000002,[.bN 24 1 [24],.bN 24 1 [5],.bN 24 1 [36],.bN 24 1 [36,10],.bN 24 1 [36,10,2],.bN 24 1 [36,10,8],.bN 24 1 [36,10,8,7],.bN 24 1 [36,10,8,7,7],.bN 24 1 [36,10,8,7,7,7],.bN 24 1 [45],.bN 24 1 [53],.bN 24 1 [53,7],.bN 24 1 [53,7,7],.bN 24 1 [53,7,16],.bN 24 1 [53,7,16,10],.bN 24 1 [53,7,16,10,2],.bN 24 1 [53,7,16,10,8],.bN 24 1 [53,7,16,10,8,7],.bN 24 1 [53,7,16,10,8,7,7],.bN 24 1 [53,7,16,10,8,7,7,7],.bN 24 1 [61],.bN 24 1 [61,7],.bN 24 1 [61,7,7],.bN 24 1 [61,7,16],.bN 24 1 [61,7,16,12],.bN 24 1 [61,7,16,19],.bN 24 1 [65],.bN 24 1 [74],.bN 24 1 [74,6],.bN 24 1 [74,6,10],.bN 24 1 [74,6,10,2],.bN 24 1 [74,6,10,8],.bN 24 1 [74,6,10,8,7],.bN 24 1 [74,6,10,8,7,7],.bN 24 1 [74,6,10,8,7,7,7],.bN 24 1 [74,14],.bN 24 1 [77],.bN 24 1 [86],.bN 24 1 [86,6],.bN 24 1 [86,6,12],.bN 24 1 [86,6,19],.bN 24 1 [86,14],.bN 24 1 [86,15],.bN 24 1 [4001],.bN 24 1 [4002],.bN 24 1 [4003],.bN 24 1 [4011],.bN 24 1 [4012],.bN 24 1 [4013]]),
 (174,2,[.val 0 9,.val 1 9,.val 4 4,.val 5 3]),
 (174,7,[.val 0 9,.val 1 9,.val 4 4,.val 5 3,.val 6 3]),
 (175,3,[.val 1 3,.val 2 3,.val 3 4,.fb 9 5 Zv,.val 10 3]),
 (178,8000026,[.cells 0 [.bool],.bN 2 2 [8],.bN 8 1 [7],.bN 8 1 [7,7],.bN 8 1 [7,7,7]]),
 (181,2,[.val 0 32,.val 1 174,.val 4 3,.val 7 3,.val 8 3]),
 (181,5000002,[.val 4 3,.val 8 3,.bN 1 (9500000+102) [1,1]]),
 (181,6000002,[.bN 16 1 [12],.bN 16 1 [19]]),
 (181,7000102,[.val 0 172]),
 (181,8000172,[.cells 0 [.bool],.bN 12 2 [19]]),
 (204,4,[.val 0 25,.val 1 3,.val 4 9,.val 5 3,.val 6 35,.val 7 3]),
 (208,6,[.val 0 25,.val 1 3,.val 2 3,.val 3 4,.val 12 3,.val 22 3,.val 23 3]),
 (217,3,[.val 0 32,.val 3 3,.val 9 32,.val 10 3,.val 11 3]),
 (217,11,[.fb 6 5 Zv,.val 25 32,.val 26 3,.val 27 3]),
 (218,3,[.val 0 27,.fb 3 5 Zv,.val 7 3,.val 8 3]),
 (231,9,[.cells 0 [.sl 1,.sl 1,.other],.ptr 0 0 0,.val 9 32,.val 64 39,.val 65 3,.val 66 3]),
 (231,14,[.cells 0 [.sl 1,.sl 1,.other],.ptr 0 0 0,.val 76 32,.val 77 3,.val 78 3]),
 (231,5000009,[.val 66 3,.lg 9000000 [.own 4001 27 1 Zv,.own 4002 25 1 Zv,.so 4003 Zv .i64]]),
 (231,5000014,[.val 78 3,.lg 9000000 [.own 4011 27 1 Zv,.own 4012 25 1 Zv,.so 4013 Zv .i64]]),
 (231,6000009,[.bN 36 1 [10],.bN 36 1 [10,2],.bN 36 1 [10,8],.bN 36 1 [10,8,7],.bN 36 1 [10,8,7,7],.bN 36 1 [10,8,7,7,7],.bN 53 1 [7],.bN 53 1 [7,7],.bN 53 1 [7,16],.bN 53 1 [7,16,10],.bN 53 1 [7,16,10,2],.bN 53 1 [7,16,10,8],.bN 53 1 [7,16,10,8,7],.bN 53 1 [7,16,10,8,7,7],.bN 53 1 [7,16,10,8,7,7,7],.bN 61 1 [7],.bN 61 1 [7,7],.bN 61 1 [7,16],.bN 61 1 [7,16,12],.bN 61 1 [7,16,19],.bN 74 1 [6],.bN 74 1 [6,10],.bN 74 1 [6,10,2],.bN 74 1 [6,10,8],.bN 74 1 [6,10,8,7],.bN 74 1 [6,10,8,7,7],.bN 74 1 [6,10,8,7,7,7],.bN 74 1 [14],.bN 86 1 [6],.bN 86 1 [6,12],.bN 86 1 [6,19],.bN 86 1 [14],.bN 86 1 [15]]),
 (231,6000014,[.bN 36 1 [10],.bN 36 1 [10,2],.bN 36 1 [10,8],.bN 36 1 [10,8,7],.bN 36 1 [10,8,7,7],.bN 36 1 [10,8,7,7,7],.bN 53 1 [7],.bN 53 1 [7,7],.bN 53 1 [7,16],.bN 53 1 [7,16,10],.bN 53 1 [7,16,10,2],.bN 53 1 [7,16,10,8],.bN 53 1 [7,16,10,8,7],.bN 53 1 [7,16,10,8,7,7],.bN 53 1 [7,16,10,8,7,7,7],.bN 61 1 [7],.bN 61 1 [7,7],.bN 61 1 [7,16],.bN 61 1 [7,16,12],.bN 61 1 [7,16,19],.bN 74 1 [6],.bN 74 1 [6,10],.bN 74 1 [6,10,2],.bN 74 1 [6,10,8],.bN 74 1 [6,10,8,7],.bN 74 1 [6,10,8,7,7],.bN 74 1 [6,10,8,7,7,7],.bN 74 1 [14],.bN 86 1 [6],.bN 86 1 [6,12],.bN 86 1 [6,19],.bN 86 1 [14],.bN 86 1 [15]]),
 (231,8000101,[.cells 0 [.bool],.bN 7 2 [],.bN 7 1 [7],.bN 7 1 [16],.bN 7 1 [16,12],.bN 7 1 [16,19]]),
 (231,8000172,[.cells 0 [.bool],.bN 12 2 [19]]),
 (231,8000178,[.cells 0 [.bool],.bN 10 2 [],.bN 10 1 [2],.bN 10 1 [8],.bN 10 1 [8,7],.bN 10 1 [8,7,7],.bN 10 1 [8,7,7,7]]),
 (231,8000183,[.cells 0 [.bool],.bN 7 2 [],.bN 7 1 [7],.bN 7 1 [16],.bN 7 1 [16,10],.bN 7 1 [16,10,2],.bN 7 1 [16,10,8],.bN 7 1 [16,10,8,7],.bN 7 1 [16,10,8,7,7],.bN 7 1 [16,10,8,7,7,7]]),
 (232,2,[.val 0 39,.val 1 27,.val 4 3,.val 7 3,.val 8 3]),
 (232,5000002,[.val 4 3,.val 8 3]),
 (235,3,[.val 0 257,.val 3 3,.val 9 257,.val 10 3,.val 11 3]),
 (235,11,[.dz 6 27 1 Zv,.val 25 257,.val 26 3,.val 27 3]),
 (237,4,[.val 0 39,.val 2 39,.val 3 3]),
 (237,9,[.val 0 39,.val 3 3,.val 4 39,.val 5 3]),
 (237,5000004,[.val 3 3]),
 (237,5000009,[.cells 99999 []]),
 (239,2,[.val 0 39,.val 1 167,.val 4 3,.val 7 3,.val 8 3]),
 (239,5000002,[.val 4 3,.val 8 3]),
 (239,6000002,[.bN 16 1 [10],.bN 16 1 [10,2],.bN 16 1 [10,8],.bN 16 1 [10,8,7],.bN 16 1 [10,8,7,7],.bN 16 1 [10,8,7,7,7]]),
 (239,8000178,[.cells 0 [.bool],.bN 10 2 [],.bN 10 1 [2],.bN 10 1 [8],.bN 10 1 [8,7],.bN 10 1 [8,7,7],.bN 10 1 [8,7,7,7]]),
 (241,2,[.val 0 3,.val 4 4,.val 7 234,.val 8 3,.val 9 3]),
 (253,6,[.val 2 3,.val 3 4,.val 11 25,.val 12 3,.val 14 3,.val 15 3]),
 (256,3,[.val 0 25,.val 1 3,.val 2 3,.val 3 4,.jm 9 Zv,.ptr 9 9 0,.val 12 3,.val 13 3]),
 (259,2,[.rowAt 0 Yq 27 1,.hZ 0 0 27 1,.val 1 3,.val 2 3,.val 3 3,.val 8 4,.val 9 4]),
 (259,2000014,[.rowAt 0 Yq 27 1,.hZ 0 0 27 1,.val 1 3,.val 2 3,.val 3 3,.val 8 4,.val 9 4,.val 10 3,.val 11 3,.val 12 263]),
 (259,2000015,[.rowAt 0 Yq 27 1,.hZ 0 0 27 1,.val 1 3,.val 2 3,.val 3 3,.val 8 4,.val 9 4,.val 10 3,.val 11 3,.val 68 4]),
 (259,2000016,[.rowAt 0 Yq 27 1,.hZ 0 0 27 1,.val 1 3,.val 2 3,.val 3 3,.val 8 4,.val 9 4,.val 10 3,.val 11 3,.val 72 4]),
 (259,2000017,[.rowAt 0 Yq 27 1,.hZ 0 0 27 1,.val 1 3,.val 2 3,.val 3 3,.val 8 4,.val 9 4,.val 10 3,.val 11 3,.val 87 4]),
 (259,3000008,[.rowAt 0 Yq 27 1,.hZ 0 0 27 1,.val 1 3,.val 2 3,.val 3 3,.val 8 4,.val 9 4,.val 10 3]),
 (259,3000012,[.rowAt 0 Yq 27 1,.hZ 0 0 27 1,.val 1 3,.val 2 3,.val 3 3,.val 8 4,.val 9 4,.val 10 3,.val 11 3,.val 12 263]),
 (262,2,[.val 0 9,.val 1 9,.val 4 4,.val 7 3,.val 8 3]),
 (263,1,[.rowAt 0 Yq 27 1,.hZ 0 0 27 1,.val 1 3,.val 2 3,.val 6 3]),
 (263,4,[.rowAt 0 Yq 27 1,.hZ 0 0 27 1,.val 1 3,.val 2 3,.val 6 3,.val 7 3]),
 (264,4,[.rowAt 0 Yq 27 1,.hZ 0 0 27 1,.val 6 3,.val 7 3,.val 8 3,.val 9 3]),
 (264,8,[.rowAt 0 Yq 27 1,.hZ 0 0 27 1,.val 6 3,.val 7 3,.val 10 3]),
 (265,5,[.rowAt 0 Yq 27 1,.hZ 0 0 27 1,.val 1 3,.val 6 3,.cells 7 [.int .u64],.ptr 7 7 0,.val 8 109,.val 9 3]),
 (267,2,[.rowAt 0 Yq 27 1,.hZ 0 0 27 1,.val 6 3,.val 7 3]),
 (268,3,[.rowAt 0 Yq 27 1,.hZ 0 0 27 1,.val 1 3,.val 2 3,.val 6 4,.val 7 3,.val 8 3]),
 (268,5,[.rowAt 0 Yq 27 1,.hZ 0 0 27 1,.val 1 3,.val 2 3,.val 7 3,.val 8 3,.val 6 4]),
 (268,14,[.rowAt 0 Yq 27 1,.hZ 0 0 27 1,.val 1 3,.val 2 3,.val 7 3,.val 8 3,.val 9 3,.val 6 4]),
 (268,20,[.rowAt 0 Yq 27 1,.hZ 0 0 27 1,.val 1 3,.val 2 3,.val 7 3,.val 8 3,.val 10 3,.val 6 4]),
 (270,3,[.rowAt 0 Yq 27 1,.hZ 0 0 27 1,.val 1 3,.val 9 3,.val 10 3]),
 (270,5,[.rowAt 0 Yq 27 1,.hZ 0 0 27 1,.val 1 3,.val 9 3,.val 10 3]),
 (271,3,[.rowAt 0 Yq 27 1,.hZ 0 0 27 1,.val 1 3,.val 10 3,.val 11 3]),
 (271,5,[.rowAt 0 Yq 27 1,.hZ 0 0 27 1,.val 1 3,.val 10 3,.val 11 3]),
 (271,13,[.rowAt 0 Yq 27 1,.hZ 0 0 27 1,.val 1 3,.val 10 3,.val 11 3]),
 (271,15,[.rowAt 0 Yq 27 1,.hZ 0 0 27 1,.val 1 3,.val 10 3,.val 11 3]),
 (275,1,[.rowAt 0 Yq 27 1,.hZ 0 0 27 1,.val 2 3,.val 3 3,.val 8 3])]
def abC:List Nat:=[95,139,170,171,175,257,258,93,108,109,110,217,67,141,219,256,214,215,216,243,179,1017088,1016832,1017152,1017280,1017344,1017600,1018048,1016896,1016960,1017856,1017792,1017024,1016576,1015104]
def abM:List (Nat×List Nat):=[(10,[4]),(17,[4]),(21,[27]),(24,[27]),(46,[25]),(89,[3]),(90,[53]),(92,[4]),(94,[25]),(95,[25]),(107,[4]),(113,[4]),(114,[4]),(133,[3,4,35]),(138,[25]),(139,[25]),(142,[4]),(144,[4]),(152,[4]),(156,[4]),(159,[4]),(170,[39]),(171,[32]),(174,[4]),(175,[25]),(184,[176]),(200,[]),(203,[25,3,35]),(204,[9,3,35]),(205,[27]),(206,[4]),(207,[4]),(210,[35]),(211,[25]),(218,[25]),(221,[4]),(222,[4]),(226,[]),(229,[4]),(233,[4]),(234,[4]),(238,[4]),(241,[4]),(245,[4]),(251,[4]),(252,[4]),(254,[3]),(255,[4]),(257,[25]),(258,[39]),(261,[4]),(267,[]),(273,[3]),(277,[26]),(280,[4]),(283,[3]),(29,[27]),(60,[27]),(91,[4]),(93,[25]),(105,[9]),(108,[25]),(109,[25]),(110,[25]),(111,[4]),(112,[4]),(126,[4,35]),(131,[25]),(135,[9]),(136,[4]),(148,[25,3,35]),(177,[3,3,4]),(208,[3,3,35]),(212,[3]),(217,[25]),(228,[4]),(240,[3,4,35]),(242,[25]),(253,[3,3,35]),(260,[3]),(269,[4]),(281,[3]),(25,[25,35]),(36,[53]),(40,[25,35]),(42,[25,35]),(58,[27,4]),(59,[53]),(67,[25,35]),(71,[25,35]),(80,[39]),(97,[4]),(106,[4]),(116,[25]),(127,[53]),(141,[25]),(143,[3]),(145,[3,3,35]),(147,[3,3,35]),(150,[9,3,35]),(154,[25]),(167,[25]),(185,[4,35]),(186,[3,3,35]),(199,[3,3,35]),(201,[3,3,35]),(202,[3,3,35]),(219,[25]),(220,[25]),(227,[3]),(256,[25]),(263,[]),(268,[4]),(270,[3]),(271,[3,4]),(274,[3]),(275,[]),(276,[109]),(282,[3,3]),(13,[29,3,35]),(22,[55]),(37,[25,35]),(39,[25,35]),(41,[25,35]),(43,[25,35]),(63,[113]),(64,[25,35]),(65,[25,35]),(66,[25,35]),(68,[25,35]),(69,[25,35]),(70,[25,35]),(73,[39]),(128,[3]),(129,[3]),(130,[3]),(137,[35]),(140,[35]),(149,[27,4]),(155,[3]),(160,[3]),(165,[3]),(168,[3]),(188,[61,3]),(193,[9]),(194,[3]),(197,[3]),(214,[25]),(215,[25]),(216,[25]),(223,[35]),(243,[25]),(248,[25,3,4]),(262,[4]),(264,[]),(265,[]),(279,[3]),(49,[72,35]),(53,[25,4,35]),(54,[25,25,4,35]),(55,[79,35]),(56,[82,35]),(57,[85,35]),(61,[25,35]),(62,[25,35]),(81,[117,35]),(82,[124,35]),(83,[127,35]),(84,[130,35]),(85,[133,35]),(115,[25,25,35]),(132,[4]),(157,[27]),(158,[25,35]),(164,[27]),(182,[29,3,35]),(191,[25,35]),(192,[3,25,25,4,35]),(225,[25]),(230,[25]),(246,[4]),(247,[4]),(250,[25]),(278,[3]),(23,[25,35]),(44,[25,35]),(45,[25,35]),(50,[32]),(51,[61,35]),(52,[75,35]),(75,[124,35]),(79,[55,35]),(117,[4]),(121,[25,4,35]),(122,[25,25,4,35]),(196,[25,35]),(244,[4]),(266,[3,263]),(12,[32]),(16,[39,32]),(38,[25]),(47,[32]),(124,[82,35]),(189,[25,35]),(209,[4]),(259,[]),(14,[25]),(119,[61,35]),(146,[53,3,35]),(153,[25,35]),(166,[25,35]),(169,[25,35]),(187,[25,35]),(190,[25,35]),(198,[25,35]),(213,[35]),(224,[35]),(236,[]),(249,[35]),(9,[25]),(74,[117,35]),(118,[72,35]),(120,[75,35]),(151,[25,35]),(161,[53]),(162,[25,35]),(163,[53]),(179,[39]),(195,[25,35]),(72,[55,35]),(76,[127,35]),(77,[130,35]),(78,[133,35]),(123,[79,35]),(125,[85,35]),(15,[39,32]),(48,[32]),(11,[32]),(102,[4]),(31,[4]),(19,[46]),(27,[46]),(8,[4]),(3,[4])]
def M6:Sp
 | [.sl 1 bs,.sl 1 cs],[]=>aD (Kerb.tr bs&&Kerb.tr cs&&Zz (bs.length<=1000000000)) (Zx (.bool (Kerb.od bs==Kerb.od cs),[]))
 | _,_=>Zy
def PS:Sp
 | [.sl 1 ks,.sl 1 ls],[]=>aD (Zf ks&&Zf ls&&Zz (ks.length<=1000000000)) (Zx (.bool (Kerb.mQ ks==Kerb.mQ ls),[]))
 | _,_=>Zy
def Kd:Sp
 | [.int .i64 n],[]=>aD (Zz (0<=n)&&Zz (n<=1000)) (Zx (.int .u64 (Kerb.ay n),[]))
 | _,_=>Zy
def Qh:Sp
 | [.int .i64 n],[]=>aD (Zz (0<=n)&&Zz (n<=1000)) (Zx (.int .u64 (Kerb.tb n),[]))
 | _,_=>Zy
def Kj:Sp
 | [.bs b,.int .u16 how],[]=>aD (Zz (b.length<=1000000)&&Zz (0<=how)&&Zz (how<=65535)) (Zx (.bs (Kerb.sY b how),[]))
 | _,_=>Zy
def zk:Sp
 | [.ptr 0 0,.int .i64 n],[(0,[.bs l,.int .i64 pos])]=>aD (Zz (l.length<=4611686018427387904)&&Zz (0<=pos)) (Zx (.int .i64 (Kerb.next l pos n),[[.bs l,.int .i64 (Kerb.dN l pos n)]]))
 | _,_=>Zy
def UJ:Sp
 | [.int .i64 n],[]=>aD (Zz (0<=n)&&Zz (n<=1)) (Zx (.agg [.str (Kerb.fZ n).name,.str (Kerb.fZ n).inst,.str (Kerb.fZ n).aL],[]))
 | _,_=>Zy
def UK:Sp
 | [.int .i64 n,.int .i64 m],[]=>Zx (.bool (Zd n m),[])
 | _,_=>Zy
def UL:Sp
 | [.int .i64 k,.bool little],[]=>Zx (.bs (Kerb.header k little),[])
 | _,_=>Zy
def qa:Sp
 | [.bs b,.str s],[]=>aD (Zz (b.length+s.length<=70368744177664)) (Zx (.bS (Kerb.bw b s),[]))
 | _,_=>Zy
def PD:Sp
 | [.int .i64 n,.int .i64 m],[]=>Zx (.bool (Zd n m),[])
 | _,_=>Zy
def PF:Sp
 | [.int .i64 n],[]=>Zx (.bool (n==1||n==3),[])
 | _,_=>Zy
def PG:Sp
 | [.int .i64 n,.int .i64 m],[]=>Zx (.bool (Zd n m),[])
 | _,_=>Zy
def PJ:Sp
 | [.bs b],[]=>Zx (.aQ [.int .i64 (Kerb.bg b).kind,.bool (Kerb.bg b).little,.int .i64 (Kerb.bg b).err],[])
 | _,_=>Zy
def nq:Sp
 | [.int .u64 k],[]=>aD (Zz (0<=k)&&Zz (k<18446744073709551616)) (Zx (.bs (Kerb.keyBytes k),[]))
 | _,_=>Zy
def jq:Sp
 | [.bs b],[]=>aD (Zz (b.length<=70368744177664)) (Zx (.bS (Kerb.pad b),[]))
 | _,_=>Zy
def PL:Sp
 | [.int .i64 n,.int .i64 m],[]=>Zx (.bool (Zd n m),[])
 | _,_=>Zy
def PM:Sp
 | [.int .i64 n,.int .i64 m],[]=>Zx (.bool (Zd n m),[])
 | _,_=>Zy
def PO:Sp
 | [.bs a,.bs b],[]=>Zx (.bool (a==b),[])
 | _,_=>Zy
def PP:Sp
 | [.str l],[]=>Zx (.bool (Kerb.jr l),[])
 | _,_=>Zy
def PQ:Sp
 | [.str l],[]=>Zx (.bool (Kerb.ep l),[])
 | _,_=>Zy
def PT:Sp
 | [.sl 1 ks],[]=>aD (Zf ks&&Zz (ks.length<=1000000)) (Zx (.aI ks,[]))
 | _,_=>Zy
def PU:Sp
 | [.sl 1 bs],[]=>aD (Kerb.tr bs&&Zz (bs.length<=1000000)) (Zx (.aI bs,[]))
 | _,_=>Zy
def yi:Sp
 | [.str s,.str bad],[]=>aD (Zz (s.length<=9223372036854775807)&&Zz (bad.length<=100)) (Zx (.bool (Kerb.eR s bad&&Zz (s.length<=39)),[]))
 | _,_=>Zy
def yj:Sp
 | [.bs b,.int .i64 n,.int .i64 k,.bool little],[]=>aD (Zz (k=1\/k=2\/k=4)&&Zz (b.length<=70368744177664)) (Zx (.bS (b++Kerb.aK n k.toNat little),[]))
 | _,_=>Zy
def PW:Sp
 | [],[]=>Zx (.sl 1 [.str [65,84,72],.str [66,79,83],.str [67,65,77]],[])
 | _,_=>Zy
def P3:Sp
 | [.ptr 0 0,.int .i64 nx,.int .i64 e],[(0,[.bs B,.int .i64 at_,.bool li,.bool bad])]=>Zx (.aQ [],[[.bs B,.int .i64 (cond (bad || !(e==0)) at_ nx),.bool li,.bool (bad || !(e==0))]])
 | _,_=>Zy
def B7:Sp
 | [.bs b,.int .i64 pos,.int .i64 n],[]=>aD (Zz (b.length<=140737488355328)) (Zx (.aQ [.bs (Zm b pos n).val,.int .i64 (Zm b pos n).next,.int .i64 (Zm b pos n).err],[]))
 | _,_=>Zy
def Iq:Sp
 | [.bs b,.int .i64 pos],[]=>aD (Zz (b.length<=140737488355328)) (Zx (.aQ [.str (Yz b pos).val,.int .i64 (Yz b pos).next,.int .i64 (Yz b pos).err],[]))
 | _,_=>Zy
def P4:Sp
 | [.int .i64 c,.int .i64 n],[]=>Zx (.int .u64 (cond (Kerb.oS c&&Kerb.mR n) (c*72057594037927936+n) 0),[])
 | _,_=>Zy
def P5:Sp
 | [.int .i64 n,.int .i64 m],[]=>Zx (.bool (Zd n m),[])
 | _,_=>Zy
def P6:Sp
 | [.int .i64 n,.int .i64 m],[]=>Zx (.bool (Zd n m),[])
 | _,_=>Zy
def yl:Sp
 | [.bs b,.int .i64 pos,.int .i64 n],[]=>aD (Zz (b.length<=4611686018427387904)) (Zx (.int .i64 (Kerb.room b pos n),[]))
 | _,_=>Zy
def B9:Sp
 | [.bs b],[]=>aD (Zz (b.length<=140737488355328)) (Zx (.bs b,[]))
 | _,_=>Zy
def uK:Sp
 | [.int .u64 k],[]=>aD (Zz (0<=k)&&Zz (k<18446744073709551616)) (Zx (.bs (Kerb.keyBytes k),[]))
 | _,_=>Zy
def P_:Sp
 | [.int .i64 n,.int .i64 m],[]=>Zx (.bool (Zd n m),[])
 | _,_=>Zy
def P':Sp
 | [.ptr 0 0,.int .i64 nx,.int .i64 e],[(0,[.bs B,.int .i64 at_,.bool bad])]=>Zx (.bool (!(bad || !(e==0))),[[.bs B,.int .i64 (cond (bad || !(e==0)) at_ nx),.bool (bad || !(e==0))]])
 | _,_=>Zy
def Qa:Sp
 | [.ptr 0 0,.int .i64 nx,.int .i64 e],[(0,[.bs B,.int .i64 at_,.bool bad])]=>Zx (.aQ [],[[.bs B,.int .i64 (cond (e==0) nx at_),.bool (bad || !(e==0))]])
 | _,_=>Zy
def Qc:Sp
 | [.int .i64 n,.int .i64 m],[]=>Zx (.bool (Zd n m),[])
 | _,_=>Zy
def Qe:Sp
 | [.int .i64 k],[]=>Zx (.bool (Kerb.oS k),[])
 | _,_=>Zy
def Qf:Sp
 | [.int .i64 k],[]=>Zx (.bool (Kerb.mR k),[])
 | _,_=>Zy
def Qg:Sp
 | [.int .i64 k],[]=>Zx (.bool (Kerb.isKind k),[])
 | _,_=>Zy
def Iv:Sp
 | [.int .i64 k,.sl 1 els],[]=>aD (oL els&&Zz (els.length<=1000)) (Zx (.bool ((iH els).contains k),[]))
 | _,_=>Zy
def Qk:Sp
 | [.int .i64 n,.int .i64 m],[]=>Zx (.bool (Zd n m),[])
 | _,_=>Zy
def Ql:Sp
 | [.int .i64 n],[]=>Zx (.bool (Kerb.mT n),[])
 | _,_=>Zy
def Qm:Sp
 | [.int .i64 n,.int .i64 m],[]=>Zx (.bool (Zd n m),[])
 | _,_=>Zy
def Qn:Sp
 | [.bs s,.u8 c],[]=>Zx (.int .i64 (Kerb.indexOf c s),[])
 | _,_=>Zy
def Qo:Sp
 | [.int .i64 n,.int .i64 m],[]=>Zx (.bool (Zd n m),[])
 | _,_=>Zy
def Iy:Sp
 | [.dc,.int .i64 n],[]=>aD (Zz (0<=n)&&Zz (n<=140737488355328)) (Zx (.bS [],[]))
 | _,_=>Zy
def Iz:Sp
 | [.dc,.int .i64 n],[]=>aD (Zz (0<=n)&&Zz (n<=1000000000000)) (Zx (.aI [],[]))
 | _,_=>Zy
def Qp:Sp
 | [.int .i64 k],[]=>Zx (.bool (Kerb.isKind k),[])
 | _,_=>Zy
def IE:Sp
 | [.bK 0 27 1,.int .i64 a,.int .i64 b],[(0,els)]=>aD (Zf els&&Zz ((els.length:Int)<=1152921504606846976)&&Zz (0<=a)&&Zz (a<=b)&&Zz (b<=(els.length:Int))) (Zx (.aQ [],[Kerb.R9 els a b]))
 | _,_=>Zy
def IG:Sp
 | [.int .u64 x],[]=>aD (Zz (0<=x)&&Zz (x<18446744073709551616)) (Zx (.int .i64 (Kerb.RS x),[]))
 | _,_=>Zy
def II:Sp
 | [.ptr 0 0],[(0,[.int .u64 x])]=>aD (Zz (0<=x)&&Zz (x<18446744073709551616)) (Zx (.int .u64 (Kerb.Ku x),[[.int .u64 (Kerb.Ku x)]]))
 | _,_=>Zy
def Qs:Sp
 | [.int .u64 x],[]=>Zx (.bool Zv,[])
 | _,_=>Zy
def Qu:Sp
 | [.str s,.u8 c],[]=>Zx (.int .i64 (Kerb.indexOf c s),[])
 | _,_=>Zy
def Uz:Sp
 | [.u8 n],[]=>Zx (.int .u64 (Kerb.ma n),[])
 | _,_=>Zy
def UF:Sp
 | [.u8 n],[]=>Zx (.int .u64 (Kerb.kH n),[])
 | _,_=>Zy
def FJ:Sp
 | [.str s],[]=>aD (Zz (s.length<=9223372036854775807)) (Zx (.bool (Kerb.dI s),[]))
 | _,_=>Zy
def jk:Sp
 | [.bs b,.int .i64 n],[]=>aD (Zz (b.length<=70368744177664)) (Zx (.bS (b++Kerb.aK n 1 Zv),[]))
 | _,_=>Zy
def BV:Sp
 | [.int .i64 n],[]=>aD (Zz (0<=n)) (Zx (.str (Kerb.aL n),[]))
 | _,_=>Zy
def jU:Sp
 | [.bs b,.agg [.str x,.str y,.str z]],[]=>aD (Zz (b.length+x.length+y.length+z.length<=70368744170000)) (Zx (.bS (Kerb.cO b ⟨x,y,z⟩),[]))
 | _,_=>Zy
def fq:Sp
 | [.bs b,.int .i64 n,.bool little],[]=>aD (Zz (b.length<=70368744177664)) (Zx (.bS (b++Kerb.aK n 4 little),[]))
 | _,_=>Zy
def mi:Sp
 | [.bs b,.int .i64 n,.bool little],[]=>aD (Zz (b.length<=70368744177664)) (Zx (.bS (b++Kerb.aK n 2 little),[]))
 | _,_=>Zy
def uG:Sp
 | [.str s],[]=>aD (Zz (s.length<=9223372036854775807)) (Zx (.bool (Kerb.validName s),[]))
 | _,_=>Zy
def uH:Sp
 | [.str s],[]=>aD (Zz (s.length<=9223372036854775807)) (Zx (.bool (Kerb.cl s),[]))
 | _,_=>Zy
def PI:Sp
 | [.bs b,.sl 1 els],[]=>aD (oL els&&Zz (els.length<=1000)) (Zx (.aQ [.bool (Kerb.aN b (iH els)).1,.int .i64 (Kerb.aN b (iH els)).2],[]))
 | _,_=>Zy
def gu:Sp
 | [.ptr 0 0,.int .i64 n],[(0,[.bs B,.int .i64 at_,.bool li,.bool bad])]=>aD (Zz (B.length<=140737488355328)) (Zx (.bs (Zm B at_ n).val,[[.bs B,.int .i64 (cond (bad || !((Zm B at_ n).err==0)) at_ (Zm B at_ n).next),.bool li,.bool (bad || !((Zm B at_ n).err==0))]]))
 | _,_=>Zy
def oJ:Sp
 | [.ptr 0 0],[(0,[.bs B,.int .i64 at_,.bool li,.bool bad])]=>aD (Zz (B.length<=140737488355328)) (Zx (.str (Yz B at_).val,[[.bs B,.int .i64 (cond (bad || !((Yz B at_).err==0)) at_ (Yz B at_).next),.bool li,.bool (bad || !((Yz B at_).err==0))]]))
 | _,_=>Zy
def mj:Sp
 | [.int .u64 k],[]=>aD (Zz (0<=k)&&Zz (k<18446744073709551616)) (Zx (.bool (Kerb.bA k),[]))
 | _,_=>Zy
def sW:Sp
 | [.bs b,.int .i64 pos,.int .i64 n],[]=>aD (Zz (b.length<=140737488355328)) (Zx (.aQ [.bs (Zm b pos n).val,.int .i64 (Zm b pos n).next,.int .i64 (Zm b pos n).err],[]))
 | _,_=>Zy
def B4:Sp
 | [.int .u64 k],[]=>aD (Zz (0<=k)&&Zz (k<18446744073709551616)) (Zx (.aQ [.int .i64 (cond (Kerb.bA k) (Kerb.mU k) 0),.int .i64 (cond (Kerb.bA k) (Kerb.mb k) 0),.bool (Kerb.bA k)],[]))
 | _,_=>Zy
def B8:Sp
 | [.bs b,.int .i64 pos,.int .i64 k,.bool little],[]=>aD (Zz (b.length<=4611686018427387904)&&Zz (0<=k)&&Zz (k<=4)) (Zx (.aQ [.int .i64 (Zw b pos k little).val,.int .i64 (Zw b pos k little).next,.int .i64 (Zw b pos k little).err],[]))
 | _,_=>Zy
def P7:Sp
 | [.bs s,.u8 c],[]=>Zx (.int .i64 (Kerb.indexOf c s),[])
 | _,_=>Zy
def P9:Sp
 | [.sl 1 els],[]=>aD (Rj els&&Zz ((tA els).length<=140737488355328)&&Zz (els.length<=1000)) (Zx (.bS (tA els),[]))
 | _,_=>Zy
def Qb:Sp
 | [.int .i64 a,.int .i64 b],[]=>Zx (.bool (Kerb.period a b),[])
 | _,_=>Zy
def Qi:Sp
 | [.bs b],[]=>Zx (.aQ [.int .i64 (Kerb.bg b).kind,.bool (Kerb.bg b).little,.int .i64 (Kerb.bg b).err],[])
 | _,_=>Zy
def Qj:Sp
 | [.int .i64 k,.bool little],[]=>Zx (.bs (Kerb.header k little),[])
 | _,_=>Zy
def Ce:Sp
 | [.bs b,.int .i64 pos,.int .i64 k,.bool little],[]=>aD (Zz (b.length<=140737488355328)&&Zz (0<=k)&&Zz (k<=4)) (Zx (.aQ [.int .i64 (Zw b pos k little).val,.int .i64 (Zw b pos k little).next,.int .i64 (Zw b pos k little).err],[]))
 | _,_=>Zy
def Cf:Sp
 | [.int .u64 x],[]=>aD (Kerb.ok x&&Zz (0<=x)&&Zz (x<18446744073709551616)) (Zx (.int .i64 (Kerb.RS x),[]))
 | _,_=>Zy
def Qq:Sp
 | [.int .u64 x,.int .u64 y],[]=>Zx (.bool (Zz (x<y)),[])
 | _,_=>Zy
def Qt:Sp
 | [.str s,.u8 c],[]=>Zx (.int .i64 (Kerb.indexOf c s),[])
 | _,_=>Zy
def Kf:Sp
 | [.agg [.bool li,.bool mu,.int .i64 kv,.str rl,.bs tk,.bs au]],[]=>aD (Zz (rl.length<=9223372036854775807)) (Zx (.aQ [.bs (Kerb.bf (Kerb.cI.mk li mu kv rl tk au)).val,.int .i64 (Kerb.bf (Kerb.cI.mk li mu kv rl tk au)).err],[]))
 | _,_=>Zy
def Kg:Sp
 | [.int .i64 n],[]=>aD (Zz (0<=n)&&Zz (n<=4611686018427387904)) (Zx (.agg [.str (Kerb.user n).name,.str (Kerb.user n).inst,.str (Kerb.user n).aL],[]))
 | _,_=>Zy
def UC:Sp
 | [.bs s,.bool li],[]=>Zx (.aQ [.bs (Kerb.b_ s li).val,.int .i64 (Kerb.b_ s li).err],[])
 | _,_=>Zy
def UE:Sp
 | [.agg [.int .i64 op,.int .i64 cd,.bs bx]],[]=>Zx (.aQ [.bs (Kerb.bu ⟨op,cd,bx⟩).val,.int .i64 (Kerb.bu ⟨op,cd,bx⟩).err],[])
 | _,_=>Zy
def Cj:Sp
 | [.bs b],[]=>aD (Zz (b.length<=4611686018427387904)) (Zx (.aQ [.int .u64 (Kerb.cF b).1,.bool (Kerb.cF b).2],[]))
 | _,_=>Zy
def QH:Sp
 | [.int .i64 n],[]=>aD (Zz (0<=n)&&Zz (n<=4611686018427387904)) (Zx (.agg [.str (Kerb.service n).name,.str (Kerb.service n).inst,.str (Kerb.service n).aL],[]))
 | _,_=>Zy
def M7:Sp
 | [.agg [.str lb,.int .i64 t,.int .i64 st,.int .i64 en,.int .u64 k]],[]=>aD (Zz (0<=k)&&Zz (k<18446744073709551616)) (Zx (.aQ [.bS (Kerb.aR ⟨lb,t,st,en,k⟩).val,.int .i64 (Kerb.aR ⟨lb,t,st,en,k⟩).err],[]))
 | _,_=>Zy
def Km:Sp
 | [.int .i64 kd,.int .u64 k,.bs bd],[]=>aD (Zz (0<=k)&&Zz (k<18446744073709551616)) (Zx (.aQ [.bs (Kerb.gX kd k bd).val,.int .i64 (Kerb.gX kd k bd).err],[]))
 | _,_=>Zy
def Cl:Sp
 | [.int .u64 k],[]=>aD (Zz (0<=k)&&Zz (k<18446744073709551616)) (Zx (.sl 1 (Kerb.dP (Kerb.ez [k])),[]))
 | _,_=>Zy
def zl:Sp
 | [.int .u64 k],[]=>aD (Zz (0<=k)&&Zz (k<18446744073709551616)) (Zx (.bool (Kerb.bA k),[]))
 | _,_=>Zy
def kJ:Sp
 | [.agg [.str a,.str b,.str c]],[]=>aD (Zz (a.length<=9223372036854775807)&&Zz (b.length<=9223372036854775807)&&Zz (c.length<=9223372036854775807)) (Zx (.bool (Kerb.bn.valid ⟨a,b,c⟩),[]))
 | _,_=>Zy
def zT:Sp
 | [.bs b,.bs s,.bool li],[]=>aD (Zz (b.length+s.length<=70368744170000)) (Zx (.bs (Kerb.BG b s li),[]))
 | _,_=>Zy
def nC:Sp
 | [.ptr 0 0],[(0,[.bs B,.int .i64 at_,.bool li,.bool bad])]=>aD (Zz (B.length<=140737488355328)) (Zx (.agg [.str (Kerb.dH B at_ bad).p.name,.str (Kerb.dH B at_ bad).p.inst,.str (Kerb.dH B at_ bad).p.aL],[[.bs B,.int .i64 (Kerb.dH B at_ bad).pos,.bool li,.bool (Kerb.dH B at_ bad).bad]]))
 | _,_=>Zy
def PK:Sp
 | [.bs b,.bool little],[]=>aD (Zz (b.length<=70368744177664)) (Zx (.bS (b++Kerb.aK (cond little 1 0) 1 Zv),[]))
 | _,_=>Zy
def BX:Sp
 | [.int .u64 k],[]=>aD (Zz (0<=k)&&Zz (k<18446744073709551616)) (Zx (.int .i64 (Kerb.iD k),[]))
 | _,_=>Zy
def uI:Sp
 | [.bs b,.int .i64 pos],[]=>aD (Zz (b.length<=4611686018427387904)) (Zx (.aQ [.int .i64 (Zw b pos 1 Zv).val,.int .i64 (Zw b pos 1 Zv).next,.int .i64 (Zw b pos 1 Zv).err],[]))
 | _,_=>Zy
def vH:Sp
 | [.bs b,.int .i64 pos,.bool little],[]=>aD (Zz (b.length<=4611686018427387904)) (Zx (.aQ [.int .i64 (Zw b pos 4 little).val,.int .i64 (Zw b pos 4 little).next,.int .i64 (Zw b pos 4 little).err],[]))
 | _,_=>Zy
def yf:Sp
 | [.bs b,.int .i64 pos],[]=>aD (Zz (b.length<=4611686018427387904)) (Zx (.aQ [.str (Yz b pos).val,.int .i64 (Yz b pos).next,.int .i64 (Yz b pos).err],[]))
 | _,_=>Zy
def sX:Sp
 | [.ptr 0 0,.int .i64 n],[(0,[.bs B,.int .i64 at_,.bool bad])]=>aD (Zz (B.length<=140737488355328)) (Zx (.bs (Kerb.dG B n at_ bad).val,[[.bs B,.int .i64 (Kerb.dG B n at_ bad).pos,.bool (Kerb.dG B n at_ bad).bad]]))
 | _,_=>Zy
def yh:Sp
 | [.ptr 0 0,.int .i64 n],[(0,[.bs B,.int .i64 at_,.bool bad])]=>aD (Zz (B.length<=140737488355328)) (Zx (.bs (Kerb.mG B n at_ bad).val,[[.bs B,.int .i64 (Kerb.mG B n at_ bad).pos,.bool (Kerb.mG B n at_ bad).bad]]))
 | _,_=>Zy
def PX:Sp
 | [.bs b,.sl 1 els],[]=>aD (oL els&&Zz (els.length<=1000)) (Zx (.aQ [.bool (Kerb.aN b (iH els)).1,.int .i64 (Kerb.aN b (iH els)).2],[]))
 | _,_=>Zy
def yk:Sp
 | [.bs b,.int .i64 pos,.bool little],[]=>aD (Zz (b.length<=4611686018427387904)) (Zx (.aQ [.int .i64 (Zw b pos 2 little).val,.int .i64 (Zw b pos 2 little).next,.int .i64 (Zw b pos 2 little).err],[]))
 | _,_=>Zy
def Im:Sp
 | [.bs b,.int .i64 pos,.bool little],[]=>aD (Zz (b.length<=140737488355328)) (Zx (.aQ [.int .i64 (Zw b pos 4 little).val,.int .i64 (Zw b pos 4 little).next,.int .i64 (Zw b pos 4 little).err],[]))
 | _,_=>Zy
def Io:Sp
 | [.bs b,.int .i64 pos],[]=>aD (Zz (b.length<=140737488355328)) (Zx (.aQ [.int .i64 (Zw b pos 1 Zv).val,.int .i64 (Zw b pos 1 Zv).next,.int .i64 (Zw b pos 1 Zv).err],[]))
 | _,_=>Zy
def Ip:Sp
 | [.bs b,.int .i64 pos,.bool little],[]=>aD (Zz (b.length<=140737488355328)) (Zx (.aQ [.int .i64 (Zw b pos 2 little).val,.int .i64 (Zw b pos 2 little).next,.int .i64 (Zw b pos 2 little).err],[]))
 | _,_=>Zy
def qx:Sp
 | [.bs b,.str s],[]=>aD (Zz (b.length+s.length<=70368744177664)) (Zx (.bS (Kerb.bw b s),[]))
 | _,_=>Zy
def rJ:Sp
 | [.bs b],[]=>aD (Zz (b.length<=70368744177664)) (Zx (.bs (Kerb.pad b),[]))
 | _,_=>Zy
def Ca:Sp
 | [.int .u64 k],[]=>aD (Zz (0<=k)&&Zz (k<18446744073709551616)) (Zx (.int .i64 (Kerb.iD k),[]))
 | _,_=>Zy
def ym:Sp
 | [.bs b,.int .i64 n,.int .i64 k,.bool little],[]=>aD (Zz (k=1\/k=2\/k=4)&&Zz (b.length<=70368744177664)) (Zx (.bS (b++Kerb.aK n k.toNat little),[]))
 | _,_=>Zy
def IA:Sp
 | [.bK 0 27 1,.int .i64 a,.int .i64 b],[(0,els)]=>aD (Zf els&&Zz ((els.length:Int)<=1152921504606846976)&&Zz (0<=a)&&Zz (a<=b)&&Zz (b<=(els.length:Int))) (Zx (.aQ [],[Kerb.Ae els a b]))
 | _,_=>Zy
def IF:Sp
 | [.bK 0 27 1,.int .i64 a,.int .i64 b],[(0,els)]=>aD (Zf els&&Zz ((els.length:Int)<=1152921504606846976)&&Zz (0<=a)&&Zz (a<=b)&&Zz (b<=(els.length:Int))&&Zz (a<b)) (Zx (.bool (Kerb.xY els a b).2,[(Kerb.xY els a b).1]))
 | _,_=>Zy
def D9:Sp
 | [.bK 0 27 1,.int .i64 a,.int .i64 b,.int .i64 p],[(0,els)]=>aD (Zf els&&Zz ((els.length:Int)<=1152921504606846976)&&Zz (0<=a)&&Zz (a<=b)&&Zz (b<=(els.length:Int))&&Zz (a<=p)&&Zz (p<b)) (Zx (.int .i64 (Kerb.Fo els a b p).1,[(Kerb.Fo els a b p).2]))
 | _,_=>Zy
def D_:Sp
 | [.bK 0 27 1,.int .i64 a,.int .i64 b,.int .i64 p],[(0,els)]=>aD (Zf els&&Zz ((els.length:Int)<=1152921504606846976)&&Zz (0<=a)&&Zz (a<=b)&&Zz (b<=(els.length:Int))&&Zz (a<=p)&&Zz (p<b)) (Zx (.aQ [.int .i64 (Kerb.part els a b p).1,.bool (Kerb.part els a b p).2.1],[(Kerb.part els a b p).2.2]))
 | _,_=>Zy
def Qr:Sp
 | [.str s,.u8 c],[]=>Zx (.int .i64 (Kerb.indexOf c s),[])
 | _,_=>Zy
def D':Sp
 | [.bK 0 27 1,.int .i64 lo,.int .i64 hi,.int .i64 first],[(0,els)]=>aD (Zf els&&Zz ((els.length:Int)<=1152921504606846976)&&Zz (0<=lo)&&Zz (0<=hi)&&Zz (0<=first)&&Zz (first+hi<=(els.length:Int))&&Zz (lo<=(els.length:Int))) (Zx (.aQ [],[Kerb.sift els lo hi first]))
 | _,_=>Zy
def IH:Sp
 | [.int .i64 n],[]=>aD (Zz (0<=n)&&Zz (n<=4611686018427387904)) (Zx (.int .u64 (Kerb.Pc n),[]))
 | _,_=>Zy
def Ci:Sp
 | [.bK 0 27 1,.int .i64 a,.int .i64 b,.ptr 3 0],[(0,els),(3,[.int .i64 s])]=>aD (Zf els&&Zz ((els.length:Int)<=1152921504606846976)&&Zz (0<=a)&&Zz (a<(els.length:Int))&&Zz (0<=b)&&Zz (b<(els.length:Int))&&Zz (0<=s)&&Zz (s<=1000)) (Zx (.aQ [.int .i64 (Kerb.order2 els a b s).1,.int .i64 (Kerb.order2 els a b s).2.1],[els,[.int .i64 (Kerb.order2 els a b s).2.2]]))
 | _,_=>Zy
def Kb:Sp
 | [.bs b],[]=>aD (Zz (b.length<=140737488355328)) (Zx (.aQ [.agg [.int .i64 (Yv b).box.kind,.int .u64 (Yv b).box.key,.bs (Yv b).box.body],.int .i64 (Yv b).n,.int .i64 (Yv b).err],[]))
 | _,_=>Zy
def Ke:Sp
 | [.bs l],[]=>aD (Zz (l.length<=4611686018427387904)) (Zx (.agg [.bool (Yu l).little,.str (Yu l).client.name,.str (Yu l).client.inst,.str (Yu l).client.aL,.int .i64 (Yu l).address,.int .u64 (Yu l).ay,.int .i64 (Yu l).bL,.int .i64 (Yu l).cG,.str (Yu l).service,.str (Yu l).inst],[]))
 | _,_=>Zy
def Kh:Sp
 | [.agg [.bool li,.str x,.str y,.str z,.int .i64 t,.int .i64 ex,.int .i64 kv,.bs sd]],[]=>aD (Zz (x.length<=9223372036854775807)&&Zz (y.length<=9223372036854775807)&&Zz (z.length<=9223372036854775807)) (Zx (.aQ [.bs (Kerb.bc ⟨li,⟨x,y,z⟩,t,ex,kv,sd⟩).val,.int .i64 (Kerb.bc ⟨li,⟨x,y,z⟩,t,ex,kv,sd⟩).err],[]))
 | _,_=>Zy
def Qv:Sp
 | [.agg [.bool li,.bool mu,.int .i64 kv,.str rl,.bs tk,.bs au,.int .i64 tm,.int .i64 lf,.str sv,.str ins]],[]=>aD (Zz (rl.length<=9223372036854775807)&&Zz (sv.length<=9223372036854775807)&&Zz (ins.length<=9223372036854775807)) (Zx (.aQ [.bs (Kerb.cS (Kerb.fu.mk (Kerb.cI.mk li mu kv rl tk au) tm lf sv ins)).val,.int .i64 (Kerb.cS (Kerb.fu.mk (Kerb.cI.mk li mu kv rl tk au) tm lf sv ins)).err],[]))
 | _,_=>Zy
def UD:Sp
 | [.agg [.int .i64 op,.str ux,.str uy,.str uz,.int .i64 kv,.str rl,.bs tk,.str sv,.str ins,.bs bx]],[]=>aD (Zz (ux.length<=9223372036854775807)&&Zz (uy.length<=9223372036854775807)&&Zz (uz.length<=9223372036854775807)&&Zz (rl.length<=9223372036854775807)&&Zz (sv.length<=9223372036854775807)&&Zz (ins.length<=9223372036854775807)) (Zx (.aQ [.bs (Kerb.aP ⟨op,⟨ux,uy,uz⟩,kv,rl,tk,sv,ins,bx⟩).val,.int .i64 (Kerb.aP ⟨op,⟨ux,uy,uz⟩,kv,rl,tk,sv,ins,bx⟩).err],[]))
 | _,_=>Zy
def Ki:Sp
 | [.agg [.int .i64 op,.str ux,.str uy,.str uz,.bs bx]],[]=>aD (Zz (ux.length<=9223372036854775807)&&Zz (uy.length<=9223372036854775807)&&Zz (uz.length<=9223372036854775807)) (Zx (.aQ [.bs (Kerb.dw ⟨op,⟨ux,uy,uz⟩,bx⟩).val,.int .i64 (Kerb.dw ⟨op,⟨ux,uy,uz⟩,bx⟩).err],[]))
 | _,_=>Zy
def UG:Sp
 | [.bs [x]],[]=>Zx (.agg [.str (Kerb.ld x).client.name,.str (Kerb.ld x).client.inst,.str (Kerb.ld x).client.aL,.int .i64 (Kerb.ld x).dp,.int .i64 (Kerb.ld x).tick,.int .i64 (Kerb.ld x).time],[])
 | _,_=>Zy
def Kl:Sp
 | [.agg [.int .u64 k,.str x,.str y,.str z,.int .i64 lf,.int .i64 kv,.bs tk,.int .i64 t],.bool little],[]=>aD (Zz (x.length<=9223372036854775807)&&Zz (y.length<=9223372036854775807)&&Zz (z.length<=9223372036854775807)&&Zz (0<=k)&&Zz (k<18446744073709551616)) (Zx (.aQ [.bs (Kerb.bp ⟨k,⟨x,y,z⟩,lf,kv,tk,t⟩ little).val,.int .i64 (Kerb.bp ⟨k,⟨x,y,z⟩,lf,kv,tk,t⟩ little).err],[]))
 | _,_=>Zy
def UH:Sp
 | [.agg [.int .i64 ck,.int .i64 tc,.int .i64 tm],.bool li],[]=>Zx (.aQ [.bs (Kerb.fG ⟨ck,tc,tm⟩ li).val,.int .i64 (Kerb.fG ⟨ck,tc,tm⟩ li).err],[])
 | _,_=>Zy
def UI:Sp
 | [.agg [.bs dt,.int .i64 tc,.int .i64 ad,.int .i64 tm],.bool li],[]=>Zx (.aQ [.bs (Kerb.eu ⟨dt,tc,ad,tm⟩ li).val,.int .i64 (Kerb.eu ⟨dt,tc,ad,tm⟩ li).err],[])
 | _,_=>Zy
def M8:Sp
 | [.agg [.str lb,.int .i64 t,.int .u64 k,.int .i64 st,.int .i64 en,.int .i64 kv,.str x,.str y,.str z,.bs tk]],[]=>aD (Zz (x.length<=9223372036854775807)&&Zz (y.length<=9223372036854775807)&&Zz (z.length<=9223372036854775807)&&Zz (0<=k)&&Zz (k<18446744073709551616)) (Zx (.aQ [.bs (Kerb.aY ⟨lb,t,k,st,en,kv,⟨x,y,z⟩,tk⟩).val,.int .i64 (Kerb.aY ⟨lb,t,k,st,en,kv,⟨x,y,z⟩,tk⟩).err],[]))
 | _,_=>Zy
def M9:Sp
 | [.agg [.str cx,.str cy,.str cz,.str sx,.str sy,.str sz,.int .u64 k,.int .i64 t,.int .i64 e,.int .i64 a]],[]=>aD (Zz (cx.length<=9223372036854775807)&&Zz (cy.length<=9223372036854775807)&&Zz (cz.length<=9223372036854775807)&&Zz (sx.length<=9223372036854775807)&&Zz (sy.length<=9223372036854775807)&&Zz (sz.length<=9223372036854775807)&&Zz (0<=k)&&Zz (k<18446744073709551616)) (Zx (.aQ [.bs (Kerb.dF ⟨⟨cx,cy,cz⟩,⟨sx,sy,sz⟩,k,t,e,a⟩).val,.int .i64 (Kerb.dF ⟨⟨cx,cy,cz⟩,⟨sx,sy,sz⟩,k,t,e,a⟩).err],[]))
 | _,_=>Zy
def M_:Sp
 | [.agg [.int .u64 k,.str sx,.str sy,.str sz,.int .i64 t,.int .i64 e,.bs rc]],[]=>aD (Zz (sx.length<=9223372036854775807)&&Zz (sy.length<=9223372036854775807)&&Zz (sz.length<=9223372036854775807)&&Zz (0<=k)&&Zz (k<18446744073709551616)) (Zx (.aQ [.bs (Kerb.c5 ⟨k,⟨sx,sy,sz⟩,t,e,rc⟩).val,.int .i64 (Kerb.c5 ⟨k,⟨sx,sy,sz⟩,t,e,rc⟩).err],[]))
 | _,_=>Zy
def Ck:Sp
 | [.sl 1 ks],[]=>aD (Kerb.yT ks) (Zx (.sl 1 (Kerb.dP (Kerb.ez (Kerb.mQ ks))),[]))
 | _,_=>Zy
def iZ:Sp
 | [.ptr 0 0],[(0,[.bs B,.int .i64 at_,.bool li,.bool bad])]=>aD (Zz (B.length<=140737488355328)) (Zx (.int .i64 (Zw B at_ 4 li).val,[[.bs B,.int .i64 (cond (bad || !((Zw B at_ 4 li).err==0)) at_ (Zw B at_ 4 li).next),.bool li,.bool (bad || !((Zw B at_ 4 li).err==0))]]))
 | _,_=>Zy
def iB:Sp
 | [.ptr 0 0],[(0,[.bs B,.int .i64 at_,.bool li,.bool bad])]=>aD (Zz (B.length<=140737488355328)) (Zx (.int .i64 (Zw B at_ 1 Zv).val,[[.bs B,.int .i64 (cond (bad || !((Zw B at_ 1 Zv).err==0)) at_ (Zw B at_ 1 Zv).next),.bool li,.bool (bad || !((Zw B at_ 1 Zv).err==0))]]))
 | _,_=>Zy
def oI:Sp
 | [.ptr 0 0],[(0,[.bs B,.int .i64 at_,.bool li,.bool bad])]=>aD (Zz (B.length<=140737488355328)) (Zx (.int .i64 (Zw B at_ 2 li).val,[[.bs B,.int .i64 (cond (bad || !((Zw B at_ 2 li).err==0)) at_ (Zw B at_ 2 li).next),.bool li,.bool (bad || !((Zw B at_ 2 li).err==0))]]))
 | _,_=>Zy
def H6:Sp
 | [.agg [.bool li,.str x,.str y,.str z,.int .i64 ad,.int .u64 k,.int .i64 lf,.int .i64 wF,.str sv,.str ins]],[]=>aD (Zz (x.length<=9223372036854775807)&&Zz (y.length<=9223372036854775807)&&Zz (z.length<=9223372036854775807)&&Zz (sv.length<=9223372036854775807)&&Zz (ins.length<=9223372036854775807)&&Zz (0<=k)&&Zz (k<18446744073709551616)) (Zx (.int .i64 (Kerb.dQ.mk li ⟨x,y,z⟩ ad k lf wF sv ins).err,[]))
 | _,_=>Zy
def H7:Sp
 | [.agg [.str x,.str y,.str z,.int .i64 ck,.int .i64 tc,.int .i64 tm]],[]=>aD (Zz (x.length<=9223372036854775807)&&Zz (y.length<=9223372036854775807)&&Zz (z.length<=9223372036854775807)) (Zx (.int .i64 (Kerb.nt.mk ⟨x,y,z⟩ ck tc tm).check,[]))
 | _,_=>Zy
def ye:Sp
 | [.bs b],[]=>aD (Zz (b.length<=4611686018427387904)) (Zx (.aQ [.int .u64 (Kerb.cF b).1,.bool (Kerb.cF b).2],[]))
 | _,_=>Zy
def uJ:Sp
 | [.ptr 0 0],[(0,[.bs B,.int .i64 at_,.bool bad])]=>aD (Zz (B.length<=140737488355328)) (Zx (.int .i64 (Kerb.gE B 4 at_ bad).val,[[.bs B,.int .i64 (Kerb.gE B 4 at_ bad).pos,.bool (Kerb.gE B 4 at_ bad).bad]]))
 | _,_=>Zy
def yg:Sp
 | [.ptr 0 0],[(0,[.bs B,.int .i64 at_,.bool bad])]=>aD (Zz (B.length<=140737488355328)) (Zx (.int .i64 (Kerb.gE B 1 at_ bad).val,[[.bs B,.int .i64 (Kerb.gE B 1 at_ bad).pos,.bool (Kerb.gE B 1 at_ bad).bad]]))
 | _,_=>Zy
def vJ:Sp
 | [.ptr 0 0],[(0,[.bs B,.int .i64 at_,.bool bad])]=>aD (Zz (B.length<=140737488355328)) (Zx (.int .i64 (Kerb.p_ B 4 at_ bad).val,[[.bs B,.int .i64 (Kerb.p_ B 4 at_ bad).pos,.bool (Kerb.p_ B 4 at_ bad).bad]]))
 | _,_=>Zy
def B3:Sp
 | [.ptr 0 0],[(0,[.bs B,.int .i64 at_,.bool bad])]=>aD (Zz (B.length<=140737488355328)) (Zx (.int .i64 (Kerb.p_ B 2 at_ bad).val,[[.bs B,.int .i64 (Kerb.p_ B 2 at_ bad).pos,.bool (Kerb.p_ B 2 at_ bad).bad]]))
 | _,_=>Zy
def B5:Sp
 | [.bs b],[]=>aD (Zz (b.length<=140737488355328)) (Zx (.aQ [.agg [.bool ((Kerb.jP b).val).little,.bool ((Kerb.jP b).val).cW,.int .i64 ((Kerb.jP b).val).br,.str ((Kerb.jP b).val).aL,.bs ((Kerb.jP b).val).aH,.bs ((Kerb.jP b).val).fm],.int .i64 (Kerb.jP b).next],[]))
 | _,_=>Zy
def PZ:Sp
 | [.ptr 0 0],[(0,[.bs B,.int .i64 at_,.bool bad])]=>aD (Zz (B.length<=140737488355328)) (Zx (.str (Kerb.mg B at_ bad).val,[[.bs B,.int .i64 (Kerb.mg B at_ bad).pos,.bool (Kerb.mg B at_ bad).bad]]))
 | _,_=>Zy
def Ij:Sp
 | [.ptr 0 0],[(0,[.bs B,.int .i64 at_,.bool bad])]=>aD (Zz (B.length<=140737488355328)) (Zx (.int .i64 (Kerb.gE B 2 at_ bad).val,[[.bs B,.int .i64 (Kerb.gE B 2 at_ bad).pos,.bool (Kerb.gE B 2 at_ bad).bad]]))
 | _,_=>Zy
def Ik:Sp
 | [.ptr 0 0],[(0,[.bs B,.int .i64 at_,.bool bad])]=>aD (Zz (B.length<=140737488355328)) (Zx (.int .i64 (Kerb.p_ B 1 at_ bad).val,[[.bs B,.int .i64 (Kerb.p_ B 1 at_ bad).pos,.bool (Kerb.p_ B 1 at_ bad).bad]]))
 | _,_=>Zy
def rI:Sp
 | [.bs b,.int .i64 n],[]=>aD (Zz (b.length<=70368744177664)) (Zx (.bS (b++Kerb.aK n 1 Zv),[]))
 | _,_=>Zy
def qw:Sp
 | [.bs b,.agg [.str x,.str y,.str z]],[]=>aD (Zz (b.length+x.length+y.length+z.length<=70368744170000)) (Zx (.bS (Kerb.cO b ⟨x,y,z⟩),[]))
 | _,_=>Zy
def ml:Sp
 | [.bs b,.int .i64 n,.bool little],[]=>aD (Zz (b.length<=70368744177664)) (Zx (.bS (b++Kerb.aK n 4 little),[]))
 | _,_=>Zy
def Ir:Sp
 | [.agg [.str lb,.int .i64 t,.int .i64 st,.int .i64 en,.int .u64 k]],[]=>aD (Zz (0<=k)&&Zz (k<18446744073709551616)) (Zx (.int .i64 (Kerb.aR ⟨lb,t,st,en,k⟩).err,[]))
 | _,_=>Zy
def Cc:Sp
 | [.bs b,.int .i64 n,.bool little],[]=>aD (Zz (b.length<=70368744177664)) (Zx (.bS (b++Kerb.aK n 2 little),[]))
 | _,_=>Zy
def Iw:Sp
 | [.bs b,.int .i64 at_,.int .i64 most,.bool li],[]=>aD (Zz (b.length<=140737488355328)) (Zx (.aQ [.bs (Kerb.eo b at_ most li).val,.int .i64 (Kerb.eo b at_ most li).next,.bool (Kerb.eo b at_ most li).ok],[]))
 | _,_=>Zy
def Cg:Sp
 | [.str s,.str bad],[]=>aD (Zz (s.length<=9223372036854775807)) (Zx (.bool (Kerb.eR s bad),[]))
 | _,_=>Zy
def IB:Sp
 | [.bK 0 27 1,.int .i64 a,.int .i64 b],[(0,els)]=>aD (Zf els&&Zz ((els.length:Int)<=1152921504606846976)&&Zz (0<=a)&&Zz (a<=b)&&Zz (b<=(els.length:Int))) (Zx (.aQ [],[Kerb.KT els a b]))
 | _,_=>Zy
def IC:Sp
 | [.bK 0 27 1,.int .i64 a,.int .i64 b],[(0,els)]=>aD (Zf els&&Zz ((els.length:Int)<=1152921504606846976)&&Zz (0<=a)&&Zz (a<=b)&&Zz (b<=(els.length:Int))) (Zx (.aQ [],[Kerb.Et els a b]))
 | _,_=>Zy
def zV:Sp
 | [.bK 0 27 1,.int .i64 a,.int .i64 b,.int .i64 c,.ptr 4 0],[(0,els),(4,[.int .i64 s])]=>aD (Zf els&&Zz ((els.length:Int)<=1152921504606846976)&&Zz (0<=a)&&Zz (a<(els.length:Int))&&Zz (0<=b)&&Zz (b<(els.length:Int))&&Zz (0<=c)&&Zz (c<(els.length:Int))&&Zz (0<=s)&&Zz (s<=900)) (Zx (.int .i64 (Kerb.median els a b c s).1,[els,[.int .i64 (Kerb.median els a b c s).2]]))
 | _,_=>Zy
def Qz:Sp
 | [.bs b],[]=>aD (Zz (b.length<=140737488355328)) (Zx (.aQ [.agg [.bool ((Zb b).val).little,.str ((Zb b).val).client.name,.str ((Zb b).val).client.inst,.str ((Zb b).val).client.aL,.int .i64 ((Zb b).val).time,.int .i64 ((Zb b).val).cE,.int .i64 ((Zb b).val).br,.bs ((Zb b).val).cD],.int .i64 (Zb b).err],[]))
 | _,_=>Zy
def QC:Sp
 | [.bs b],[]=>aD (Zz (b.length<=140737488355328)) (Zx (.aQ [.bs (Kerb.gV b).val,.bool (Kerb.gV b).little,.int .i64 (Kerb.gV b).err],[]))
 | _,_=>Zy
def QD:Sp
 | [.bs b],[]=>aD (Zz (b.length<=140737488355328)) (Zx (.aQ [.bs (Yy b).plain,.bs (Yy b).cD,.bool (Yy b).little,.int .i64 (Yy b).err],[]))
 | _,_=>Zy
def QE:Sp
 | [.bs b],[]=>aD (Zz (b.length<=140737488355328)) (Zx (.aQ [.agg [.int .i64 ((Zp b).val).op,.str ((Zp b).val).user.name,.str ((Zp b).val).user.inst,.str ((Zp b).val).user.aL,.int .i64 ((Zp b).val).br,.str ((Zp b).val).aL,.bs ((Zp b).val).aH,.str ((Zp b).val).service,.str ((Zp b).val).inst,.bs ((Zp b).val).box],.int .i64 (Zp b).err],[]))
 | _,_=>Zy
def QF:Sp
 | [.bs b],[]=>aD (Zz (b.length<=140737488355328)) (Zx (.aQ [.agg [.int .i64 ((Kerb.cp b).val).op,.int .i64 ((Kerb.cp b).val).code,.bs ((Kerb.cp b).val).box],.int .i64 (Kerb.cp b).err],[]))
 | _,_=>Zy
def QG:Sp
 | [.bs b],[]=>aD (Zz (b.length<=140737488355328)) (Zx (.aQ [.agg [.int .i64 ((Yx b).val).op,.str ((Yx b).val).name.name,.str ((Yx b).val).name.inst,.str ((Yx b).val).name.aL,.bs ((Yx b).val).box],.int .i64 (Yx b).err],[]))
 | _,_=>Zy
def Kk:Sp
 | [.agg [.bool li,.str x,.str y,.str z,.int .i64 ad,.int .u64 k,.int .i64 lf,.int .i64 wF,.str sv,.str ins]],[]=>aD (Zz (x.length<=9223372036854775807)&&Zz (y.length<=9223372036854775807)&&Zz (z.length<=9223372036854775807)&&Zz (sv.length<=9223372036854775807)&&Zz (ins.length<=9223372036854775807)&&Zz (0<=k)&&Zz (k<18446744073709551616)) (Zx (.aQ [.bs (Kerb.bB (Kerb.dQ.mk li ⟨x,y,z⟩ ad k lf wF sv ins)).val,.int .i64 (Kerb.bB (Kerb.dQ.mk li ⟨x,y,z⟩ ad k lf wF sv ins)).err],[]))
 | _,_=>Zy
def QI:Sp
 | [.agg [.str x,.str y,.str z,.int .i64 ck,.int .i64 tc,.int .i64 tm],.bool li],[]=>aD (Zz (x.length<=9223372036854775807)&&Zz (y.length<=9223372036854775807)&&Zz (z.length<=9223372036854775807)) (Zx (.aQ [.bs (Kerb.iT (Kerb.nt.mk ⟨x,y,z⟩ ck tc tm) li).val,.int .i64 (Kerb.iT (Kerb.nt.mk ⟨x,y,z⟩ ck tc tm) li).err],[]))
 | _,_=>Zy
def Nb:Sp
 | [.bs b,.bool little],[]=>aD (Zz (b.length<=140737488355328)) (Zx (.aQ [.agg [.int .u64 ((Zg b little).val).ay,.str ((Zg b little).val).service.name,.str ((Zg b little).val).service.inst,.str ((Zg b little).val).service.aL,.int .i64 ((Zg b little).val).bL,.int .i64 ((Zg b little).val).br,.bs ((Zg b little).val).aH,.int .i64 ((Zg b little).val).time],.int .i64 (Zg b little).err],[]))
 | _,_=>Zy
def QP:Sp
 | [.bs b],[]=>aD (Zz (b.length<=140737488355328)) (Zx (.aQ [.agg [.str ((Yw b).val).label,.int .i64 ((Yw b).val).time,.int .i64 ((Yw b).val).start,.int .i64 ((Yw b).val).stop,.int .u64 ((Yw b).val).new],.int .i64 (Yw b).err],[]))
 | _,_=>Zy
def QQ:Sp
 | [.bs b],[]=>aD (Zz (b.length<=140737488355328)) (Zx (.aQ [.agg [.str ((Zk b).val).label,.int .i64 ((Zk b).val).time,.int .u64 ((Zk b).val).ay,.int .i64 ((Zk b).val).start,.int .i64 ((Zk b).val).stop,.int .i64 ((Zk b).val).br,.str ((Zk b).val).service.name,.str ((Zk b).val).service.inst,.str ((Zk b).val).service.aL,.bs ((Zk b).val).aH],.int .i64 (Zk b).err],[]))
 | _,_=>Zy
def QR:Sp
 | [.bs b],[]=>aD (Zz (b.length<=140737488355328)) (Zx (.aQ [.agg [.str ((Zu b).val).client.name,.str ((Zu b).val).client.inst,.str ((Zu b).val).client.aL,.str ((Zu b).val).service.name,.str ((Zu b).val).service.inst,.str ((Zu b).val).service.aL,.int .u64 ((Zu b).val).ay,.int .i64 ((Zu b).val).start,.int .i64 ((Zu b).val).stop,.int .i64 ((Zu b).val).addr],.int .i64 (Zu b).err],[]))
 | _,_=>Zy
def QS:Sp
 | [.bs b],[]=>aD (Zz (b.length<=140737488355328)) (Zx (.aQ [.agg [.int .u64 ((Zn b).val).ay,.str ((Zn b).val).service.name,.str ((Zn b).val).service.inst,.str ((Zn b).val).service.aL,.int .i64 ((Zn b).val).start,.int .i64 ((Zn b).val).stop,.bs ((Zn b).val).record],.int .i64 (Zn b).err],[]))
 | _,_=>Zy
def BW:Sp
 | [.agg [.bs dt,.int .i64 tc,.int .i64 ad,.int .i64 tm],.bool li,.int .i64 kd,.int .u64 k],[]=>aD (Zz (0<=k)&&Zz (k<18446744073709551616)) (Zx (.aQ [.bs (Kerb.lq ⟨dt,tc,ad,tm⟩ li kd k).text,.bs (Kerb.lq ⟨dt,tc,ad,tm⟩ li kd k).box,.int .i64 (Kerb.lq ⟨dt,tc,ad,tm⟩ li kd k).err],[]))
 | _,_=>Zy
def H5:Sp
 | [.bs b],[]=>aD (Zz (b.length<=140737488355328)) (Zx (.bool (Kerb.ol b),[]))
 | _,_=>Zy
def BZ:Sp
 | [.ptr 0 0],[(0,[.bs B,.int .i64 at_,.bool bad])]=>aD (Zz (B.length<=140737488355328)) (Zx (.int .u64 (Kerb.zc B at_ bad).val,[[.bs B,.int .i64 (Kerb.zc B at_ bad).pos,.bool (Kerb.zc B at_ bad).bad]]))
 | _,_=>Zy
def H_:Sp
 | [.agg [.str lb,.int .i64 t,.int .i64 st,.int .i64 en,.int .u64 k]],[]=>aD (Zz (0<=k)&&Zz (k<18446744073709551616)) (Zx (.aQ [.bs (Kerb.aR ⟨lb,t,st,en,k⟩).val,.int .i64 (Kerb.aR ⟨lb,t,st,en,k⟩).err],[]))
 | _,_=>Zy
def B2:Sp
 | [.ptr 0 0],[(0,[.bs B,.int .i64 at_,.bool bad])]=>aD (Zz (B.length<=140737488355328)) (Zx (.int .u64 (Kerb.xg B at_ bad).val,[[.bs B,.int .i64 (Kerb.xg B at_ bad).pos,.bool (Kerb.xg B at_ bad).bad]]))
 | _,_=>Zy
def Ie:Sp
 | [.bs b],[]=>aD (Zz (b.length<=140737488355328)) (Zx (.aQ [.agg [.int .i64 (Yv b).box.kind,.int .u64 (Yv b).box.key,.bs (Yv b).box.body],.int .i64 (Yv b).n,.int .i64 (Yv b).err],[]))
 | _,_=>Zy
def PY:Sp
 | [.bs s,.bool li],[]=>Zx (.aQ [.bs (Kerb.b_ s li).val,.int .i64 (Kerb.b_ s li).err],[])
 | _,_=>Zy
def Ii:Sp
 | [.bs b],[]=>aD (Zz (b.length<=140737488355328)) (Zx (.aQ [.int .i64 (Yy b).kind,.bs (Yy b).plain,.bs (Yy b).cD,.bool (Yy b).little,.int .i64 (Yy b).err],[]))
 | _,_=>Zy
def B_:Sp
 | [.bs b,.bs t],[]=>aD (Zz (b.length+t.length<=70368744170000)) (Zx (.bs (Kerb.jS b t),[]))
 | _,_=>Zy
def Cb:Sp
 | [.bs b,.bs t],[]=>aD (Zz (b.length+t.length<=70368744170000)) (Zx (.bs (Kerb.dL b t),[]))
 | _,_=>Zy
def uL:Sp
 | [.str s],[]=>aD (Zz (s.length<=9223372036854775807)) (Zx (.bool (Kerb.validName s),[]))
 | _,_=>Zy
def rK:Sp
 | [.str s],[]=>aD (Zz (s.length<=9223372036854775807)) (Zx (.bool (Kerb.cl s),[]))
 | _,_=>Zy
def zU:Sp
 | [.bs b,.bs t],[]=>aD (Zz (b.length+t.length<=70368744170000)) (Zx (.bs (Kerb.dL b t),[]))
 | _,_=>Zy
def Ch:Sp
 | [.bK 0 27 1,.int .i64 a,.ptr 2 0],[(0,els),(2,[.int .i64 s])]=>aD (Zf els&&Zz ((els.length:Int)<=1152921504606846976)&&Zz (1<=a)&&Zz (a+1<(els.length:Int))&&Zz (0<=s)&&Zz (s<=800)) (Zx (.int .i64 (Kerb.E' els a s).1,[els,[.int .i64 (Kerb.E' els a s).2]]))
 | _,_=>Zy
def Qd:Sp
 | [.agg [.bool li,.str x,.str y,.str z,.int .i64 ad,.int .u64 k,.int .i64 lf,.int .i64 wF,.str sv,.str ins],.int .u64 key],[]=>aD (Zz (x.length<=9223372036854775807)&&Zz (y.length<=9223372036854775807)&&Zz (z.length<=9223372036854775807)&&Zz (sv.length<=9223372036854775807)&&Zz (ins.length<=9223372036854775807)&&Zz (0<=k)&&Zz (k<18446744073709551616)&&Zz (0<=key)&&Zz (key<18446744073709551616)) (Zx (.aQ [.bs (Kerb.gN (Kerb.dQ.mk li ⟨x,y,z⟩ ad k lf wF sv ins) key).val,.int .i64 (Kerb.gN (Kerb.dQ.mk li ⟨x,y,z⟩ ad k lf wF sv ins) key).err],[]))
 | _,_=>Zy
def Qw:Sp
 | [.agg [.bs dt,.int .i64 tc,.int .i64 ad,.int .i64 tm],.bool li,.int .u64 k],[]=>aD (Zz (0<=k)&&Zz (k<18446744073709551616)) (Zx (.aQ [.bs (Kerb.ry ⟨dt,tc,ad,tm⟩ li k).val,.int .i64 (Kerb.ry ⟨dt,tc,ad,tm⟩ li k).err],[]))
 | _,_=>Zy
def Qx:Sp
 | [.agg [.bs dt,.int .i64 tc,.int .i64 ad,.int .i64 tm],.bool li,.int .u64 k],[]=>aD (Zz (0<=k)&&Zz (k<18446744073709551616)) (Zx (.aQ [.bs (Kerb.ru ⟨dt,tc,ad,tm⟩ li k).val,.int .i64 (Kerb.ru ⟨dt,tc,ad,tm⟩ li k).err],[]))
 | _,_=>Zy
def uM:Sp
 | [.sl 1 bs],[]=>aD (Kerb.qG bs) (Zx (.sl 1 (Kerb.dl (Kerb.gx (Kerb.od bs))),[]))
 | _,_=>Zy
def QA:Sp
 | [.bs b],[]=>aD (Zz (b.length<=140737488355328)) (Zx (.aQ [.agg [.bool ((Zh b).val).little,.bool ((Zh b).val).cW,.int .i64 ((Zh b).val).br,.str ((Zh b).val).aL,.bs ((Zh b).val).aH,.bs ((Zh b).val).fm],.int .i64 (Zh b).err],[]))
 | _,_=>Zy
def QB:Sp
 | [.bs b],[]=>aD (Zz (b.length<=140737488355328)) (Zx (.aQ [.agg [.bool ((Zq b).val).ap.little,.bool ((Zq b).val).ap.cW,.int .i64 ((Zq b).val).ap.br,.str ((Zq b).val).ap.aL,.bs ((Zq b).val).ap.aH,.bs ((Zq b).val).ap.fm,.int .i64 ((Zq b).val).time,.int .i64 ((Zq b).val).bL,.str ((Zq b).val).service,.str ((Zq b).val).inst],.int .i64 (Zq b).err],[]))
 | _,_=>Zy
def QK:Sp
 | [.bs b],[]=>aD (Zz (b.length<=140737488355328)) (Zx (.aQ [.agg [.str ((Yw b).val).label,.int .i64 ((Yw b).val).time,.int .i64 ((Yw b).val).start,.int .i64 ((Yw b).val).stop,.int .u64 ((Yw b).val).new],.int .i64 (Yw b).err],[]))
 | _,_=>Zy
def QO:Sp
 | [.bs b],[]=>aD (Zz (b.length<=140737488355328)) (Zx (.aQ [.agg [.bool ((Zj b).val).little,.str ((Zj b).val).client.name,.str ((Zj b).val).client.inst,.str ((Zj b).val).client.aL,.int .i64 ((Zj b).val).address,.int .u64 ((Zj b).val).ay,.int .i64 ((Zj b).val).bL,.int .i64 ((Zj b).val).cG,.str ((Zj b).val).service,.str ((Zj b).val).inst],.int .i64 (Zj b).err],[]))
 | _,_=>Zy
def HV:Sp
 | [.bs b],[]=>aD (Zz (b.length<=140737488355328)) (Zx (.bool (Kerb.ol b),[]))
 | _,_=>Zy
def HZ:Sp
 | [.bs b],[]=>aD (Zz (b.length<=140737488355328)) (Zx (.aQ [.bs (Kerb.gV b).val,.bool (Kerb.gV b).little,.int .i64 (Kerb.gV b).err],[]))
 | _,_=>Zy
def H0:Sp
 | [.bs b],[]=>aD (Zz (b.length<=140737488355328)) (Zx (.aQ [.bs (Yy b).plain,.bs (Yy b).cD,.bool (Yy b).little,.int .i64 (Yy b).err],[]))
 | _,_=>Zy
def P2:Sp
 | [.agg [.int .i64 op,.int .i64 cd,.bs bx]],[]=>Zx (.aQ [.bs (Kerb.bu ⟨op,cd,bx⟩).val,.int .i64 (Kerb.bu ⟨op,cd,bx⟩).err],[])
 | _,_=>Zy
def Cd:Sp
 | [.str s],[]=>aD (Zz (s.length<=9223372036854775807)) (Zx (.bool (Kerb.dI s),[]))
 | _,_=>Zy
def ID:Sp
 | [.bK 0 27 1,.int .i64 a,.int .i64 b],[(0,els)]=>aD (Zf els&&Zz ((els.length:Int)<=1152921504606846976)&&Zz (0<=a)&&Zz (a<=b)&&Zz (b<=(els.length:Int))&&Zz (a+8<=b)) (Zx (.aQ [.int .i64 (Kerb.HF els a b).1,.int .i64 (Kerb.GQ (Kerb.HF els a b).2)],[els]))
 | _,_=>Zy
def PH:Sp
 | [.bs b],[]=>aD (Zz (b.length<=70368744170000)) (Zx (.sl 1 (Kerb.dl (Kerb.partsOf b)),[]))
 | _,_=>Zy
def PR:Sp
 | [.agg [.int .i64 kd,.int .u64 k,.bs b]],[]=>aD (Zz (b.length<=70368744170000)) (Zx (.aQ [.sl 1 (Kerb.dP (Kerb.jd ⟨kd,k,b⟩).keys),.sl 1 (Kerb.dl (Kerb.jd ⟨kd,k,b⟩).boxes)],[]))
 | _,_=>Zy
def UB:Sp
 | [.agg [.u8 kd,.u8 bx,.u8 se,.u8 gW,.u8 de,.bool li,.int .u16 hw]],[]=>Zx (.bs (Kerb.oK gW de),[])
 | _,_=>Zy
def C9:Sp
 | [.sl 1 bs],[]=>aD (Kerb.qG bs) (Zx (.sl 1 (Kerb.dl (Kerb.gx (Kerb.od bs))),[]))
 | _,_=>Zy
def H3:Sp
 | [.bs b],[]=>aD (Zz (b.length<=140737488355328)) (Zx (.aQ [.agg [.int .i64 ((Kerb.cp b).val).op,.int .i64 ((Kerb.cp b).val).code,.bs ((Kerb.cp b).val).box],.int .i64 (Kerb.cp b).err],[]))
 | _,_=>Zy
def B6:Sp
 | [.agg [.bool li,.bool mu,.int .i64 kv,.str rl,.bs tk,.bs au]],[]=>aD (Zz (rl.length<=9223372036854775807)) (Zx (.aQ [.bs (Kerb.bf (Kerb.cI.mk li mu kv rl tk au)).val,.int .i64 (Kerb.bf (Kerb.cI.mk li mu kv rl tk au)).err],[]))
 | _,_=>Zy
def nD:Sp
 | [.agg [.str a,.str b,.str c]],[]=>aD (Zz (a.length<=9223372036854775807)&&Zz (b.length<=9223372036854775807)&&Zz (c.length<=9223372036854775807)) (Zx (.bool (Kerb.bn.valid ⟨a,b,c⟩),[]))
 | _,_=>Zy
def uF(zX:Nat):Sp
 | [.bK 0 27 1,.int .i64 a,.int .i64 b,.int .i64 l],[(0,els)]=>aD ((Zf els&&Zz ((els.length:Int)<=1152921504606846976)&&Kerb.nn a&&Zz (a<=b)&&Zz (b<=(els.length:Int))&&Zz (0<=l)&&Zz (l<=64))&&Zz (b-a<(zX:Int))) (Zx (.aQ [],[Kerb.Pb els a b l]))
 | _,_=>Zy
def D8:Sp
 | [.bK 0 27 1,.int .i64 a,.int .i64 b,.int .i64 l],[(0,els)]=>aD (Zf els&&Zz ((els.length:Int)<=1152921504606846976)&&Kerb.nn a&&Zz (a<=b)&&Zz (b<=(els.length:Int))&&Zz (0<=l)&&Zz (l<=64)) (Zx (.aQ [],[Kerb.Pb els a b l]))
 | _,_=>Zy
def Kc:Sp
 | [.agg [.u8 kd,.u8 bx,.u8 se,.u8 gW,.u8 de,.bool li,.int .u16 hw]],[]=>aD (Zz (0<=hw)&&Zz (hw<=65535)) (Zx (.bs (Kerb.qe ⟨kd,bx,se,gW,de,li,hw⟩),[]))
 | _,_=>Zy
def HX:Sp
 | [.bs b],[]=>aD (Zz (b.length<=140737488355328)) (Zx (.aQ [.agg [.bool ((Zh b).val).little,.bool ((Zh b).val).cW,.int .i64 ((Zh b).val).br,.str ((Zh b).val).aL,.bs ((Zh b).val).aH,.bs ((Zh b).val).fm],.int .i64 (Zh b).err],[]))
 | _,_=>Zy
def yd:Sp
 | [.bs b,.int .i64 pos],[]=>aD (Zz (b.length<=4611686018427387904)) (Zx (.aQ [.agg [.str (Kerb.gF b pos).val.name,.str (Kerb.gF b pos).val.inst,.str (Kerb.gF b pos).val.aL],.int .i64 (Kerb.gF b pos).next,.int .i64 (Kerb.gF b pos).err],[]))
 | _,_=>Zy
def H9:Sp
 | [.agg [.int .u64 k,.str x,.str y,.str z,.int .i64 lf,.int .i64 kv,.bs tk,.int .i64 t],.bool little],[]=>aD (Zz (x.length<=9223372036854775807)&&Zz (y.length<=9223372036854775807)&&Zz (z.length<=9223372036854775807)&&Zz (0<=k)&&Zz (k<18446744073709551616)) (Zx (.aQ [.bs (Kerb.bp ⟨k,⟨x,y,z⟩,lf,kv,tk,t⟩ little).val,.int .i64 (Kerb.bp ⟨k,⟨x,y,z⟩,lf,kv,tk,t⟩ little).err],[]))
 | _,_=>Zy
def Ib:Sp
 | [.agg [.str cx,.str cy,.str cz,.str sx,.str sy,.str sz,.int .u64 k,.int .i64 t,.int .i64 e,.int .i64 a]],[]=>aD (Zz (cx.length<=9223372036854775807)&&Zz (cy.length<=9223372036854775807)&&Zz (cz.length<=9223372036854775807)&&Zz (sx.length<=9223372036854775807)&&Zz (sy.length<=9223372036854775807)&&Zz (sz.length<=9223372036854775807)&&Zz (0<=k)&&Zz (k<18446744073709551616)) (Zx (.aQ [.bs (Kerb.dF ⟨⟨cx,cy,cz⟩,⟨sx,sy,sz⟩,k,t,e,a⟩).val,.int .i64 (Kerb.dF ⟨⟨cx,cy,cz⟩,⟨sx,sy,sz⟩,k,t,e,a⟩).err],[]))
 | _,_=>Zy
def Ic:Sp
 | [.agg [.int .u64 k,.str sx,.str sy,.str sz,.int .i64 t,.int .i64 e,.bs rc]],[]=>aD (Zz (sx.length<=9223372036854775807)&&Zz (sy.length<=9223372036854775807)&&Zz (sz.length<=9223372036854775807)&&Zz (0<=k)&&Zz (k<18446744073709551616)) (Zx (.aQ [.bs (Kerb.c5 ⟨k,⟨sx,sy,sz⟩,t,e,rc⟩).val,.int .i64 (Kerb.c5 ⟨k,⟨sx,sy,sz⟩,t,e,rc⟩).err],[]))
 | _,_=>Zy
def Ig:Sp
 | [.agg [.bool li,.str x,.str y,.str z,.int .i64 t,.int .i64 ex,.int .i64 kv,.bs sd]],[]=>aD (Zz (x.length<=9223372036854775807)&&Zz (y.length<=9223372036854775807)&&Zz (z.length<=9223372036854775807)) (Zx (.aQ [.bs (Kerb.bc ⟨li,⟨x,y,z⟩,t,ex,kv,sd⟩).val,.int .i64 (Kerb.bc ⟨li,⟨x,y,z⟩,t,ex,kv,sd⟩).err],[]))
 | _,_=>Zy
def Ih:Sp
 | [.agg [.bool li,.bool mu,.int .i64 kv,.str rl,.bs tk,.bs au,.int .i64 tm,.int .i64 lf,.str sv,.str ins]],[]=>aD (Zz (rl.length<=9223372036854775807)&&Zz (sv.length<=9223372036854775807)&&Zz (ins.length<=9223372036854775807)) (Zx (.aQ [.bs (Kerb.cS (Kerb.fu.mk (Kerb.cI.mk li mu kv rl tk au) tm lf sv ins)).val,.int .i64 (Kerb.cS (Kerb.fu.mk (Kerb.cI.mk li mu kv rl tk au) tm lf sv ins)).err],[]))
 | _,_=>Zy
def Il:Sp
 | [.agg [.int .i64 op,.str ux,.str uy,.str uz,.bs bx]],[]=>aD (Zz (ux.length<=9223372036854775807)&&Zz (uy.length<=9223372036854775807)&&Zz (uz.length<=9223372036854775807)) (Zx (.aQ [.bs (Kerb.dw ⟨op,⟨ux,uy,uz⟩,bx⟩).val,.int .i64 (Kerb.dw ⟨op,⟨ux,uy,uz⟩,bx⟩).err],[]))
 | _,_=>Zy
def P8:Sp
 | [.agg [.bool li,.str x,.str y,.str z,.int .i64 ad,.int .u64 k,.int .i64 lf,.int .i64 wF,.str sv,.str ins]],[]=>aD (Zz (x.length<=9223372036854775807)&&Zz (y.length<=9223372036854775807)&&Zz (z.length<=9223372036854775807)&&Zz (sv.length<=9223372036854775807)&&Zz (ins.length<=9223372036854775807)&&Zz (0<=k)&&Zz (k<18446744073709551616)) (Zx (.int .i64 (Kerb.dQ.mk li ⟨x,y,z⟩ ad k lf wF sv ins).err,[]))
 | _,_=>Zy
def Is:Sp
 | [.agg [.str lb,.int .i64 t,.int .u64 k,.int .i64 st,.int .i64 en,.int .i64 kv,.str x,.str y,.str z,.bs tk]],[]=>aD (Zz (x.length<=9223372036854775807)&&Zz (y.length<=9223372036854775807)&&Zz (z.length<=9223372036854775807)&&Zz (0<=k)&&Zz (k<18446744073709551616)) (Zx (.int .i64 (Kerb.aY ⟨lb,t,k,st,en,kv,⟨x,y,z⟩,tk⟩).err,[]))
 | _,_=>Zy
def Iu:Sp
 | [.bK 0 27 1],[(0,els)]=>aD (Zf els&&Zz ((els.length:Int)<=1152921504606846976)) (Zx (.aQ [],[Kerb.zS els]))
 | _,_=>Zy
def Ix:Sp
 | [.agg [.int .i64 op,.str ux,.str uy,.str uz,.int .i64 kv,.str rl,.bs tk,.str sv,.str ins,.bs bx]],[]=>aD (Zz (ux.length<=9223372036854775807)&&Zz (uy.length<=9223372036854775807)&&Zz (uz.length<=9223372036854775807)&&Zz (rl.length<=9223372036854775807)&&Zz (sv.length<=9223372036854775807)&&Zz (ins.length<=9223372036854775807)) (Zx (.int .i64 (Kerb.aP ⟨op,⟨ux,uy,uz⟩,kv,rl,tk,sv,ins,bx⟩).err,[]))
 | _,_=>Zy
def X_:Sp
 | [.agg [.u8 kd,.u8 bx,.u8 se,.u8 gW,.u8 de,.bool li,.int .u16 hw]],[]=>aD (Zz (0<=hw)&&Zz (hw<=65535)) (Zx (.bs (Kerb.zG ⟨kd,bx,se,gW,de,li,hw⟩),[]))
 | _,_=>Zy
def Na:Sp
 | [.bs b,.bool little],[]=>aD (Zz (b.length<=140737488355328)) (Zx (.aQ [.agg [.int .u64 ((Zg b little).val).ay,.str ((Zg b little).val).service.name,.str ((Zg b little).val).service.inst,.str ((Zg b little).val).service.aL,.int .i64 ((Zg b little).val).bL,.int .i64 ((Zg b little).val).br,.bs ((Zg b little).val).aH,.int .i64 ((Zg b little).val).time],.int .i64 (Zg b little).err],[]))
 | _,_=>Zy
def HW:Sp
 | [.bs b],[]=>aD (Zz (b.length<=140737488355328)) (Zx (.aQ [.agg [.bool ((Zb b).val).little,.str ((Zb b).val).client.name,.str ((Zb b).val).client.inst,.str ((Zb b).val).client.aL,.int .i64 ((Zb b).val).time,.int .i64 ((Zb b).val).cE,.int .i64 ((Zb b).val).br,.bs ((Zb b).val).cD],.int .i64 (Zb b).err],[]))
 | _,_=>Zy
def HY:Sp
 | [.bs b],[]=>aD (Zz (b.length<=140737488355328)) (Zx (.aQ [.agg [.bool ((Zq b).val).ap.little,.bool ((Zq b).val).ap.cW,.int .i64 ((Zq b).val).ap.br,.str ((Zq b).val).ap.aL,.bs ((Zq b).val).ap.aH,.bs ((Zq b).val).ap.fm,.int .i64 ((Zq b).val).time,.int .i64 ((Zq b).val).bL,.str ((Zq b).val).service,.str ((Zq b).val).inst],.int .i64 (Zq b).err],[]))
 | _,_=>Zy
def H8:Sp
 | [.agg [.bool li,.str x,.str y,.str z,.int .i64 ad,.int .u64 k,.int .i64 lf,.int .i64 wF,.str sv,.str ins]],[]=>aD (Zz (x.length<=9223372036854775807)&&Zz (y.length<=9223372036854775807)&&Zz (z.length<=9223372036854775807)&&Zz (sv.length<=9223372036854775807)&&Zz (ins.length<=9223372036854775807)&&Zz (0<=k)&&Zz (k<18446744073709551616)) (Zx (.aQ [.bs (Kerb.bB (Kerb.dQ.mk li ⟨x,y,z⟩ ad k lf wF sv ins)).val,.int .i64 (Kerb.bB (Kerb.dQ.mk li ⟨x,y,z⟩ ad k lf wF sv ins)).err],[]))
 | _,_=>Zy
def H':Sp
 | [.ptr 0 0],[(0,[.bs B,.int .i64 at_,.bool bad])]=>aD (Zz (B.length<=140737488355328)) (Zx (.agg [.str (Kerb.m9 B at_ bad).val.name,.str (Kerb.m9 B at_ bad).val.inst,.str (Kerb.m9 B at_ bad).val.aL],[[.bs B,.int .i64 (Kerb.m9 B at_ bad).pos,.bool (Kerb.m9 B at_ bad).bad]]))
 | _,_=>Zy
def Ia:Sp
 | [.agg [.str lb,.int .i64 t,.int .u64 k,.int .i64 st,.int .i64 en,.int .i64 kv,.str x,.str y,.str z,.bs tk]],[]=>aD (Zz (x.length<=9223372036854775807)&&Zz (y.length<=9223372036854775807)&&Zz (z.length<=9223372036854775807)&&Zz (0<=k)&&Zz (k<18446744073709551616)) (Zx (.aQ [.bs (Kerb.aY ⟨lb,t,k,st,en,kv,⟨x,y,z⟩,tk⟩).val,.int .i64 (Kerb.aY ⟨lb,t,k,st,en,kv,⟨x,y,z⟩,tk⟩).err],[]))
 | _,_=>Zy
def vI:Sp
 | [.ptr 0 0],[(0,[.bs B,.int .i64 at_,.bool bad])]=>aD (Zz (B.length<=140737488355328)) (Zx (.agg [.str (Kerb.lB B at_ bad).val.name,.str (Kerb.lB B at_ bad).val.inst,.str (Kerb.lB B at_ bad).val.aL],[[.bs B,.int .i64 (Kerb.lB B at_ bad).pos,.bool (Kerb.lB B at_ bad).bad]]))
 | _,_=>Zy
def PV:Sp
 | [.sl 1 l,.int .u64 k],[]=>aD (Zf l&&Kerb.Lu (Kerb.CE l k)&&Zz ((l.length:Int)<=100000000)) (Zx (.aI (Kerb.CE l k),[]))
 | _,_=>Zy
def P1:Sp
 | [.agg [.int .i64 op,.str ux,.str uy,.str uz,.int .i64 kv,.str rl,.bs tk,.str sv,.str ins,.bs bx]],[]=>aD (Zz (ux.length<=9223372036854775807)&&Zz (uy.length<=9223372036854775807)&&Zz (uz.length<=9223372036854775807)&&Zz (rl.length<=9223372036854775807)&&Zz (sv.length<=9223372036854775807)&&Zz (ins.length<=9223372036854775807)) (Zx (.aQ [.bs (Kerb.aP ⟨op,⟨ux,uy,uz⟩,kv,rl,tk,sv,ins,bx⟩).val,.int .i64 (Kerb.aP ⟨op,⟨ux,uy,uz⟩,kv,rl,tk,sv,ins,bx⟩).err],[]))
 | _,_=>Zy
def QJ:Sp
 | [.bs b],[]=>aD (Zz (b.length<=140737488355328)) (Zx (.aQ [.agg [.bool ((Zj b).val).little,.str ((Zj b).val).client.name,.str ((Zj b).val).client.inst,.str ((Zj b).val).client.aL,.int .i64 ((Zj b).val).address,.int .u64 ((Zj b).val).ay,.int .i64 ((Zj b).val).bL,.int .i64 ((Zj b).val).cG,.str ((Zj b).val).service,.str ((Zj b).val).inst],.int .i64 (Zj b).err],[]))
 | _,_=>Zy
def QL:Sp
 | [.bs b],[]=>aD (Zz (b.length<=140737488355328)) (Zx (.aQ [.agg [.str ((Zk b).val).label,.int .i64 ((Zk b).val).time,.int .u64 ((Zk b).val).ay,.int .i64 ((Zk b).val).start,.int .i64 ((Zk b).val).stop,.int .i64 ((Zk b).val).br,.str ((Zk b).val).service.name,.str ((Zk b).val).service.inst,.str ((Zk b).val).service.aL,.bs ((Zk b).val).aH],.int .i64 (Zk b).err],[]))
 | _,_=>Zy
def QM:Sp
 | [.bs b],[]=>aD (Zz (b.length<=140737488355328)) (Zx (.aQ [.agg [.str ((Zu b).val).client.name,.str ((Zu b).val).client.inst,.str ((Zu b).val).client.aL,.str ((Zu b).val).service.name,.str ((Zu b).val).service.inst,.str ((Zu b).val).service.aL,.int .u64 ((Zu b).val).ay,.int .i64 ((Zu b).val).start,.int .i64 ((Zu b).val).stop,.int .i64 ((Zu b).val).addr],.int .i64 (Zu b).err],[]))
 | _,_=>Zy
def QN:Sp
 | [.bs b],[]=>aD (Zz (b.length<=140737488355328)) (Zx (.aQ [.agg [.int .u64 ((Zn b).val).ay,.str ((Zn b).val).service.name,.str ((Zn b).val).service.inst,.str ((Zn b).val).service.aL,.int .i64 ((Zn b).val).start,.int .i64 ((Zn b).val).stop,.bs ((Zn b).val).record],.int .i64 (Zn b).err],[]))
 | _,_=>Zy
def H2:Sp
 | [.bs b],[]=>aD (Zz (b.length<=140737488355328)) (Zx (.aQ [.agg [.int .i64 ((Zp b).val).op,.str ((Zp b).val).user.name,.str ((Zp b).val).user.inst,.str ((Zp b).val).user.aL,.int .i64 ((Zp b).val).br,.str ((Zp b).val).aL,.bs ((Zp b).val).aH,.str ((Zp b).val).service,.str ((Zp b).val).inst,.bs ((Zp b).val).box],.int .i64 (Zp b).err],[]))
 | _,_=>Zy
def H4:Sp
 | [.bs b],[]=>aD (Zz (b.length<=140737488355328)) (Zx (.aQ [.agg [.int .i64 ((Yx b).val).op,.str ((Yx b).val).name.name,.str ((Yx b).val).name.inst,.str ((Yx b).val).name.aL,.bs ((Yx b).val).box],.int .i64 (Yx b).err],[]))
 | _,_=>Zy
def PN:Sp
 | [.agg [.int .i64 kd,.int .u64 k,.bs b]],[]=>aD (Zz (b.length<=70368744170000)) (Zx (.aQ [.sl 1 (Kerb.dP (Kerb.jd ⟨kd,k,b⟩).keys),.sl 1 (Kerb.dl (Kerb.jd ⟨kd,k,b⟩).boxes)],[]))
 | _,_=>Zy
def Qy:Sp
 | [.bs b],[]=>aD (Zz (b.length<=70368744170000)) (Zx (.sl 1 (Kerb.dl (Kerb.oy b)),[]))
 | _,_=>Zy
def PE:Sp
 | [.bs b],[]=>aD (Zz (b.length<=70368744170000)) (Zx (.sl 1 (Kerb.dl (Kerb.partsOf b)),[]))
 | _,_=>Zy
def D7(zX:Nat):Sp
 | [.ptr 0 0,.bs b],[(0,[.sl 1 ks,.sl 1 bs])]=>aD ((Kerb.vZ ks bs&&Zz (b.length<=70368744170000))&&Zz ((b.length:Int)<(zX:Int))) (Zx (.bool !(Kerb.eW (Kerb.kn ks bs) b),[[.sl 1 ks,.sl 1 bs]]))
 | _,_=>Zy
def Lj:Sp
 | [.ptr 0 0,.bs b],[(0,[.sl 1 ks,.sl 1 bs])]=>aD (Kerb.vZ ks bs&&Zz (b.length<=70368744170000)) (Zx (.bool !(Kerb.eW (Kerb.kn ks bs) b),[[.sl 1 ks,.sl 1 bs]]))
 | _,_=>Zy
def UA:Sp
 | [.agg [.sl 1 ks,.sl 1 bs],.bs b],[]=>aD (Kerb.vZ ks bs&&Zz (b.length<=70368744160000)) (Zx (.bool (Kerb.Eu (Kerb.kn ks bs) b),[]))
 | _,_=>Zy
def Ux:Sp
 | [.agg [.sl 1 ks,.sl 1 bs],.bs b],[]=>aD (Kerb.vZ ks bs&&Zz (Kerb.nK (Kerb.kn ks bs)+2*b.length+2100<=1000000)) (Zx (.agg [.sl 1 (Kerb.dP (Kerb.learn (Kerb.kn ks bs) b).keys),.sl 1 (Kerb.dl (Kerb.learn (Kerb.kn ks bs) b).boxes)],[]))
 | _,_=>Zy
def Uy:Sp
 | [.agg [.sl 1 ks,.sl 1 bs],.int .u64 k],[]=>aD (Kerb.vZ ks bs&&Zz (0<=k)&&Zz (k<18446744073709551616)&&Zz (Kerb.nK (Kerb.kn ks bs)+1<=1000000)) (Zx (.agg [.sl 1 (Kerb.dP (Kerb.leak (Kerb.kn ks bs) k).keys),.sl 1 (Kerb.dl (Kerb.leak (Kerb.kn ks bs) k).boxes)],[]))
 | _,_=>Zy
def sp8:Sp
 | [],[]=>Zx (.bool Yq,[])
 | _,_=>Zy
def sp3:Sp
 | [.agg [.u8 kd,.u8 bx,.u8 se,.u8 gW,.u8 de,.bool li,.int .u16 hw],.bs raw,.agg [.int .i64 xk,.int .u64 xy,.bs xb]],[]=>aD (Zz (0<=hw)&&Zz (hw<=65535)) (Zx (.bool Yq,[]))
 | _,_=>Zy
def sZ{β:Type}(a:List AV)(f:List UInt8->Int->Int->Option β):Option β:=Option.bind (sW a []) (kT fun l=>aV l fun p1 l=>ag .i64 l fun p2 l=>ag .i64 l fun p3 l=>ak l (f p1 p2 p3))
def Lq{β:Type}(a:List AV)(f:Int->Int->Int->Option β):Option β:=Option.bind (B8 a []) (kT fun l=>ag .i64 l fun p1 l=>ag .i64 l fun p2 l=>ag .i64 l fun p3 l=>ak l (f p1 p2 p3))
def Lr{β:Type}(a:List AV)(f:Int->Int->Int->Option β):Option β:=Option.bind (Ce a []) (kT fun l=>ag .i64 l fun p1 l=>ag .i64 l fun p2 l=>ag .i64 l fun p3 l=>ak l (f p1 p2 p3))
def UW{β:Type}(a:List AV)(f:List UInt8->List UInt8->List UInt8->Option β):Option β:=Option.bind (Kg a []) (kA fun l=>aJ l fun p1 l=>aJ l fun p2 l=>aJ l fun p3 l=>ak l (f p1 p2 p3))
def Kv{β:Type}(a:List AV)(f:Int->Bool->Option β):Option β:=Option.bind (Cj a []) (kT fun l=>ag .u64 l fun p1 l=>ar l fun p2 l=>ak l (f p1 p2))
def YQ{β:Type}(a:List AV)(f:List UInt8->Int->Option β):Option β:=Option.bind (M7 a []) (kT fun l=>aA l fun x l=>AV.fA x fun p1=>ag .i64 l fun p2 l=>ak l (f p1 p2))
def UY{β:Type}(a:List AV)(f:List UInt8->Int->Option β):Option β:=Option.bind (Km a []) (kT fun l=>aV l fun p1 l=>ag .i64 l fun p2 l=>ak l (f p1 p2))
def qO{β:Type}(a:List AV)(f:Int->Int->Int->Option β):Option β:=Option.bind (uI a []) (kT fun l=>ag .i64 l fun p1 l=>ag .i64 l fun p2 l=>ag .i64 l fun p3 l=>ak l (f p1 p2 p3))
def wG{β:Type}(a:List AV)(f:Int->Int->Int->Option β):Option β:=Option.bind (vH a []) (kT fun l=>ag .i64 l fun p1 l=>ag .i64 l fun p2 l=>ag .i64 l fun p3 l=>ak l (f p1 p2 p3))
def wH{β:Type}(a:List AV)(f:List UInt8->Int->Int->Option β):Option β:=Option.bind (yf a []) (kT fun l=>aJ l fun p1 l=>ag .i64 l fun p2 l=>ag .i64 l fun p3 l=>ak l (f p1 p2 p3))
def CD{β:Type}(a:List AV)(f:Int->Int->Int->Option β):Option β:=Option.bind (yk a []) (kT fun l=>ag .i64 l fun p1 l=>ag .i64 l fun p2 l=>ag .i64 l fun p3 l=>ak l (f p1 p2 p3))
def YR{β:Type}(a:List AV)(f:List UInt8->Int->Option β):Option β:=Option.bind (M8 a []) (kT fun l=>aV l fun p1 l=>ag .i64 l fun p2 l=>ak l (f p1 p2))
def YS{β:Type}(a:List AV)(f:List UInt8->Int->Option β):Option β:=Option.bind (M9 a []) (kT fun l=>aV l fun p1 l=>ag .i64 l fun p2 l=>ak l (f p1 p2))
def YT{β:Type}(a:List AV)(f:List UInt8->Int->Option β):Option β:=Option.bind (M_ a []) (kT fun l=>aV l fun p1 l=>ag .i64 l fun p2 l=>ak l (f p1 p2))
def CC{β:Type}(a:List AV)(f:Int->Bool->Option β):Option β:=Option.bind (ye a []) (kT fun l=>ag .u64 l fun p1 l=>ar l fun p2 l=>ak l (f p1 p2))
def Re{β:Type}(a:List AV)(f:List UInt8->Int->Bool->Option β):Option β:=Option.bind (Iw a []) (kT fun l=>aV l fun p1 l=>ag .i64 l fun p2 l=>ar l fun p3 l=>ak l (f p1 p2 p3))
def UX{β:Type}(a:List AV)(f:List UInt8->Int->Option β):Option β:=Option.bind (Kk a []) (kT fun l=>aV l fun p1 l=>ag .i64 l fun p2 l=>ak l (f p1 p2))
def Vo{β:Type}(a:List AV)(f:Int->Int->List UInt8->Int->Int->Option β):Option β:=Option.bind (Ie a []) (kT fun l=>aA l fun x l=>AV.cV x fun m=>ag .i64 m fun p1 m=>ag .u64 m fun p2 m=>aV m fun p3 m=>ak m (ag .i64 l fun p4 l=>ag .i64 l fun p5 l=>ak l (f p1 p2 p3 p4 p5)))
def CB{β:Type}(a:List AV)(f:List UInt8->List UInt8->List UInt8->Int->Int->Option β):Option β:=Option.bind (yd a []) (kT fun l=>aA l fun x l=>AV.cV x fun m=>aJ m fun p1 m=>aJ m fun p2 m=>aJ m fun p3 m=>ak m (ag .i64 l fun p4 l=>ag .i64 l fun p5 l=>ak l (f p1 p2 p3 p4 p5)))
def C15{β:Type}(a:List AV)(f:List AV->List AV->Option β):Option β:=Option.bind (PN a []) (kT fun l=>cL 1 l fun p1 l=>cL 1 l fun p2 l=>ak l (f p1 p2))
def Nd:List (Nat×Nat×List CT×Sp):=[(10,1,[.sl 1,.sl 1],M6),(17,1,[.sl 1,.sl 1],PS),(21,1,[.int .i64],Kd),(24,1,[.int .i64],Qh),(46,1,[.eS,.int .u16],Kj),(89,1,[.ptr,.int .i64],zk),(90,1,[.int .i64],UJ),(92,1,[.int .i64,.int .i64],UK),(94,1,[.int .i64,.bool],UL),(95,1,[.eS,.str],qa),(107,1,[.int .i64,.int .i64],PD),(113,1,[.int .i64],PF),(114,1,[.int .i64,.int .i64],PG),(133,1,[.eS],PJ),(138,1,[.int .u64],nq),(139,1,[.eS],jq),(142,1,[.int .i64,.int .i64],PL),(144,1,[.int .i64,.int .i64],PM),(152,1,[.eS,.eS],PO),(156,1,[.str],PP),(159,1,[.str],PQ),(170,1,[.sl 1],PT),(171,1,[.sl 1],PU),(174,1,[.str,.str],yi),(175,1,[.eS,.int .i64,.int .i64,.bool],yj),(184,1,[],PW),(200,1,[.ptr,.int .i64,.int .i64],P3),(203,1,[.eS,.int .i64,.int .i64],B7),(204,1,[.eS,.int .i64],Iq),(205,1,[.int .i64,.int .i64],P4),(206,1,[.int .i64,.int .i64],P5),(207,1,[.int .i64,.int .i64],P6),(210,1,[.eS,.int .i64,.int .i64],yl),(211,1,[.eS],B9),(218,1,[.int .u64],uK),(221,1,[.int .i64,.int .i64],P_),(222,1,[.ptr,.int .i64,.int .i64],P'),(226,1,[.ptr,.int .i64,.int .i64],Qa),(229,1,[.int .i64,.int .i64],Qc),(233,1,[.int .i64],Qe),(234,1,[.int .i64],Qf),(238,1,[.int .i64],Qg),(241,1,[.int .i64,.sl 1],Iv),(245,1,[.int .i64,.int .i64],Qk),(251,1,[.int .i64],Ql),(252,1,[.int .i64,.int .i64],Qm),(254,1,[.eS,.u8],Qn),(255,1,[.int .i64,.int .i64],Qo),(257,1,[.other,.other],Iy),(258,1,[.other,.other],Iz),(261,1,[.int .i64],Qp),(267,1,[.sl 1,.int .i64,.int .i64],IE),(273,1,[.int .u64],IG),(277,1,[.ptr],II),(280,1,[.int .u64],Qs),(283,1,[.str,.u8],Qu),(29,2,[.u8],Uz),(60,2,[.u8],UF),(91,2,[.str],FJ),(93,2,[.eS,.int .i64],jk),(105,2,[.int .i64],BV),(108,2,[.eS,.other],jU),(109,2,[.eS,.int .i64,.bool],fq),(110,2,[.eS,.int .i64,.bool],mi),(111,2,[.str],uG),(112,2,[.str],uH),(126,2,[.eS,.sl 1],PI),(131,2,[.ptr,.int .i64],gu),(135,2,[.ptr],oJ),(136,2,[.int .u64],mj),(148,2,[.eS,.int .i64,.int .i64],sW),(177,2,[.int .u64],B4),(208,2,[.eS,.int .i64,.int .i64,.bool],B8),(212,2,[.eS,.u8],P7),(217,2,[.sl 1],P9),(228,2,[.int .i64,.int .i64],Qb),(240,2,[.eS],Qi),(242,2,[.int .i64,.bool],Qj),(253,2,[.eS,.int .i64,.int .i64,.bool],Ce),(260,2,[.int .u64],Cf),(269,2,[.int .u64,.int .u64],Qq),(281,2,[.str,.u8],Qt),(25,3,[.other],Kf),(36,3,[.int .i64],Kg),(40,3,[.eS,.bool],UC),(42,3,[.other],UE),(58,3,[.eS],Cj),(59,3,[.int .i64],QH),(67,3,[.other],M7),(71,3,[.int .i64,.int .u64,.eS],Km),(80,3,[.int .u64],Cl),(97,3,[.int .u64],zl),(106,3,[.other],kJ),(116,3,[.eS,.eS,.bool],zT),(127,3,[.ptr],nC),(141,3,[.eS,.bool],PK),(143,3,[.int .u64],BX),(145,3,[.eS,.int .i64],uI),(147,3,[.eS,.int .i64,.bool],vH),(150,3,[.eS,.int .i64],yf),(154,3,[.ptr,.int .i64],sX),(167,3,[.ptr,.int .i64],yh),(185,3,[.eS,.sl 1],PX),(186,3,[.eS,.int .i64,.bool],yk),(199,3,[.eS,.int .i64,.bool],Im),(201,3,[.eS,.int .i64],Io),(202,3,[.eS,.int .i64,.bool],Ip),(219,3,[.eS,.str],qx),(220,3,[.eS],rJ),(227,3,[.int .u64],Ca),(256,3,[.eS,.int .i64,.int .i64,.bool],ym),(263,3,[.sl 1,.int .i64,.int .i64],IA),(268,3,[.sl 1,.int .i64,.int .i64],IF),(270,3,[.sl 1,.int .i64,.int .i64,.int .i64],D9),(271,3,[.sl 1,.int .i64,.int .i64,.int .i64],D_),(274,3,[.str,.u8],Qr),(275,3,[.sl 1,.int .i64,.int .i64,.int .i64],D'),(276,3,[.int .i64],IH),(282,3,[.sl 1,.int .i64,.int .i64,.ptr],Ci),(13,4,[.eS],Kb),(22,4,[.eS],Ke),(37,4,[.other],Kh),(39,4,[.other],Qv),(41,4,[.other],UD),(43,4,[.other],Ki),(63,4,[.eS],UG),(64,4,[.other,.bool],Kl),(65,4,[.other,.bool],UH),(66,4,[.other,.bool],UI),(68,4,[.other],M8),(69,4,[.other],M9),(70,4,[.other],M_),(73,4,[.sl 1],Ck),(128,4,[.ptr],iZ),(129,4,[.ptr],iB),(130,4,[.ptr],oI),(137,4,[.other],H6),(140,4,[.other],H7),(149,4,[.eS],ye),(155,4,[.ptr],uJ),(160,4,[.ptr],yg),(165,4,[.ptr],vJ),(168,4,[.ptr],B3),(188,4,[.eS],B5),(193,4,[.ptr],PZ),(194,4,[.ptr],Ij),(197,4,[.ptr],Ik),(214,4,[.eS,.int .i64],rI),(215,4,[.eS,.other],qw),(216,4,[.eS,.int .i64,.bool],ml),(223,4,[.other],Ir),(243,4,[.eS,.int .i64,.bool],Cc),(248,4,[.eS,.int .i64,.int .i64,.bool],Iw),(262,4,[.str,.str],Cg),(264,4,[.sl 1,.int .i64,.int .i64],IB),(265,4,[.sl 1,.int .i64,.int .i64],IC),(279,4,[.sl 1,.int .i64,.int .i64,.int .i64,.ptr],zV),(49,5,[.eS],Qz),(53,5,[.eS],QC),(54,5,[.eS],QD),(55,5,[.eS],QE),(56,5,[.eS],QF),(57,5,[.eS],QG),(61,5,[.other],Kk),(62,5,[.other,.bool],QI),(81,5,[.eS,.bool],Nb),(82,5,[.eS],QP),(83,5,[.eS],QQ),(84,5,[.eS],QR),(85,5,[.eS],QS),(115,5,[.other,.bool,.int .i64,.int .u64],BW),(132,5,[.eS],H5),(157,5,[.ptr],BZ),(158,5,[.other],H_),(164,5,[.ptr],B2),(182,5,[.eS],Ie),(191,5,[.eS,.bool],PY),(192,5,[.eS],Ii),(225,5,[.eS,.eS],B_),(230,5,[.eS,.eS],Cb),(246,5,[.str],uL),(247,5,[.str],rK),(250,5,[.eS,.eS],zU),(278,5,[.sl 1,.int .i64,.ptr],Ch),(23,6,[.other,.int .u64],Qd),(44,6,[.other,.bool,.int .u64],Qw),(45,6,[.other,.bool,.int .u64],Qx),(50,6,[.sl 1],uM),(51,6,[.eS],QA),(52,6,[.eS],QB),(75,6,[.eS],QK),(79,6,[.eS],QO),(117,6,[.eS],HV),(121,6,[.eS],HZ),(122,6,[.eS],H0),(196,6,[.other],P2),(244,6,[.str],Cd),(266,6,[.sl 1,.int .i64,.int .i64],ID)]
def Nf:List (Nat×Nat×List CT×Sp):=[(12,7,[.eS],PH),(16,7,[.other],PR),(38,7,[.other],UB),(47,7,[.sl 1],C9),(124,7,[.eS],H3),(189,7,[.other],B6),(209,7,[.other],nD),(259,7,[.sl 1,.int .i64,.int .i64,.int .i64],D8),(14,8,[.other],Kc),(119,8,[.eS],HX),(146,8,[.eS,.int .i64],yd),(153,8,[.other,.bool],H9),(166,8,[.other],Ib),(169,8,[.other],Ic),(187,8,[.other],Ig),(190,8,[.other],Ih),(198,8,[.other],Il),(213,8,[.other],P8),(224,8,[.other],Is),(236,8,[.sl 1],Iu),(249,8,[.other],Ix),(9,9,[.other],X_),(74,9,[.eS,.bool],Na),(118,9,[.eS],HW),(120,9,[.eS],HY),(151,9,[.other],H8),(161,9,[.ptr],H'),(162,9,[.other],Ia),(163,9,[.ptr],vI),(179,9,[.sl 1,.int .u64],PV),(195,9,[.other],P1),(72,10,[.eS],QJ),(76,10,[.eS],QL),(77,10,[.eS],QM),(78,10,[.eS],QN),(123,10,[.eS],H2),(125,10,[.eS],H4),(15,11,[.other],PN),(48,11,[.eS],Qy)]
def QT:List (Nat×Nat×List CT×Sp):=[(11,12,[.eS],PE),(102,12,[.ptr,.eS],Lj),(31,13,[.other,.eS],UA),(19,15,[.other,.eS],Ux),(27,15,[.other,.int .u64],Uy),(8,16,[],sp8),(3,17,[.other,.eS,.other],sp3)]
def Sg:List (Nat×Nat×List CT×Sp):=Nd++Nf++QT
def VY:List (Nat×List AV):=[]
noncomputable def T9:List (Nat×Func):=[(181,Tryz.f181),(232,Tryz.f232),(237,Tryz.f237),(239,Tryz.f239),(86,Tryz.f86),(101,Tryz.f101),(172,Tryz.f172),(176,Tryz.f176),(183,Tryz.f183),(235,Tryz.f235),(87,Tryz.f87),(96,Tryz.f96),(26,Tryz.f26),(134,Tryz.f134),(178,Tryz.f178),(98,Tryz.f98),(231,Tryz.f231),(173,Tryz.f173),(88,Tryz.f88)]
def look{α:Type}(k:Nat):List (Nat×α)->Option α
 | []=>Zy
 | (j,x)::r=>cond (Nat.beq j k) (Zx x) (look k r)
def OX{α:Type}(k m:Nat):List (Nat×Nat×List α)->List α
 | []=>[]
 | (j,i,x)::r=>cond (Nat.beq j k) (cond (Nat.beq i m) x (OX k m r)) (OX k m r)
noncomputable def G:ph:={ ty:=fun t=>(UO[t]?).join,jf:=fun f r=>OX f r Xs,own:=fun f=>abC.contains f,qZ:=fun q=>look q VY,rts:=fun f=>look f abM,wz:=fun f=>look f Sg,inl:=fun f=>look f T9 }
end
abbrev Wk(f k:Nat)(s:Sp):Prop:=El Tryz.prog G f k s
abbrev Rb:=Option (AV×aw)
theorem cA{a c:Rb}(b:Rb)(h:a=b)(g:b=c):a=c:=h.trans g
theorem dj{b:Bool}{v r:AV×aw}(h:aD b (Zx v)=Zx r):b=Yq/\v=r:=by
 cases b
 ·cases h
 ·cases h;exact⟨rfl,rfl⟩
theorem XH : (Tryz.prog.funcs.all fun fn => fn.name != "runtime.NumGoroutine") = Yq := by kernel_rfl
theorem cC{f k:Nat}{s:Sp}{fn:Func}(h1:Tryz.prog.funcs[f]? = Zx fn)(h2:G.rts f=Zx fn.resultTypes.toList)(h:∀ xs bl r,s xs bl=Zx r->HM (G.env f k) G.rts (G.own f) fn xs bl=Zx r):Wk f k s :=
 ⟨fn,h1,fun e=>by
  have h0:=XH;rw[Array.all_eq_true_iff_forall_mem] at h0;have:=h0 fn (Array.mem_of_getElem? h1);rw[e] at this;simp at this,h2,h⟩
end Go.Proofs.YteafbgcimcpfiaaGreat
