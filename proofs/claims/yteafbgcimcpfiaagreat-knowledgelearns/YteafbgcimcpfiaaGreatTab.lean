/- The table of functions of this seat. -/
import Derived.Test.YteafbgcimcpfiaaGreatAbsPrimL
import Derived.Test.YteafbgcimcpfiaaGreatProg
set_option linter.all false
open Go.IntKind renaming i64->AI,u64->AT
open Decidable renaming decide->Zz
open Option renaming none->Zy,some->Zx
open Kerb renaming get->Zw,kn->Zu,dl->Zq,cq->Zj,ch->Zk,bc->Zp,bG->Zd,aV->Zf,within->Zg,bu->Zb,bm->Zn,cc->Zm,bytes->Zh,lZ->Yz,eI->Yy,bF->Yx,text->Yw,gE->Yv,dD->Yu,cE->Yq,bK->Yj,eJ->Yk,eY->Yp,aU->Yd,aG->Yf
open Bool renaming false->Zv,true->Yg
namespace Go.Proofs.YteafbgcimcpfiaaGreat
open Go Go.Abs
noncomputable section
abbrev Sp:=Abs.Spec
def eP:Option TI:=Zx ⟨1,8,.other,[.ym],[.other],[]⟩
def ti1:Option TI:=Zx ⟨1,8,.int AI,[.int AI 0],[.int AI],[.int AI]⟩
def ti2:Option TI:=Zx ⟨1,1,.u8,[.u8 0],[.u8],[.u8]⟩
def ti3:Option TI:=Zx ⟨1,8,.int AT,[.int AT 0],[.int AT],[.int AT]⟩
def ti4:Option TI:=Zx ⟨1,8,.struct [(0,17)],[.nL],[.ptr],[]⟩
def ti5:Option TI:=Zx ⟨1,4,.int .i32,[.int .i32 0],[.int .i32],[.int .i32]⟩
def ti6:Option TI:=Zx ⟨7,8,.struct [(0,5),(1,5),(2,5),(3,5),(4,5),(5,4),(6,22)],[.u8 0,.u8 0,.u8 0,.u8 0,.u8 0,.bool Zv,.int .u16 0],[.u8,.u8,.u8,.u8,.u8,.bool,.int .u16],[.u8,.u8,.u8,.u8,.u8,.bool,.int .u16]⟩
def ti7:Option TI:=Zx ⟨3,40,.struct [(0,3),(1,27),(2,25)],[.int AI 0,.int AT 0,.dq],[.int AI,.int AT,.eV],[]⟩
def ti8:Option TI:=Zx ⟨2,48,.struct [(0,39),(1,32)],[.dq,.dq],[.sl 1,.sl 1],[]⟩
def ti9:Option TI:=Zx ⟨3,48,.struct [(0,9),(1,9),(2,9)],[.str [],.str [],.str []],[.str,.str,.str],[.str,.str,.str]⟩
def aaD:Option TI:=Zx ⟨10,120,.struct [(0,4),(1,53),(4,3),(5,27),(6,3),(7,3),(8,9),(9,9)],[.bool Zv,.str [],.str [],.str [],.int AI 0,.int AT 0,.int AI 0,.int AI 0,.str [],.str []],[.bool,.str,.str,.str,.int AI,.int AT,.int AI,.int AI,.str,.str],[.bool,.str,.str,.str,.int AI,.int AT,.int AI,.int AI,.str,.str]⟩
def aaE:Option TI:=Zx ⟨6,80,.struct [(0,4),(1,4),(2,3),(3,9),(4,25),(5,25)],[.bool Zv,.bool Zv,.int AI 0,.str [],.dq,.dq],[.bool,.bool,.int AI,.str,.eV,.eV],[]⟩
def aaF:Option TI:=Zx ⟨8,104,.struct [(0,4),(1,53),(4,3),(5,3),(6,3),(7,25)],[.bool Zv,.str [],.str [],.str [],.int AI 0,.int AI 0,.int AI 0,.dq],[.bool,.str,.str,.str,.int AI,.int AI,.int AI,.eV],[]⟩
def aaG:Option TI:=Zx ⟨10,128,.struct [(0,61),(6,3),(7,3),(8,9),(9,9)],[.bool Zv,.bool Zv,.int AI 0,.str [],.dq,.dq,.int AI 0,.int AI 0,.str [],.str []],[.bool,.bool,.int AI,.str,.eV,.eV,.int AI,.int AI,.str,.str],[]⟩
def aaH:Option TI:=Zx ⟨10,160,.struct [(0,3),(1,53),(4,3),(5,9),(6,25),(7,9),(8,9),(9,25)],[.int AI 0,.str [],.str [],.str [],.int AI 0,.str [],.dq,.str [],.str [],.dq],[.int AI,.str,.str,.str,.int AI,.str,.eV,.str,.str,.eV],[]⟩
def aaI:Option TI:=Zx ⟨3,40,.struct [(0,3),(1,35),(2,25)],[.int AI 0,.int AI 0,.dq],[.int AI,.int AI,.eV],[]⟩
def aaJ:Option TI:=Zx ⟨5,80,.struct [(0,3),(1,53),(4,25)],[.int AI 0,.str [],.str [],.str [],.dq],[.int AI,.str,.str,.str,.eV],[]⟩
def aaK:Option TI:=Zx ⟨4,48,.struct [(0,25),(1,3),(2,3),(3,3)],[.dq,.int AI 0,.int AI 0,.int AI 0],[.eV,.int AI,.int AI,.int AI],[]⟩
def aaL:Option TI:=Zx ⟨6,72,.struct [(0,53),(3,3),(4,3),(5,3)],[.str [],.str [],.str [],.int AI 0,.int AI 0,.int AI 0],[.str,.str,.str,.int AI,.int AI,.int AI],[.str,.str,.str,.int AI,.int AI,.int AI]⟩
def aaM:Option TI:=Zx ⟨8,104,.struct [(0,27),(1,53),(4,3),(5,3),(6,25),(7,3)],[.int AT 0,.str [],.str [],.str [],.int AI 0,.int AI 0,.dq,.int AI 0],[.int AT,.str,.str,.str,.int AI,.int AI,.eV,.int AI],[]⟩
def aaN:Option TI:=Zx ⟨3,24,.struct [(0,3),(1,3),(2,3)],[.int AI 0,.int AI 0,.int AI 0],[.int AI,.int AI,.int AI],[.int AI,.int AI,.int AI]⟩
def aaO:Option TI:=Zx ⟨5,48,.struct [(0,9),(1,3),(2,3),(3,3),(4,27)],[.str [],.int AI 0,.int AI 0,.int AI 0,.int AT 0],[.str,.int AI,.int AI,.int AI,.int AT],[.str,.int AI,.int AI,.int AI,.int AT]⟩
def aaP:Option TI:=Zx ⟨10,128,.struct [(0,9),(1,3),(2,27),(3,3),(4,3),(5,3),(6,53),(9,25)],[.str [],.int AI 0,.int AT 0,.int AI 0,.int AI 0,.int AI 0,.str [],.str [],.str [],.dq],[.str,.int AI,.int AT,.int AI,.int AI,.int AI,.str,.str,.str,.eV],[]⟩
def aaQ:Option TI:=Zx ⟨10,128,.struct [(0,53),(3,53),(6,27),(7,3),(8,3),(9,3)],[.str [],.str [],.str [],.str [],.str [],.str [],.int AT 0,.int AI 0,.int AI 0,.int AI 0],[.str,.str,.str,.str,.str,.str,.int AT,.int AI,.int AI,.int AI],[.str,.str,.str,.str,.str,.str,.int AT,.int AI,.int AI,.int AI]⟩
def aaR:Option TI:=Zx ⟨7,96,.struct [(0,27),(1,53),(4,3),(5,3),(6,25)],[.int AT 0,.str [],.str [],.str [],.int AI 0,.int AI 0,.dq],[.int AT,.str,.str,.str,.int AI,.int AI,.eV],[]⟩
def aaS:Option TI:=Zx ⟨2,48,.struct [(0,46)],[.dq,.dq],[.sl 1,.sl 1],[]⟩
def aaT:Option TI:=Zx ⟨3,56,.struct [(0,153),(2,154)],[.dq,.dq,.FV],[.sl 1,.sl 1,.other],[]⟩
def aaU:Option TI:=Zx ⟨2,32,.struct [(0,25),(1,3)],[.dq,.int AI 0],[.eV,.int AI],[]⟩
def aaV:Option TI:=Zx ⟨4,40,.struct [(0,25),(1,3),(2,4),(3,4)],[.dq,.int AI 0,.bool Zv,.bool Zv],[.eV,.int AI,.bool,.bool],[]⟩
def TR:Option TI:=Zx ⟨3,40,.struct [(0,25),(1,3),(2,4)],[.dq,.int AI 0,.bool Zv],[.eV,.int AI,.bool],[]⟩
def W2:List (Option TI):=[
 Zy,eP,ti1,ti1,Zx ⟨1,1,.bool,[.bool Zv],[.bool],[.bool]⟩,ti2,ti2,Zx ⟨4,24,.struct [(0,2),(1,3),(2,4),(3,6)],[.int AI 0,.int AI 0,.bool Zv,.u8 0],[.int AI,.int AI,.bool,.u8],[.int AI,.int AI,.bool,.u8]⟩,Zy,Zx ⟨1,16,.str,[.str []],[.str],[.str]⟩,Zy,Zy,ti3,Zy,Zy,Zx ⟨1,8,.ptr 285,[.nL],[.ptr],[]⟩,Zx ⟨1,8,.ptr 288,[.nL],[.ptr],[]⟩,Zx ⟨1,8,.ptr 296,[.nL],[.ptr],[]⟩,ti4,ti4,Zy,ti5,Zx ⟨1,2,.int .u16,[.int .u16 0],[.int .u16],[.int .u16]⟩,ti6,ti6,Zx ⟨1,24,.slice 5 Yg,[.dq],[.eV],[]⟩,ti3,ti3,ti7,ti7,eP,eP,Zx ⟨1,24,.slice 25 Zv,[.dq],[.sl 1],[]⟩,eP,eP,ti1,Zy,eP,Zx ⟨1,24,.slice 29 Zv,[.dq],[.sl 3],[]⟩,Zx ⟨1,24,.slice 27 Zv,[.dq],[.sl 1],[]⟩,Zy,eP,eP,eP,Zx ⟨1,24,.slice 24 Zv,[.dq],[.sl 7],[]⟩,ti8,ti8,eP,eP,eP,eP,eP,ti9,ti9,aaD,aaD,eP,Zy,eP,eP,aaE,aaE,eP,eP,eP,eP,eP,eP,eP,eP,eP,aaF,aaF,eP,aaG,aaG,eP,eP,aaH,aaH,eP,aaI,aaI,eP,aaJ,aaJ,eP,aaK,aaK,eP,eP,Zy,eP,Zy,eP,Zy,eP,Zy,eP,Zy,eP,Zy,eP,Zy,eP,Zy,eP,Zy,eP,ti3,eP,eP,aaL,aaL,eP,eP,aaM,aaM,eP,aaN,aaN,eP,eP,aaO,aaO,eP,aaP,aaP,eP,aaQ,aaQ,eP,aaR,aaR,eP,Zy,eP,eP,Zy,eP,Zy,eP,Zy,eP,Zy,eP,Zy,eP,eP,Zx ⟨1,8,.ptr 156,[.nL],[.ptr],[]⟩,eP,eP,aaS,aaS,Zx ⟨1,8,.map 3 4,[.FV],[.other],[]⟩,aaT,aaT,Zx ⟨1,8,.ptr 159,[.nL],[.ptr],[]⟩,aaU,aaU,eP,eP,eP,eP,eP,eP,eP,eP,eP,Zy,eP,eP,Zx ⟨1,8,.ptr 153,[.nL],[.ptr],[]⟩,eP,eP,eP,Zx ⟨1,24,.slice 9 Zv,[.dq],[.sl 1],[]⟩,eP,eP,eP,eP,eP,Zy,eP,eP,Zy,eP,Zx ⟨1,8,.ptr 189,[.nL],[.ptr],[]⟩,aaV,aaV,eP,eP,eP,Zy,eP,Zy,eP,eP,Zx ⟨1,24,.slice 53 Zv,[.dq],[.sl 3],[]⟩,eP,eP,eP,eP,eP,eP,Zy,eP,Zy,eP,eP,Zy,eP,Zy,eP,eP,TR,TR,eP,TR,TR,eP,eP,eP,eP,Zy,eP,eP,eP,eP,eP,Zy,eP,Zy,eP,Zx ⟨1,24,.slice 3 Zv,[.dq],[.sl 1],[]⟩,eP,eP,eP,Zx ⟨1,8,.ptr 9,[.nL],[.ptr],[]⟩,Zx ⟨1,24,.slice 238 Zv,[.dq],[.sl 1],[]⟩,eP,eP,eP,Zx ⟨1,8,.ptr 216,[.nL],[.ptr],[]⟩,eP,eP,eP,eP,Zx ⟨1,8,.ptr 219,[.nL],[.ptr],[]⟩,eP,eP,eP,eP,eP,Zy,eP,eP,Zx ⟨1,24,.slice 39 Zv,[.dq],[.sl 1],[]⟩,eP,eP,eP,Zx ⟨4,4,.df 4 5 Yg,[.u8 0,.u8 0,.u8 0,.u8 0],[.u8,.u8,.u8,.u8],[]⟩,eP,ti1,Zy,eP,eP,eP,eP,Zy,eP,eP,Zx ⟨1,4,.int .u32,[.int .u32 0],[.int .u32],[.int .u32]⟩,eP,eP,ti3,eP,eP,eP,Zx ⟨1,8,.ptr 3,[.nL],[.ptr],[]⟩,eP,Zx ⟨1,8,.ptr 275,[.nL],[.ptr],[]⟩,Zy,eP,Zx ⟨4,40,.struct [(0,17),(1,17),(2,17),(3,9)],[.nL,.nL,.nL,.str []],[.ptr,.ptr,.ptr,.str],[]⟩,Zy,Zx ⟨0,0,.df 0 16 Zv,[],[],[]⟩,Zy,Zy,ti2,ti2,eP,Zx ⟨1,8,.ptr 5,[.nL],[.ptr],[]⟩,ti5,ti5,Zy,Zx ⟨11,48,.struct [(0,12),(1,12),(2,272),(3,289),(4,5),(5,5),(6,290),(7,291),(8,292),(9,293),(10,294)],[.int AT 0,.int AT 0,.int .u32 0,.u8 0,.u8 0,.u8 0,.u8 0,.ym,.nL,.int .i32 0,.int .i32 0],[.int AT,.int AT,.int .u32,.u8,.u8,.u8,.u8,.other,.ptr,.int .i32,.int .i32],[]⟩,Zy]
def Z0:List (Nat×Nat×List jO):=[(6,7,[.val 0 44,.val 1 25,.val 3 25,.val 4 27,.cells 7 [.u8,.u8,.u8,.u8,.u8,.bool,.int .u16],.ptr 7 7 0,.val 10 4,.cells 11 [.sl 1,.sl 1],.ptr 11 11 0,.val 12 3]),
 (6,20,[.val 0 44,.val 1 25,.val 3 25,.val 4 27,.cells 7 [.u8,.u8,.u8,.u8,.u8,.bool,.int .u16],.ptr 7 7 0,.val 10 4,.cells 11 [.sl 1,.sl 1],.ptr 11 11 0,.val 12 3,.val 13 25,.val 15 3]),
 (6,2000003,[.val 0 44,.val 1 25,.val 3 25,.val 4 27,.cells 7 [.u8,.u8,.u8,.u8,.u8,.bool,.int .u16],.ptr 7 7 0,.val 26 4,.val 10 4]),
 (6,2000014,[.val 0 44,.val 1 25,.val 3 25,.val 4 27,.cells 7 [.u8,.u8,.u8,.u8,.u8,.bool,.int .u16],.ptr 7 7 0,.cells 11 [.sl 1,.sl 1],.ptr 11 11 0,.val 12 3,.val 13 25,.cells 14 [.sl 1,.sl 1],.ptr 14 14 0,.val 59 4,.val 10 4]),
 (6,2000025,[.val 0 44,.val 1 25,.val 3 25,.val 4 27,.cells 7 [.u8,.u8,.u8,.u8,.u8,.bool,.int .u16],.ptr 7 7 0,.cells 11 [.sl 1,.sl 1],.ptr 11 11 0,.val 12 3,.val 116 4,.val 10 4]),
 (6,2000027,[.val 10 4]),
 (6,3000015,[.val 0 44,.val 1 25,.val 3 25,.val 4 27,.cells 7 [.u8,.u8,.u8,.u8,.u8,.bool,.int .u16],.ptr 7 7 0,.val 10 4,.cells 11 [.sl 1,.sl 1],.ptr 11 11 0,.val 12 3,.val 13 25]),
 (6,8000026,[.cells 0 [.bool],.bP 2 2 [8],.bP 8 1 [7],.bP 8 1 [7,7],.bP 8 1 [7,7,7]]),
 (8,8000026,[.cells 0 [.bool],.bP 2 2 [8],.bP 8 1 [7],.bP 8 1 [7,7],.bP 8 1 [7,7,7]]),
 (9,3000006,[.cells 1 [.u8,.u8,.u8,.u8,.u8,.bool,.int .u16],.ptr 1 1 0,.val 2 25,.val 5 25]),
 (10,4,[.val 0 32,.val 1 32,.val 4 4,.val 5 3]),
 (14,2000016,[.cells 1 [.u8,.u8,.u8,.u8,.u8,.bool,.int .u16],.ptr 1 1 0,.cells 4 [.str,.str,.str],.ptr 4 4 0,.cells 5 [.str,.str,.str],.ptr 5 5 0,.val 6 3,.val 23 3,.val 86 4,.val 2 25]),
 (14,3000007,[.cells 1 [.u8,.u8,.u8,.u8,.u8,.bool,.int .u16],.ptr 1 1 0,.val 2 25,.val 3 25,.val 6 3]),
 (14,3000030,[.cells 1 [.u8,.u8,.u8,.u8,.u8,.bool,.int .u16],.ptr 1 1 0,.val 2 25,.val 3 25,.val 6 3]),
 (17,4,[.val 0 39,.val 1 39,.val 4 4,.val 5 3]),
 (19,3,[.cells 4 [.sl 1,.sl 1],.ptr 4 4 0,.j8 1000015 [.own 4001 27 1 Zv,.own 4002 25 1 Zv,.sU 4003 Zv AI],.ptr 5 1000015 0,.val 11 32,.val 12 3,.val 13 3]),
 (27,3000003,[.cells 4 [.sl 1,.sl 1],.ptr 4 4 0,.j8 800015 [.own 4021 27 1 Zv,.own 4022 25 1 Zv,.sU 4023 Zv AI],.ptr 5 800015 0]),
 (32,3,[.cells 2 [.sl 1,.sl 1],.ptr 2 2 0,.val 4 4,.val 5 32,.val 6 3]),
 (34,8,[.cells 2 [.sl 1,.sl 1],.ptr 2 2 0,.val 4 4,.val 8 39,.val 9 32,.val 10 3]),
 (34,13,[.cells 2 [.sl 1,.sl 1],.ptr 2 2 0,.val 4 4,.val 9 32,.val 11 3]),
 (34,8000103,[.cells 0 [.bool],.bP 8 2 []]),
 (41,2000001,[.cells 1 [.int AI,.str,.str,.str,.int AI,.str,.eV,.str,.str,.eV],.ptr 1 1 0,.val 13 4,.val 3 35]),
 (41,2000003,[.cells 1 [.int AI,.str,.str,.str,.int AI,.str,.eV,.str,.str,.eV],.ptr 1 1 0,.val 46 4,.val 3 35]),
 (41,2000005,[.cells 1 [.int AI,.str,.str,.str,.int AI,.str,.eV,.str,.str,.eV],.ptr 1 1 0,.val 56 4,.val 3 35]),
 (41,2000007,[.cells 1 [.int AI,.str,.str,.str,.int AI,.str,.eV,.str,.str,.eV],.ptr 1 1 0,.val 72 4,.val 3 35]),
 (41,2000009,[.cells 1 [.int AI,.str,.str,.str,.int AI,.str,.eV,.str,.str,.eV],.ptr 1 1 0,.val 113 4,.val 3 35]),
 (46,1000038,[.val 0 3]),
 (46,1000042,[.val 0 3]),
 (47,3,[.dG 3 25 1 Zv,.val 6 32,.val 7 3,.val 8 3]),
 (50,3,[.val 0 32,.dG 3 25 1 Zv,.val 4 3]),
 (58,5,[.val 0 25,.val 4 27,.val 5 3]),
 (71,1000023,[.val 0 3]),
 (73,3,[.dG 3 27 1 Zv,.val 6 39,.val 7 3,.val 8 3]),
 (87,8000172,[.cells 0 [.bool],.bP 12 2 [19]]),
 (88,1,[.val 2 30]),
 (88,5000001,[.j8 9000000 [.own 4001 27 1 Zv,.own 4002 25 1 Zv,.sU 4003 Zv AI]]),
 (88,6000001,[.bP 6 1 [10],.bP 6 1 [24],.bP 6 1 [24,24],.bP 6 1 [24,5],.bP 6 1 [24,36],.bP 6 1 [24,36,10],.bP 6 1 [24,36,10,2],.bP 6 1 [24,36,10,8],.bP 6 1 [24,36,10,8,7],.bP 6 1 [24,36,10,8,7,7],.bP 6 1 [24,36,10,8,7,7,7],.bP 6 1 [24,45],.bP 6 1 [24,53],.bP 6 1 [24,53,7],.bP 6 1 [24,53,7,7],.bP 6 1 [24,53,7,16],.bP 6 1 [24,53,7,16,10],.bP 6 1 [24,53,7,16,10,2],.bP 6 1 [24,53,7,16,10,8],.bP 6 1 [24,53,7,16,10,8,7],.bP 6 1 [24,53,7,16,10,8,7,7],.bP 6 1 [24,53,7,16,10,8,7,7,7],.bP 6 1 [24,61],.bP 6 1 [24,61,7],.bP 6 1 [24,61,7,7],.bP 6 1 [24,61,7,16],.bP 6 1 [24,61,7,16,12],.bP 6 1 [24,61,7,16,19],.bP 6 1 [24,65],.bP 6 1 [24,74],.bP 6 1 [24,74,6],.bP 6 1 [24,74,6,10],.bP 6 1 [24,74,6,10,2],.bP 6 1 [24,74,6,10,8],.bP 6 1 [24,74,6,10,8,7],.bP 6 1 [24,74,6,10,8,7,7],.bP 6 1 [24,74,6,10,8,7,7,7],.bP 6 1 [24,74,14],.bP 6 1 [24,77],.bP 6 1 [24,86],.bP 6 1 [24,86,6],.bP 6 1 [24,86,6,12],.bP 6 1 [24,86,6,19],.bP 6 1 [24,86,14],.bP 6 1 [24,86,15],.bP 6 1 [24,4001],.bP 6 1 [24,4002],.bP 6 1 [24,4003],.bP 6 1 [24,4011],.bP 6 1 [24,4012],.bP 6 1 [24,4013],.bP 6 1 [4001],.bP 6 1 [4002],.bP 6 1 [4003]]),
 (90,3,[.val 0 3,.cells 2 [.str,.str,.str],.ptr 2 2 0,.val 3 9,.val 4 3]),
 (90,7,[.val 0 3,.cells 2 [.str,.str,.str],.ptr 2 2 0,.val 3 9,.val 5 3]),
 (98,8000178,[.cells 0 [.bool],.bP 10 2 [],.bP 10 1 [2],.bP 10 1 [8],.bP 10 1 [8,7],.bP 10 1 [8,7,7],.bP 10 1 [8,7,7,7]]),
 (99,4,[.val 1 39,.val 2 32,.cells 6 [.sl 1,.sl 1],.ptr 6 6 0,.j8 8 [.mh (.sl 1),.own 20801 25 1 Zv],.ptr 8 8 0,.val 9 4,.val 10 3]),
 (99,9,[.val 2 32,.cells 6 [.sl 1,.sl 1],.ptr 6 6 0,.j8 8 [.mh (.sl 1),.own 20801 25 1 Zv],.ptr 8 8 0,.val 9 4,.val 11 3]),
 (99,8000103,[.cells 0 [.bool],.bP 8 2 []]),
 (100,2,[.cells 1 [.sl 1,.sl 1],.ptr 1 1 0,.cells 2 [.sl 1,.sl 1],.ptr 2 2 0,.val 3 3]),
 (102,8000172,[.cells 0 [.bool],.bP 12 2 [19]]),
 (102,8000178,[.cells 0 [.bool],.bP 10 2 [],.bP 10 1 [2],.bP 10 1 [8],.bP 10 1 [8,7],.bP 10 1 [8,7,7],.bP 10 1 [8,7,7,7]]),
 (102,8000183,[.cells 0 [.bool],.bP 7 2 [],.bP 7 1 [7],.bP 7 1 [16],.bP 7 1 [16,10],.bP 7 1 [16,10,2],.bP 7 1 [16,10,8],.bP 7 1 [16,10,8,7],.bP 7 1 [16,10,8,7,7],.bP 7 1 [16,10,8,7,7,7]]),
 (103,2,[.val 0 32,.val 1 25,.val 4 4,.val 5 3]),
 (103,5000002,[.val 4 4,.val 5 3]),
 (104,2,[.val 0 39,.val 1 27,.val 4 4,.val 5 3]),
 (126,5,[.val 1 234,.val 4 4,.val 5 35,.val 6 3,.val 7 4,.val 9 3]),
 (138,3,[.val 0 27,.fg 3 5 Zv,.val 4 3]),
 (139,2,[.fg 3 5 Zv]),
 (146,4,[.val 0 25,.val 1 3,.cells 4 [.str,.str,.str],.ptr 4 4 0,.val 5 3,.val 6 35,.cells 7 [.str,.str,.str],.ptr 7 7 0,.bP 14 7 [0,1,2],.val 15 3,.val 16 3]),
 (149,5,[.val 4 27,.val 10 25,.val 11 3,.val 12 3]),
 (172,2,[.val 1 25,.val 4 4,.val 11 32,.val 12 3,.val 13 3]),
 (172,5000002,[.val 4 4,.val 13 3]),
 (173,2,[.cells 0 [.sl 1,.sl 1,.other],.ptr 0 0 0,.val 2 4,.val 10 3,.val 11 3]),
 (173,5000002,[.val 2 4,.val 11 3,.j8 9000000 [.own 4001 27 1 Zv,.own 4002 25 1 Zv,.sU 4003 Zv AI]]),
 (173,6000002,[.bP 24 1 [24],.bP 24 1 [5],.bP 24 1 [36],.bP 24 1 [36,10],.bP 24 1 [36,10,2],.bP 24 1 [36,10,8],.bP 24 1 [36,10,8,7],.bP 24 1 [36,10,8,7,7],.bP 24 1 [36,10,8,7,7,7],.bP 24 1 [45],.bP 24 1 [53],.bP 24 1 [53,7],.bP 24 1 [53,7,7],.bP 24 1 [53,7,16],.bP 24 1 [53,7,16,10],.bP 24 1 [53,7,16,10,2],.bP 24 1 [53,7,16,10,8],.bP 24 1 [53,7,16,10,8,7],.bP 24 1 [53,7,16,10,8,7,7],.bP 24 1 [53,7,16,10,8,7,7,7],.bP 24 1 [61],.bP 24 1 [61,7],.bP 24 1 [61,7,7],.bP 24 1 [61,7,16],.bP 24 1 [61,7,16,12],.bP 24 1 [61,7,16,19],.bP 24 1 [65],.bP 24 1 [74],.bP 24 1 [74,6],.bP 24 1 [74,6,10],.bP 24 1 [74,6,10,2],.bP 24 1 [74,6,10,8],.bP 24 1 [74,6,10,8,7],.bP 24 1 [74,6,10,8,7,7],.bP 24 1 [74,6,10,8,7,7,7],.bP 24 1 [74,14],.bP 24 1 [77],.bP 24 1 [86],.bP 24 1 [86,6],.bP 24 1 [86,6,12],.bP 24 1 [86,6,19],.bP 24 1 [86,14],.bP 24 1 [86,15],.bP 24 1 [4001],.bP 24 1 [4002],.bP 24 1 [4003],.bP 24 1 [4011],.bP 24 1 [4012],.bP 24 1 [4013]]),
 (174,2,[.val 0 9,.val 1 9,.val 4 4,.val 5 3]),
 (174,7,[.val 0 9,.val 1 9,.val 4 4,.val 5 3,.val 6 3]),
 (175,3,[.val 1 3,.val 2 3,.val 3 4,.fg 9 5 Zv,.val 10 3]),
 (178,8000026,[.cells 0 [.bool],.bP 2 2 [8],.bP 8 1 [7],.bP 8 1 [7,7],.bP 8 1 [7,7,7]]),
 (180,2,[.val 0 39,.val 1 27,.val 5 3]),
 (181,2,[.val 0 32,.val 1 174,.val 4 3,.val 7 3,.val 8 3]),
 (181,5000002,[.val 4 3,.val 8 3,.bP 1 (9500000+102) [1,1]]),
 (181,6000002,[.bP 16 1 [12],.bP 16 1 [19]]),
 (181,7000102,[.val 0 172]),
 (181,8000172,[.cells 0 [.bool],.bP 12 2 [19]]),
 (204,4,[.val 0 25,.val 1 3,.val 4 9,.val 5 3,.val 6 35,.val 7 3]),
 (208,6,[.val 0 25,.val 1 3,.val 2 3,.val 3 4,.val 12 3,.val 22 3,.val 23 3]),
 (217,3,[.val 0 32,.val 3 3,.val 9 32,.val 10 3,.val 11 3]),
 (217,11,[.fg 6 5 Zv,.val 25 32,.val 26 3,.val 27 3]),
 (218,3,[.val 0 27,.fg 3 5 Zv,.val 7 3,.val 8 3]),
 (231,9,[.cells 0 [.sl 1,.sl 1,.other],.ptr 0 0 0,.val 9 32,.val 64 39,.val 65 3,.val 66 3]),
 (231,14,[.cells 0 [.sl 1,.sl 1,.other],.ptr 0 0 0,.val 76 32,.val 77 3,.val 78 3]),
 (231,5000009,[.val 66 3,.j8 9000000 [.own 4001 27 1 Zv,.own 4002 25 1 Zv,.sU 4003 Zv AI]]),
 (231,5000014,[.val 78 3,.j8 9000000 [.own 4011 27 1 Zv,.own 4012 25 1 Zv,.sU 4013 Zv AI]]),
 (231,6000009,[.bP 36 1 [10],.bP 36 1 [10,2],.bP 36 1 [10,8],.bP 36 1 [10,8,7],.bP 36 1 [10,8,7,7],.bP 36 1 [10,8,7,7,7],.bP 53 1 [7],.bP 53 1 [7,7],.bP 53 1 [7,16],.bP 53 1 [7,16,10],.bP 53 1 [7,16,10,2],.bP 53 1 [7,16,10,8],.bP 53 1 [7,16,10,8,7],.bP 53 1 [7,16,10,8,7,7],.bP 53 1 [7,16,10,8,7,7,7],.bP 61 1 [7],.bP 61 1 [7,7],.bP 61 1 [7,16],.bP 61 1 [7,16,12],.bP 61 1 [7,16,19],.bP 74 1 [6],.bP 74 1 [6,10],.bP 74 1 [6,10,2],.bP 74 1 [6,10,8],.bP 74 1 [6,10,8,7],.bP 74 1 [6,10,8,7,7],.bP 74 1 [6,10,8,7,7,7],.bP 74 1 [14],.bP 86 1 [6],.bP 86 1 [6,12],.bP 86 1 [6,19],.bP 86 1 [14],.bP 86 1 [15]]),
 (231,6000014,[.bP 36 1 [10],.bP 36 1 [10,2],.bP 36 1 [10,8],.bP 36 1 [10,8,7],.bP 36 1 [10,8,7,7],.bP 36 1 [10,8,7,7,7],.bP 53 1 [7],.bP 53 1 [7,7],.bP 53 1 [7,16],.bP 53 1 [7,16,10],.bP 53 1 [7,16,10,2],.bP 53 1 [7,16,10,8],.bP 53 1 [7,16,10,8,7],.bP 53 1 [7,16,10,8,7,7],.bP 53 1 [7,16,10,8,7,7,7],.bP 61 1 [7],.bP 61 1 [7,7],.bP 61 1 [7,16],.bP 61 1 [7,16,12],.bP 61 1 [7,16,19],.bP 74 1 [6],.bP 74 1 [6,10],.bP 74 1 [6,10,2],.bP 74 1 [6,10,8],.bP 74 1 [6,10,8,7],.bP 74 1 [6,10,8,7,7],.bP 74 1 [6,10,8,7,7,7],.bP 74 1 [14],.bP 86 1 [6],.bP 86 1 [6,12],.bP 86 1 [6,19],.bP 86 1 [14],.bP 86 1 [15]]),
 (231,8000101,[.cells 0 [.bool],.bP 7 2 [],.bP 7 1 [7],.bP 7 1 [16],.bP 7 1 [16,12],.bP 7 1 [16,19]]),
 (231,8000172,[.cells 0 [.bool],.bP 12 2 [19]]),
 (231,8000178,[.cells 0 [.bool],.bP 10 2 [],.bP 10 1 [2],.bP 10 1 [8],.bP 10 1 [8,7],.bP 10 1 [8,7,7],.bP 10 1 [8,7,7,7]]),
 (231,8000183,[.cells 0 [.bool],.bP 7 2 [],.bP 7 1 [7],.bP 7 1 [16],.bP 7 1 [16,10],.bP 7 1 [16,10,2],.bP 7 1 [16,10,8],.bP 7 1 [16,10,8,7],.bP 7 1 [16,10,8,7,7],.bP 7 1 [16,10,8,7,7,7]]),
 (232,2,[.val 0 39,.val 1 27,.val 4 3,.val 7 3,.val 8 3]),
 (232,5000002,[.val 4 3,.val 8 3]),
 (235,3,[.val 0 257,.val 3 3,.val 9 257,.val 10 3,.val 11 3]),
 (235,11,[.dG 6 27 1 Zv,.val 25 257,.val 26 3,.val 27 3]),
 (237,4,[.val 0 39,.val 2 39,.val 3 3]),
 (237,9,[.val 0 39,.val 3 3,.val 4 39,.val 5 3]),
 (237,5000004,[.val 3 3]),
 (237,5000009,[.cells 99999 []]),
 (239,2,[.val 0 39,.val 1 167,.val 4 3,.val 7 3,.val 8 3]),
 (239,5000002,[.val 4 3,.val 8 3]),
 (239,6000002,[.bP 16 1 [10],.bP 16 1 [10,2],.bP 16 1 [10,8],.bP 16 1 [10,8,7],.bP 16 1 [10,8,7,7],.bP 16 1 [10,8,7,7,7]]),
 (239,8000178,[.cells 0 [.bool],.bP 10 2 [],.bP 10 1 [2],.bP 10 1 [8],.bP 10 1 [8,7],.bP 10 1 [8,7,7],.bP 10 1 [8,7,7,7]]),
 (241,2,[.val 0 3,.val 4 4,.val 7 234,.val 8 3,.val 9 3]),
 (253,6,[.val 2 3,.val 3 4,.val 11 25,.val 12 3,.val 14 3,.val 15 3]),
 (256,3,[.val 0 25,.val 1 3,.val 2 3,.val 3 4,.jx 9 Zv,.ptr 9 9 0,.val 12 3,.val 13 3]),
 (259,2,[.rowAt 0 Yg 27 1,.iq 0 0 27 1,.val 1 3,.val 2 3,.val 3 3,.val 8 4,.val 9 4]),
 (259,2000014,[.rowAt 0 Yg 27 1,.iq 0 0 27 1,.val 1 3,.val 2 3,.val 3 3,.val 8 4,.val 9 4,.val 10 3,.val 11 3,.val 12 263]),
 (259,2000015,[.rowAt 0 Yg 27 1,.iq 0 0 27 1,.val 1 3,.val 2 3,.val 3 3,.val 8 4,.val 9 4,.val 10 3,.val 11 3,.val 68 4]),
 (259,2000016,[.rowAt 0 Yg 27 1,.iq 0 0 27 1,.val 1 3,.val 2 3,.val 3 3,.val 8 4,.val 9 4,.val 10 3,.val 11 3,.val 72 4]),
 (259,2000017,[.rowAt 0 Yg 27 1,.iq 0 0 27 1,.val 1 3,.val 2 3,.val 3 3,.val 8 4,.val 9 4,.val 10 3,.val 11 3,.val 87 4]),
 (259,3000008,[.rowAt 0 Yg 27 1,.iq 0 0 27 1,.val 1 3,.val 2 3,.val 3 3,.val 8 4,.val 9 4,.val 10 3]),
 (259,3000012,[.rowAt 0 Yg 27 1,.iq 0 0 27 1,.val 1 3,.val 2 3,.val 3 3,.val 8 4,.val 9 4,.val 10 3,.val 11 3,.val 12 263]),
 (262,2,[.val 0 9,.val 1 9,.val 4 4,.val 7 3,.val 8 3]),
 (263,1,[.rowAt 0 Yg 27 1,.iq 0 0 27 1,.val 1 3,.val 2 3,.val 6 3]),
 (263,4,[.rowAt 0 Yg 27 1,.iq 0 0 27 1,.val 1 3,.val 2 3,.val 6 3,.val 7 3]),
 (264,4,[.rowAt 0 Yg 27 1,.iq 0 0 27 1,.val 6 3,.val 7 3,.val 8 3,.val 9 3]),
 (264,8,[.rowAt 0 Yg 27 1,.iq 0 0 27 1,.val 6 3,.val 7 3,.val 10 3]),
 (265,5,[.rowAt 0 Yg 27 1,.iq 0 0 27 1,.val 1 3,.val 6 3,.cells 7 [.int AT],.ptr 7 7 0,.val 8 109,.val 9 3]),
 (267,2,[.rowAt 0 Yg 27 1,.iq 0 0 27 1,.val 6 3,.val 7 3]),
 (268,3,[.rowAt 0 Yg 27 1,.iq 0 0 27 1,.val 1 3,.val 2 3,.val 6 4,.val 7 3,.val 8 3]),
 (268,5,[.rowAt 0 Yg 27 1,.iq 0 0 27 1,.val 1 3,.val 2 3,.val 7 3,.val 8 3,.val 6 4]),
 (268,14,[.rowAt 0 Yg 27 1,.iq 0 0 27 1,.val 1 3,.val 2 3,.val 7 3,.val 8 3,.val 9 3,.val 6 4]),
 (268,20,[.rowAt 0 Yg 27 1,.iq 0 0 27 1,.val 1 3,.val 2 3,.val 7 3,.val 8 3,.val 10 3,.val 6 4]),
 (270,3,[.rowAt 0 Yg 27 1,.iq 0 0 27 1,.val 1 3,.val 9 3,.val 10 3]),
 (270,5,[.rowAt 0 Yg 27 1,.iq 0 0 27 1,.val 1 3,.val 9 3,.val 10 3]),
 (271,3,[.rowAt 0 Yg 27 1,.iq 0 0 27 1,.val 1 3,.val 10 3,.val 11 3]),
 (271,5,[.rowAt 0 Yg 27 1,.iq 0 0 27 1,.val 1 3,.val 10 3,.val 11 3]),
 (271,13,[.rowAt 0 Yg 27 1,.iq 0 0 27 1,.val 1 3,.val 10 3,.val 11 3]),
 (271,15,[.rowAt 0 Yg 27 1,.iq 0 0 27 1,.val 1 3,.val 10 3,.val 11 3]),
 (275,1,[.rowAt 0 Yg 27 1,.iq 0 0 27 1,.val 2 3,.val 3 3,.val 8 3])]
def ad0:List Nat:=[95,139,170,171,175,257,258,93,108,109,110,217,67,141,219,256,214,215,216,243,179,1017088,1016832,1017152,1017280,1017344,1017600,1018048,1016896,1016960,1017856,1017792,1017024,1016576,1015104]
def ad_:List (Nat×List Nat):=[(10,[4]),(17,[4]),(21,[27]),(24,[27]),(46,[25]),(89,[3]),(90,[53]),(92,[4]),(94,[25]),(95,[25]),(104,[4]),(107,[4]),(113,[4]),(114,[4]),(133,[3,4,35]),(138,[25]),(139,[25]),(142,[4]),(144,[4]),(152,[4]),(156,[4]),(159,[4]),(170,[39]),(171,[32]),(174,[4]),(175,[25]),(180,[39]),(184,[176]),(200,[]),(203,[25,3,35]),(204,[9,3,35]),(205,[27]),(206,[4]),(207,[4]),(210,[35]),(211,[25]),(218,[25]),(221,[4]),(222,[4]),(226,[]),(229,[4]),(233,[4]),(234,[4]),(238,[4]),(241,[4]),(245,[4]),(251,[4]),(252,[4]),(254,[3]),(255,[4]),(257,[25]),(258,[39]),(261,[4]),(267,[]),(273,[3]),(277,[26]),(280,[4]),(283,[3]),(20,[4]),(29,[27]),(35,[4]),(60,[27]),(91,[4]),(93,[25]),(99,[46,4]),(105,[9]),(108,[25]),(109,[25]),(110,[25]),(111,[4]),(112,[4]),(126,[4,35]),(131,[25]),(135,[9]),(136,[4]),(148,[25,3,35]),(177,[3,3,4]),(208,[3,3,35]),(212,[3]),(217,[25]),(228,[4]),(240,[3,4,35]),(242,[25]),(253,[3,3,35]),(260,[3]),(269,[4]),(281,[3]),(25,[25,35]),(36,[53]),(40,[25,35]),(42,[25,35]),(58,[27,4]),(59,[53]),(67,[25,35]),(71,[25,35]),(80,[39]),(97,[4]),(106,[4]),(116,[25]),(127,[53]),(141,[25]),(143,[3]),(145,[3,3,35]),(147,[3,3,35]),(150,[9,3,35]),(154,[25]),(167,[25]),(185,[4,35]),(186,[3,3,35]),(199,[3,3,35]),(201,[3,3,35]),(202,[3,3,35]),(219,[25]),(220,[25]),(227,[3]),(256,[25]),(263,[]),(268,[4]),(270,[3]),(271,[3,4]),(274,[3]),(275,[]),(276,[109]),(282,[3,3]),(13,[29,3,35]),(22,[55]),(37,[25,35]),(39,[25,35]),(41,[25,35]),(43,[25,35]),(63,[113]),(64,[25,35]),(65,[25,35]),(66,[25,35]),(68,[25,35]),(69,[25,35]),(70,[25,35]),(73,[39]),(128,[3]),(129,[3]),(130,[3]),(137,[35]),(140,[35]),(149,[27,4]),(155,[3]),(160,[3]),(165,[3]),(168,[3]),(188,[61,3]),(193,[9]),(194,[3]),(197,[3]),(214,[25]),(215,[25]),(216,[25]),(223,[35]),(243,[25]),(248,[25,3,4]),(262,[4]),(264,[]),(265,[]),(279,[3]),(49,[72,35]),(53,[25,4,35]),(54,[25,25,4,35]),(55,[79,35]),(56,[82,35]),(57,[85,35]),(61,[25,35]),(62,[25,35]),(81,[117,35]),(82,[124,35]),(83,[127,35]),(84,[130,35]),(85,[133,35]),(115,[25,25,35]),(132,[4]),(157,[27]),(158,[25,35]),(164,[27]),(182,[29,3,35]),(191,[25,35]),(192,[3,25,25,4,35]),(225,[25]),(230,[25]),(246,[4]),(247,[4]),(250,[25]),(278,[3]),(23,[25,35]),(44,[25,35]),(45,[25,35]),(50,[32]),(51,[61,35]),(52,[75,35]),(75,[124,35]),(79,[55,35]),(117,[4]),(121,[25,4,35]),(122,[25,25,4,35]),(196,[25,35]),(244,[4]),(266,[3,263]),(12,[32]),(16,[39,32]),(38,[25]),(47,[32]),(124,[82,35]),(189,[25,35]),(209,[4]),(259,[]),(14,[25]),(34,[4]),(100,[46]),(119,[61,35]),(146,[53,3,35]),(153,[25,35]),(166,[25,35]),(169,[25,35]),(187,[25,35]),(190,[25,35]),(198,[25,35]),(213,[35]),(224,[35]),(236,[]),(249,[35]),(9,[25]),(28,[46]),(30,[46]),(32,[4]),(74,[117,35]),(118,[72,35]),(120,[75,35]),(151,[25,35]),(161,[53]),(162,[25,35]),(163,[53]),(179,[39]),(195,[25,35]),(72,[55,35]),(76,[127,35]),(77,[130,35]),(78,[133,35]),(123,[79,35]),(125,[85,35]),(15,[39,32]),(48,[32]),(11,[32]),(102,[4]),(31,[4]),(33,[4]),(19,[46]),(27,[46]),(8,[4]),(6,[4])]
def QO:Sp
 | [.sl 1 bs,.sl 1 cs],[]=>aB (Kerb.oW bs&&Kerb.oW cs&&Zz (bs.length<=1000000000)) (Zx (.bool (Yp bs==Yp cs),[]))
 | _,_=>Zy
def Q0:Sp
 | [.sl 1 ks,.sl 1 ls],[]=>aB (Zq ks&&Zq ls&&Zz (ks.length<=1000000000)) (Zx (.bool (Yk ks==Yk ls),[]))
 | _,_=>Zy
def Lb:Sp
 | [.int AI n],[]=>aB (Zz (0<=n)&&Zz (n<=1000)) (Zx (.int AT (Kerb.ax n),[]))
 | _,_=>Zy
def Rs:Sp
 | [.int AI n],[]=>aB (Zz (0<=n)&&Zz (n<=1000)) (Zx (.int AT (Kerb.tL n),[]))
 | _,_=>Zy
def Li:Sp
 | [.bs b,.int .u16 how],[]=>aB (Zz (b.length<=1000000)&&Zz (0<=how)&&Zz (how<=65535)) (Zx (.bs (Kerb.tD b how),[]))
 | _,_=>Zy
def zP:Sp
 | [.ptr 0 0,.int AI n],[(0,[.bs l,.int AI pos])]=>aB (Zz (l.length<=4611686018427387904)&&Zz (0<=pos)) (Zx (.int AI (Kerb.next l pos n),[[.bs l,.int AI (Kerb.dS l pos n)]]))
 | _,_=>Zy
def WX:Sp
 | [.int AI n],[]=>aB (Zz (0<=n)&&Zz (n<=1)) (Zx (.agg [.str (Kerb.gi n).name,.str (Kerb.gi n).inst,.str (Kerb.gi n).aK],[]))
 | _,_=>Zy
def WY:Sp
 | [.int AI n,.int AI m],[]=>Zx (.bool (Zg n m),[])
 | _,_=>Zy
def WZ:Sp
 | [.int AI k,.bool By],[]=>Zx (.bs (Kerb.header k By),[])
 | _,_=>Zy
def qv:Sp
 | [.bs b,.str s],[]=>aB (Zz (b.length+s.length<=70368744177664)) (Zx (.bY (Kerb.bz b s),[]))
 | _,_=>Zy
def IQ:Sp
 | [.sl 1 ks,.int AT k],[]=>aB (Zq ks&&Zz (ks.length<=1000000000)) (Zx (.bool ((Yk ks).contains k),[]))
 | _,_=>Zy
def QP:Sp
 | [.int AI n,.int AI m],[]=>Zx (.bool (Zg n m),[])
 | _,_=>Zy
def QQ:Sp
 | [.int AI n],[]=>Zx (.bool (n==1||n==3),[])
 | _,_=>Zy
def QR:Sp
 | [.int AI n,.int AI m],[]=>Zx (.bool (Zg n m),[])
 | _,_=>Zy
def QT:Sp
 | [.bs b],[]=>Zx (.aQ [.int AI (Kerb.bj b).kind,.bool (Kerb.bj b).By,.int AI (Kerb.bj b).err],[])
 | _,_=>Zy
def nG:Sp
 | [.int AT k],[]=>aB (Zz (0<=k)&&Zz (k<18446744073709551616)) (Zx (.bs (Kerb.keyBytes k),[]))
 | _,_=>Zy
def jF:Sp
 | [.bs b],[]=>aB (Zz (b.length<=70368744177664)) (Zx (.bY (Kerb.pad b),[]))
 | _,_=>Zy
def QV:Sp
 | [.int AI n,.int AI m],[]=>Zx (.bool (Zg n m),[])
 | _,_=>Zy
def QW:Sp
 | [.int AI n,.int AI m],[]=>Zx (.bool (Zg n m),[])
 | _,_=>Zy
def QX:Sp
 | [.bs a,.bs b],[]=>Zx (.bool (a==b),[])
 | _,_=>Zy
def QY:Sp
 | [.str l],[]=>Zx (.bool (Kerb.jG l),[])
 | _,_=>Zy
def QZ:Sp
 | [.str l],[]=>Zx (.bool (Kerb.ez l),[])
 | _,_=>Zy
def Q1:Sp
 | [.sl 1 ks],[]=>aB (Zq ks&&Zz (ks.length<=1000000)) (Zx (.aH ks,[]))
 | _,_=>Zy
def Q2:Sp
 | [.sl 1 bs],[]=>aB (Kerb.oW bs&&Zz (bs.length<=1000000)) (Zx (.aH bs,[]))
 | _,_=>Zy
def yJ:Sp
 | [.str s,.str bad],[]=>aB (Zz (s.length<=9223372036854775807)&&Zz (bad.length<=100)) (Zx (.bool (Kerb.eW s bad&&Zz (s.length<=39)),[]))
 | _,_=>Zy
def yK:Sp
 | [.bs b,.int AI n,.int AI k,.bool By],[]=>aB (Zz (k=1\/k=2\/k=4)&&Zz (b.length<=70368744177664)) (Zx (.bY (b++Kerb.aJ n k.toNat By),[]))
 | _,_=>Zy
def Q4:Sp
 | [.sl 1 ks,.int AT k],[]=>aB (Zq ks&&Zz (ks.length<=1000000000)) (Zx (.sl 1 (Yj (Kerb.lK (Yk ks) k)),[]))
 | _,_=>Zy
def Q5:Sp
 | [],[]=>Zx (.sl 1 [.str [65,84,72],.str [66,79,83],.str [67,65,77]],[])
 | _,_=>Zy
def Ra:Sp
 | [.ptr 0 0,.int AI nx,.int AI e],[(0,[.bs B,.int AI at_,.bool li,.bool bad])]=>Zx (.aQ [],[[.bs B,.int AI (cond (bad || !(e==0)) at_ nx),.bool li,.bool (bad || !(e==0))]])
 | _,_=>Zy
def CF:Sp
 | [.bs b,.int AI pos,.int AI n],[]=>aB (Zz (b.length<=140737488355328)) (Zx (.aQ [.bs (Zh b pos n).val,.int AI (Zh b pos n).next,.int AI (Zh b pos n).err],[]))
 | _,_=>Zy
def Jn:Sp
 | [.bs b,.int AI pos],[]=>aB (Zz (b.length<=140737488355328)) (Zx (.aQ [.str (Yw b pos).val,.int AI (Yw b pos).next,.int AI (Yw b pos).err],[]))
 | _,_=>Zy
def Rc:Sp
 | [.int AI c,.int AI n],[]=>Zx (.int AT (cond (Kerb.pf c&&Kerb.na n) (c*72057594037927936+n) 0),[])
 | _,_=>Zy
def Re:Sp
 | [.int AI n,.int AI m],[]=>Zx (.bool (Zg n m),[])
 | _,_=>Zy
def Rf:Sp
 | [.int AI n,.int AI m],[]=>Zx (.bool (Zg n m),[])
 | _,_=>Zy
def yM:Sp
 | [.bs b,.int AI pos,.int AI n],[]=>aB (Zz (b.length<=4611686018427387904)) (Zx (.int AI (Kerb.room b pos n),[]))
 | _,_=>Zy
def CH:Sp
 | [.bs b],[]=>aB (Zz (b.length<=140737488355328)) (Zx (.bs b,[]))
 | _,_=>Zy
def vf:Sp
 | [.int AT k],[]=>aB (Zz (0<=k)&&Zz (k<18446744073709551616)) (Zx (.bs (Kerb.keyBytes k),[]))
 | _,_=>Zy
def Rj:Sp
 | [.int AI n,.int AI m],[]=>Zx (.bool (Zg n m),[])
 | _,_=>Zy
def Rk:Sp
 | [.ptr 0 0,.int AI nx,.int AI e],[(0,[.bs B,.int AI at_,.bool bad])]=>Zx (.bool (!(bad || !(e==0))),[[.bs B,.int AI (cond (bad || !(e==0)) at_ nx),.bool (bad || !(e==0))]])
 | _,_=>Zy
def Rl:Sp
 | [.ptr 0 0,.int AI nx,.int AI e],[(0,[.bs B,.int AI at_,.bool bad])]=>Zx (.aQ [],[[.bs B,.int AI (cond (e==0) nx at_),.bool (bad || !(e==0))]])
 | _,_=>Zy
def Rn:Sp
 | [.int AI n,.int AI m],[]=>Zx (.bool (Zg n m),[])
 | _,_=>Zy
def Rp:Sp
 | [.int AI k],[]=>Zx (.bool (Kerb.pf k),[])
 | _,_=>Zy
def Rq:Sp
 | [.int AI k],[]=>Zx (.bool (Kerb.na k),[])
 | _,_=>Zy
def Rr:Sp
 | [.int AI k],[]=>Zx (.bool (Kerb.isKind k),[])
 | _,_=>Zy
def Jr:Sp
 | [.int AI k,.sl 1 els],[]=>aB (o8 els&&Zz (els.length<=1000)) (Zx (.bool ((iP els).contains k),[]))
 | _,_=>Zy
def Rv:Sp
 | [.int AI n,.int AI m],[]=>Zx (.bool (Zg n m),[])
 | _,_=>Zy
def Rw:Sp
 | [.int AI n],[]=>Zx (.bool (Kerb.nc n),[])
 | _,_=>Zy
def Rx:Sp
 | [.int AI n,.int AI m],[]=>Zx (.bool (Zg n m),[])
 | _,_=>Zy
def Ry:Sp
 | [.bs s,.u8 c],[]=>Zx (.int AI (Kerb.indexOf c s),[])
 | _,_=>Zy
def Rz:Sp
 | [.int AI n,.int AI m],[]=>Zx (.bool (Zg n m),[])
 | _,_=>Zy
def Ju:Sp
 | [.dq,.int AI n],[]=>aB (Zz (0<=n)&&Zz (n<=140737488355328)) (Zx (.bY [],[]))
 | _,_=>Zy
def Jv:Sp
 | [.dq,.int AI n],[]=>aB (Zz (0<=n)&&Zz (n<=1000000000000)) (Zx (.aH [],[]))
 | _,_=>Zy
def RA:Sp
 | [.int AI k],[]=>Zx (.bool (Kerb.isKind k),[])
 | _,_=>Zy
def JA:Sp
 | [.bR 0 27 1,.int AI a,.int AI b],[(0,els)]=>aB (Zq els&&Zz ((els.length:Int)<=1152921504606846976)&&Zz (0<=a)&&Zz (a<=b)&&Zz (b<=(els.length:Int))) (Zx (.aQ [],[Kerb.TC els a b]))
 | _,_=>Zy
def JC:Sp
 | [.int AT x],[]=>aB (Zz (0<=x)&&Zz (x<18446744073709551616)) (Zx (.int AI (Kerb.Tm x),[]))
 | _,_=>Zy
def JE:Sp
 | [.ptr 0 0],[(0,[.int AT x])]=>aB (Zz (0<=x)&&Zz (x<18446744073709551616)) (Zx (.int AT (Kerb.Lt x),[[.int AT (Kerb.Lt x)]]))
 | _,_=>Zy
def RF:Sp
 | [.int AT x],[]=>Zx (.bool Zv,[])
 | _,_=>Zy
def RH:Sp
 | [.str s,.u8 c],[]=>Zx (.int AI (Kerb.indexOf c s),[])
 | _,_=>Zy
def Jk:Sp
 | [.agg [.sl 1 ks,.sl 1 bs],.agg [.sl 1 ls,.sl 1 cs]],[]=>aB (Zq ks&&Zq ls&&Kerb.oW bs&&Kerb.oW cs&&Zz (ks.length<=1000000000)&&Zz (bs.length<=1000000000)) (Zx (.bool (Yk ks==Yk ls&&Yp bs==Yp cs),[]))
 | _,_=>Zy
def WN:Sp
 | [.u8 n],[]=>Zx (.int AT (Kerb.jE n),[])
 | _,_=>Zy
def RL:Sp
 | [.agg [.sl 1 ks,.sl 1 bs],.int AT k],[]=>aB (Zq ks&&Zz (ks.length<=1000000000)) (Zx (.bool ((Yk ks).contains k),[]))
 | _,_=>Zy
def WT:Sp
 | [.u8 n],[]=>Zx (.int AT (Kerb.la n),[])
 | _,_=>Zy
def Gs:Sp
 | [.str s],[]=>aB (Zz (s.length<=9223372036854775807)) (Zx (.bool (Kerb.dO s),[]))
 | _,_=>Zy
def jv:Sp
 | [.bs b,.int AI n],[]=>aB (Zz (b.length<=70368744177664)) (Zx (.bY (b++Kerb.aJ n 1 Zv),[]))
 | _,_=>Zy
def TO:Sp
 | [.agg [.sl 1 ks,.sl 1 bs],.sl 1 l,.sl 1 m],[]=>aB (Yz ks bs&&Zq l&&Kerb.oW m&&Zz (l.length<=1000)&&Zz (m.length<=1000)&&(Yp m).all λb=>Zz (b.length<=140737488355328)) (Zx (.aQ [.agg [.sl 1 (Yj ((Zu ks bs).add ⟨Yk l,Yp m⟩).keys),.sl 1 (Yx ((Zu ks bs).add ⟨Yk l,Yp m⟩).boxes)],.bool !((Zu ks bs).has ⟨Yk l,Yp m⟩)],[]))
 | _,_=>Zy
def Cw:Sp
 | [.int AI n],[]=>aB (Zz (0<=n)) (Zx (.str (Kerb.aK n),[]))
 | _,_=>Zy
def ko:Sp
 | [.bs b,.agg [.str x,.str y,.str z]],[]=>aB (Zz (b.length+x.length+y.length+z.length<=70368744170000)) (Zx (.bY (Kerb.cW b ⟨x,y,z⟩),[]))
 | _,_=>Zy
def fv:Sp
 | [.bs b,.int AI n,.bool By],[]=>aB (Zz (b.length<=70368744177664)) (Zx (.bY (b++Kerb.aJ n 4 By),[]))
 | _,_=>Zy
def mG:Sp
 | [.bs b,.int AI n,.bool By],[]=>aB (Zz (b.length<=70368744177664)) (Zx (.bY (b++Kerb.aJ n 2 By),[]))
 | _,_=>Zy
def u9:Sp
 | [.str s],[]=>aB (Zz (s.length<=9223372036854775807)) (Zx (.bool (Kerb.validName s),[]))
 | _,_=>Zy
def u_:Sp
 | [.str s],[]=>aB (Zz (s.length<=9223372036854775807)) (Zx (.bool (Kerb.cA s),[]))
 | _,_=>Zy
def QS:Sp
 | [.bs b,.sl 1 els],[]=>aB (o8 els&&Zz (els.length<=1000)) (Zx (.aQ [.bool (Kerb.aM b (iP els)).1,.int AI (Kerb.aM b (iP els)).2],[]))
 | _,_=>Zy
def gA:Sp
 | [.ptr 0 0,.int AI n],[(0,[.bs B,.int AI at_,.bool li,.bool bad])]=>aB (Zz (B.length<=140737488355328)) (Zx (.bs (Zh B at_ n).val,[[.bs B,.int AI (cond (bad || !((Zh B at_ n).err==0)) at_ (Zh B at_ n).next),.bool li,.bool (bad || !((Zh B at_ n).err==0))]]))
 | _,_=>Zy
def o0:Sp
 | [.ptr 0 0],[(0,[.bs B,.int AI at_,.bool li,.bool bad])]=>aB (Zz (B.length<=140737488355328)) (Zx (.str (Yw B at_).val,[[.bs B,.int AI (cond (bad || !((Yw B at_).err==0)) at_ (Yw B at_).next),.bool li,.bool (bad || !((Yw B at_).err==0))]]))
 | _,_=>Zy
def mH:Sp
 | [.int AT k],[]=>aB (Zz (0<=k)&&Zz (k<18446744073709551616)) (Zx (.bool (Kerb.bB k),[]))
 | _,_=>Zy
def tB:Sp
 | [.bs b,.int AI pos,.int AI n],[]=>aB (Zz (b.length<=140737488355328)) (Zx (.aQ [.bs (Zh b pos n).val,.int AI (Zh b pos n).next,.int AI (Zh b pos n).err],[]))
 | _,_=>Zy
def CC:Sp
 | [.int AT k],[]=>aB (Zz (0<=k)&&Zz (k<18446744073709551616)) (Zx (.aQ [.int AI (cond (Kerb.bB k) (Kerb.nf k) 0),.int AI (cond (Kerb.bB k) (Kerb.mC k) 0),.bool (Kerb.bB k)],[]))
 | _,_=>Zy
def CG:Sp
 | [.bs b,.int AI pos,.int AI k,.bool By],[]=>aB (Zz (b.length<=4611686018427387904)&&Zz (0<=k)&&Zz (k<=4)) (Zx (.aQ [.int AI (Zw b pos k By).val,.int AI (Zw b pos k By).next,.int AI (Zw b pos k By).err],[]))
 | _,_=>Zy
def Rg:Sp
 | [.bs s,.u8 c],[]=>Zx (.int AI (Kerb.indexOf c s),[])
 | _,_=>Zy
def Ri:Sp
 | [.sl 1 els],[]=>aB (SG els&&Zz ((tX els).length<=140737488355328)&&Zz (els.length<=1000)) (Zx (.bY (tX els),[]))
 | _,_=>Zy
def Rm:Sp
 | [.int AI a,.int AI b],[]=>Zx (.bool (Kerb.period a b),[])
 | _,_=>Zy
def Rt:Sp
 | [.bs b],[]=>Zx (.aQ [.int AI (Kerb.bj b).kind,.bool (Kerb.bj b).By,.int AI (Kerb.bj b).err],[])
 | _,_=>Zy
def Ru:Sp
 | [.int AI k,.bool By],[]=>Zx (.bs (Kerb.header k By),[])
 | _,_=>Zy
def CN:Sp
 | [.bs b,.int AI pos,.int AI k,.bool By],[]=>aB (Zz (b.length<=140737488355328)&&Zz (0<=k)&&Zz (k<=4)) (Zx (.aQ [.int AI (Zw b pos k By).val,.int AI (Zw b pos k By).next,.int AI (Zw b pos k By).err],[]))
 | _,_=>Zy
def CO:Sp
 | [.int AT x],[]=>aB (Kerb.ok x&&Zz (0<=x)&&Zz (x<18446744073709551616)) (Zx (.int AI (Kerb.Tm x),[]))
 | _,_=>Zy
def RB:Sp
 | [.int AT x,.int AT y],[]=>Zx (.bool (Zz (x<y)),[])
 | _,_=>Zy
def RG:Sp
 | [.str s,.u8 c],[]=>Zx (.int AI (Kerb.indexOf c s),[])
 | _,_=>Zy
def Ld:Sp
 | [.agg [.bool li,.bool mu,.int AI kv,.str rl,.bs tk,.bs au]],[]=>aB (Zz (rl.length<=9223372036854775807)) (Zx (.aQ [.bs (Kerb.bh (Kerb.cN.mk li mu kv rl tk au)).val,.int AI (Kerb.bh (Kerb.cN.mk li mu kv rl tk au)).err],[]))
 | _,_=>Zy
def Lf:Sp
 | [.int AI n],[]=>aB (Zz (0<=n)&&Zz (n<=4611686018427387904)) (Zx (.agg [.str (Kerb.user n).name,.str (Kerb.user n).inst,.str (Kerb.user n).aK],[]))
 | _,_=>Zy
def WQ:Sp
 | [.bs s,.bool li],[]=>Zx (.aQ [.bs (Kerb.cj s li).val,.int AI (Kerb.cj s li).err],[])
 | _,_=>Zy
def WS:Sp
 | [.agg [.int AI op,.int AI cd,.bs bx]],[]=>Zx (.aQ [.bs (Kerb.bw ⟨op,cd,bx⟩).val,.int AI (Kerb.bw ⟨op,cd,bx⟩).err],[])
 | _,_=>Zy
def CU:Sp
 | [.bs b],[]=>aB (Zz (b.length<=4611686018427387904)) (Zx (.aQ [.int AT (Kerb.cK b).1,.bool (Kerb.cK b).2],[]))
 | _,_=>Zy
def RZ:Sp
 | [.int AI n],[]=>aB (Zz (0<=n)&&Zz (n<=4611686018427387904)) (Zx (.agg [.str (Kerb.service n).name,.str (Kerb.service n).inst,.str (Kerb.service n).aK],[]))
 | _,_=>Zy
def Oh:Sp
 | [.agg [.str lb,.int AI t,.int AI st,.int AI en,.int AT k]],[]=>aB (Zz (0<=k)&&Zz (k<18446744073709551616)) (Zx (.aQ [.bY (Kerb.aR ⟨lb,t,st,en,k⟩).val,.int AI (Kerb.aR ⟨lb,t,st,en,k⟩).err],[]))
 | _,_=>Zy
def Ll:Sp
 | [.int AI kd,.int AT k,.bs bd],[]=>aB (Zz (0<=k)&&Zz (k<18446744073709551616)) (Zx (.aQ [.bs (Kerb.g_ kd k bd).val,.int AI (Kerb.g_ kd k bd).err],[]))
 | _,_=>Zy
def CW:Sp
 | [.int AT k],[]=>aB (Zz (0<=k)&&Zz (k<18446744073709551616)) (Zx (.sl 1 (Yj (Kerb.ec [k])),[]))
 | _,_=>Zy
def zQ:Sp
 | [.int AT k],[]=>aB (Zz (0<=k)&&Zz (k<18446744073709551616)) (Zx (.bool (Kerb.bB k),[]))
 | _,_=>Zy
def ld:Sp
 | [.agg [.str a,.str b,.str c]],[]=>aB (Zz (a.length<=9223372036854775807)&&Zz (b.length<=9223372036854775807)&&Zz (c.length<=9223372036854775807)) (Zx (.bool (Kerb.bn.valid ⟨a,b,c⟩),[]))
 | _,_=>Zy
def Ap:Sp
 | [.bs b,.bs s,.bool li],[]=>aB (Zz (b.length+s.length<=70368744170000)) (Zx (.bs (Kerb.Ch b s li),[]))
 | _,_=>Zy
def nT:Sp
 | [.ptr 0 0],[(0,[.bs B,.int AI at_,.bool li,.bool bad])]=>aB (Zz (B.length<=140737488355328)) (Zx (.agg [.str (Kerb.dN B at_ bad).p.name,.str (Kerb.dN B at_ bad).p.inst,.str (Kerb.dN B at_ bad).p.aK],[[.bs B,.int AI (Kerb.dN B at_ bad).pos,.bool li,.bool (Kerb.dN B at_ bad).bad]]))
 | _,_=>Zy
def QU:Sp
 | [.bs b,.bool By],[]=>aB (Zz (b.length<=70368744177664)) (Zx (.bY (b++Kerb.aJ (cond By 1 0) 1 Zv),[]))
 | _,_=>Zy
def Cy:Sp
 | [.int AT k],[]=>aB (Zz (0<=k)&&Zz (k<18446744073709551616)) (Zx (.int AI (Kerb.iJ k),[]))
 | _,_=>Zy
def vd:Sp
 | [.bs b,.int AI pos],[]=>aB (Zz (b.length<=4611686018427387904)) (Zx (.aQ [.int AI (Zw b pos 1 Zv).val,.int AI (Zw b pos 1 Zv).next,.int AI (Zw b pos 1 Zv).err],[]))
 | _,_=>Zy
def wl:Sp
 | [.bs b,.int AI pos,.bool By],[]=>aB (Zz (b.length<=4611686018427387904)) (Zx (.aQ [.int AI (Zw b pos 4 By).val,.int AI (Zw b pos 4 By).next,.int AI (Zw b pos 4 By).err],[]))
 | _,_=>Zy
def yG:Sp
 | [.bs b,.int AI pos],[]=>aB (Zz (b.length<=4611686018427387904)) (Zx (.aQ [.str (Yw b pos).val,.int AI (Yw b pos).next,.int AI (Yw b pos).err],[]))
 | _,_=>Zy
def tC:Sp
 | [.ptr 0 0,.int AI n],[(0,[.bs B,.int AI at_,.bool bad])]=>aB (Zz (B.length<=140737488355328)) (Zx (.bs (Kerb.dM B n at_ bad).val,[[.bs B,.int AI (Kerb.dM B n at_ bad).pos,.bool (Kerb.dM B n at_ bad).bad]]))
 | _,_=>Zy
def yI:Sp
 | [.ptr 0 0,.int AI n],[(0,[.bs B,.int AI at_,.bool bad])]=>aB (Zz (B.length<=140737488355328)) (Zx (.bs (Kerb.mU B n at_ bad).val,[[.bs B,.int AI (Kerb.mU B n at_ bad).pos,.bool (Kerb.mU B n at_ bad).bad]]))
 | _,_=>Zy
def Q6:Sp
 | [.bs b,.sl 1 els],[]=>aB (o8 els&&Zz (els.length<=1000)) (Zx (.aQ [.bool (Kerb.aM b (iP els)).1,.int AI (Kerb.aM b (iP els)).2],[]))
 | _,_=>Zy
def yL:Sp
 | [.bs b,.int AI pos,.bool By],[]=>aB (Zz (b.length<=4611686018427387904)) (Zx (.aQ [.int AI (Zw b pos 2 By).val,.int AI (Zw b pos 2 By).next,.int AI (Zw b pos 2 By).err],[]))
 | _,_=>Zy
def Jj:Sp
 | [.bs b,.int AI pos,.bool By],[]=>aB (Zz (b.length<=140737488355328)) (Zx (.aQ [.int AI (Zw b pos 4 By).val,.int AI (Zw b pos 4 By).next,.int AI (Zw b pos 4 By).err],[]))
 | _,_=>Zy
def Jl:Sp
 | [.bs b,.int AI pos],[]=>aB (Zz (b.length<=140737488355328)) (Zx (.aQ [.int AI (Zw b pos 1 Zv).val,.int AI (Zw b pos 1 Zv).next,.int AI (Zw b pos 1 Zv).err],[]))
 | _,_=>Zy
def Jm:Sp
 | [.bs b,.int AI pos,.bool By],[]=>aB (Zz (b.length<=140737488355328)) (Zx (.aQ [.int AI (Zw b pos 2 By).val,.int AI (Zw b pos 2 By).next,.int AI (Zw b pos 2 By).err],[]))
 | _,_=>Zy
def qR:Sp
 | [.bs b,.str s],[]=>aB (Zz (b.length+s.length<=70368744177664)) (Zx (.bY (Kerb.bz b s),[]))
 | _,_=>Zy
def sb:Sp
 | [.bs b],[]=>aB (Zz (b.length<=70368744177664)) (Zx (.bs (Kerb.pad b),[]))
 | _,_=>Zy
def CJ:Sp
 | [.int AT k],[]=>aB (Zz (0<=k)&&Zz (k<18446744073709551616)) (Zx (.int AI (Kerb.iJ k),[]))
 | _,_=>Zy
def yN:Sp
 | [.bs b,.int AI n,.int AI k,.bool By],[]=>aB (Zz (k=1\/k=2\/k=4)&&Zz (b.length<=70368744177664)) (Zx (.bY (b++Kerb.aJ n k.toNat By),[]))
 | _,_=>Zy
def Jw:Sp
 | [.bR 0 27 1,.int AI a,.int AI b],[(0,els)]=>aB (Zq els&&Zz ((els.length:Int)<=1152921504606846976)&&Zz (0<=a)&&Zz (a<=b)&&Zz (b<=(els.length:Int))) (Zx (.aQ [],[Kerb.AM els a b]))
 | _,_=>Zy
def JB:Sp
 | [.bR 0 27 1,.int AI a,.int AI b],[(0,els)]=>aB (Zq els&&Zz ((els.length:Int)<=1152921504606846976)&&Zz (0<=a)&&Zz (a<=b)&&Zz (b<=(els.length:Int))&&Zz (a<b)) (Zx (.bool (Kerb.yq els a b).2,[(Kerb.yq els a b).1]))
 | _,_=>Zy
def EM:Sp
 | [.bR 0 27 1,.int AI a,.int AI b,.int AI p],[(0,els)]=>aB (Zq els&&Zz ((els.length:Int)<=1152921504606846976)&&Zz (0<=a)&&Zz (a<=b)&&Zz (b<=(els.length:Int))&&Zz (a<=p)&&Zz (p<b)) (Zx (.int AI (Kerb.F9 els a b p).1,[(Kerb.F9 els a b p).2]))
 | _,_=>Zy
def EN:Sp
 | [.bR 0 27 1,.int AI a,.int AI b,.int AI p],[(0,els)]=>aB (Zq els&&Zz ((els.length:Int)<=1152921504606846976)&&Zz (0<=a)&&Zz (a<=b)&&Zz (b<=(els.length:Int))&&Zz (a<=p)&&Zz (p<b)) (Zx (.aQ [.int AI (Kerb.part els a b p).1,.bool (Kerb.part els a b p).2.1],[(Kerb.part els a b p).2.2]))
 | _,_=>Zy
def RD:Sp
 | [.str s,.u8 c],[]=>Zx (.int AI (Kerb.indexOf c s),[])
 | _,_=>Zy
def EO:Sp
 | [.bR 0 27 1,.int AI lo,.int AI hi,.int AI first],[(0,els)]=>aB (Zq els&&Zz ((els.length:Int)<=1152921504606846976)&&Zz (0<=lo)&&Zz (0<=hi)&&Zz (0<=first)&&Zz (first+hi<=(els.length:Int))&&Zz (lo<=(els.length:Int))) (Zx (.aQ [],[Kerb.sift els lo hi first]))
 | _,_=>Zy
def JD:Sp
 | [.int AI n],[]=>aB (Zz (0<=n)&&Zz (n<=4611686018427387904)) (Zx (.int AT (Kerb.Qn n),[]))
 | _,_=>Zy
def CS:Sp
 | [.bR 0 27 1,.int AI a,.int AI b,.ptr 3 0],[(0,els),(3,[.int AI s])]=>aB (Zq els&&Zz ((els.length:Int)<=1152921504606846976)&&Zz (0<=a)&&Zz (a<(els.length:Int))&&Zz (0<=b)&&Zz (b<(els.length:Int))&&Zz (0<=s)&&Zz (s<=1000)) (Zx (.aQ [.int AI (Kerb.order2 els a b s).1,.int AI (Kerb.order2 els a b s).2.1],[els,[.int AI (Kerb.order2 els a b s).2.2]]))
 | _,_=>Zy
def Oe:Sp
 | [.bs b],[]=>aB (Zz (b.length<=140737488355328)) (Zx (.aQ [.agg [.int AI (Yd b).box.kind,.int AT (Yd b).box.key,.bs (Yd b).box.body],.int AI (Yd b).n,.int AI (Yd b).err],[]))
 | _,_=>Zy
def Lc:Sp
 | [.bs l],[]=>aB (Zz (l.length<=4611686018427387904)) (Zx (.agg [.bool (Yf l).By,.str (Yf l).BY.name,.str (Yf l).BY.inst,.str (Yf l).BY.aK,.int AI (Yf l).address,.int AT (Yf l).ax,.int AI (Yf l).bS,.int AI (Yf l).cL,.str (Yf l).service,.str (Yf l).inst],[]))
 | _,_=>Zy
def Lg:Sp
 | [.agg [.bool li,.str x,.str y,.str z,.int AI t,.int AI ex,.int AI kv,.bs sd]],[]=>aB (Zz (x.length<=9223372036854775807)&&Zz (y.length<=9223372036854775807)&&Zz (z.length<=9223372036854775807)) (Zx (.aQ [.bs (Kerb.bg ⟨li,⟨x,y,z⟩,t,ex,kv,sd⟩).val,.int AI (Kerb.bg ⟨li,⟨x,y,z⟩,t,ex,kv,sd⟩).err],[]))
 | _,_=>Zy
def RM:Sp
 | [.agg [.bool li,.bool mu,.int AI kv,.str rl,.bs tk,.bs au,.int AI tm,.int AI lf,.str sv,.str ins]],[]=>aB (Zz (rl.length<=9223372036854775807)&&Zz (sv.length<=9223372036854775807)&&Zz (ins.length<=9223372036854775807)) (Zx (.aQ [.bs (Kerb.cZ (Kerb.fy.mk (Kerb.cN.mk li mu kv rl tk au) tm lf sv ins)).val,.int AI (Kerb.cZ (Kerb.fy.mk (Kerb.cN.mk li mu kv rl tk au) tm lf sv ins)).err],[]))
 | _,_=>Zy
def WR:Sp
 | [.agg [.int AI op,.str ux,.str uy,.str uz,.int AI kv,.str rl,.bs tk,.str sv,.str ins,.bs bx]],[]=>aB (Zz (ux.length<=9223372036854775807)&&Zz (uy.length<=9223372036854775807)&&Zz (uz.length<=9223372036854775807)&&Zz (rl.length<=9223372036854775807)&&Zz (sv.length<=9223372036854775807)&&Zz (ins.length<=9223372036854775807)) (Zx (.aQ [.bs (Kerb.aP ⟨op,⟨ux,uy,uz⟩,kv,rl,tk,sv,ins,bx⟩).val,.int AI (Kerb.aP ⟨op,⟨ux,uy,uz⟩,kv,rl,tk,sv,ins,bx⟩).err],[]))
 | _,_=>Zy
def Lh:Sp
 | [.agg [.int AI op,.str ux,.str uy,.str uz,.bs bx]],[]=>aB (Zz (ux.length<=9223372036854775807)&&Zz (uy.length<=9223372036854775807)&&Zz (uz.length<=9223372036854775807)) (Zx (.aQ [.bs (Kerb.dE ⟨op,⟨ux,uy,uz⟩,bx⟩).val,.int AI (Kerb.dE ⟨op,⟨ux,uy,uz⟩,bx⟩).err],[]))
 | _,_=>Zy
def WU:Sp
 | [.bs [x]],[]=>Zx (.agg [.str (Kerb.lI x).BY.name,.str (Kerb.lI x).BY.inst,.str (Kerb.lI x).BY.aK,.int AI (Kerb.lI x).dB,.int AI (Kerb.lI x).tick,.int AI (Kerb.lI x).time],[])
 | _,_=>Zy
def Lk:Sp
 | [.agg [.int AT k,.str x,.str y,.str z,.int AI lf,.int AI kv,.bs tk,.int AI t],.bool By],[]=>aB (Zz (x.length<=9223372036854775807)&&Zz (y.length<=9223372036854775807)&&Zz (z.length<=9223372036854775807)&&Zz (0<=k)&&Zz (k<18446744073709551616)) (Zx (.aQ [.bs (Kerb.bp ⟨k,⟨x,y,z⟩,lf,kv,tk,t⟩ By).val,.int AI (Kerb.bp ⟨k,⟨x,y,z⟩,lf,kv,tk,t⟩ By).err],[]))
 | _,_=>Zy
def WV:Sp
 | [.agg [.int AI ck,.int AI tc,.int AI tm],.bool li],[]=>Zx (.aQ [.bs (Kerb.fN ⟨ck,tc,tm⟩ li).val,.int AI (Kerb.fN ⟨ck,tc,tm⟩ li).err],[])
 | _,_=>Zy
def WW:Sp
 | [.agg [.bs dt,.int AI tc,.int AI ad,.int AI tm],.bool li],[]=>Zx (.aQ [.bs (Kerb.eB ⟨dt,tc,ad,tm⟩ li).val,.int AI (Kerb.eB ⟨dt,tc,ad,tm⟩ li).err],[])
 | _,_=>Zy
def Oi:Sp
 | [.agg [.str lb,.int AI t,.int AT k,.int AI st,.int AI en,.int AI kv,.str x,.str y,.str z,.bs tk]],[]=>aB (Zz (x.length<=9223372036854775807)&&Zz (y.length<=9223372036854775807)&&Zz (z.length<=9223372036854775807)&&Zz (0<=k)&&Zz (k<18446744073709551616)) (Zx (.aQ [.bs (Kerb.aZ ⟨lb,t,k,st,en,kv,⟨x,y,z⟩,tk⟩).val,.int AI (Kerb.aZ ⟨lb,t,k,st,en,kv,⟨x,y,z⟩,tk⟩).err],[]))
 | _,_=>Zy
def Oj:Sp
 | [.agg [.str cx,.str cy,.str cz,.str sx,.str sy,.str sz,.int AT k,.int AI t,.int AI e,.int AI a]],[]=>aB (Zz (cx.length<=9223372036854775807)&&Zz (cy.length<=9223372036854775807)&&Zz (cz.length<=9223372036854775807)&&Zz (sx.length<=9223372036854775807)&&Zz (sy.length<=9223372036854775807)&&Zz (sz.length<=9223372036854775807)&&Zz (0<=k)&&Zz (k<18446744073709551616)) (Zx (.aQ [.bs (Kerb.dL ⟨⟨cx,cy,cz⟩,⟨sx,sy,sz⟩,k,t,e,a⟩).val,.int AI (Kerb.dL ⟨⟨cx,cy,cz⟩,⟨sx,sy,sz⟩,k,t,e,a⟩).err],[]))
 | _,_=>Zy
def Ol:Sp
 | [.agg [.int AT k,.str sx,.str sy,.str sz,.int AI t,.int AI e,.bs rc]],[]=>aB (Zz (sx.length<=9223372036854775807)&&Zz (sy.length<=9223372036854775807)&&Zz (sz.length<=9223372036854775807)&&Zz (0<=k)&&Zz (k<18446744073709551616)) (Zx (.aQ [.bs (Kerb.dh ⟨k,⟨sx,sy,sz⟩,t,e,rc⟩).val,.int AI (Kerb.dh ⟨k,⟨sx,sy,sz⟩,t,e,rc⟩).err],[]))
 | _,_=>Zy
def CV:Sp
 | [.sl 1 ks],[]=>aB (Kerb.zs ks) (Zx (.sl 1 (Yj (Kerb.ec (Yk ks))),[]))
 | _,_=>Zy
def jk:Sp
 | [.ptr 0 0],[(0,[.bs B,.int AI at_,.bool li,.bool bad])]=>aB (Zz (B.length<=140737488355328)) (Zx (.int AI (Zw B at_ 4 li).val,[[.bs B,.int AI (cond (bad || !((Zw B at_ 4 li).err==0)) at_ (Zw B at_ 4 li).next),.bool li,.bool (bad || !((Zw B at_ 4 li).err==0))]]))
 | _,_=>Zy
def iH:Sp
 | [.ptr 0 0],[(0,[.bs B,.int AI at_,.bool li,.bool bad])]=>aB (Zz (B.length<=140737488355328)) (Zx (.int AI (Zw B at_ 1 Zv).val,[[.bs B,.int AI (cond (bad || !((Zw B at_ 1 Zv).err==0)) at_ (Zw B at_ 1 Zv).next),.bool li,.bool (bad || !((Zw B at_ 1 Zv).err==0))]]))
 | _,_=>Zy
def oZ:Sp
 | [.ptr 0 0],[(0,[.bs B,.int AI at_,.bool li,.bool bad])]=>aB (Zz (B.length<=140737488355328)) (Zx (.int AI (Zw B at_ 2 li).val,[[.bs B,.int AI (cond (bad || !((Zw B at_ 2 li).err==0)) at_ (Zw B at_ 2 li).next),.bool li,.bool (bad || !((Zw B at_ 2 li).err==0))]]))
 | _,_=>Zy
def I4:Sp
 | [.agg [.bool li,.str x,.str y,.str z,.int AI ad,.int AT k,.int AI lf,.int AI xj,.str sv,.str ins]],[]=>aB (Zz (x.length<=9223372036854775807)&&Zz (y.length<=9223372036854775807)&&Zz (z.length<=9223372036854775807)&&Zz (sv.length<=9223372036854775807)&&Zz (ins.length<=9223372036854775807)&&Zz (0<=k)&&Zz (k<18446744073709551616)) (Zx (.int AI (Kerb.dU.mk li ⟨x,y,z⟩ ad k lf xj sv ins).err,[]))
 | _,_=>Zy
def I6:Sp
 | [.agg [.str x,.str y,.str z,.int AI ck,.int AI tc,.int AI tm]],[]=>aB (Zz (x.length<=9223372036854775807)&&Zz (y.length<=9223372036854775807)&&Zz (z.length<=9223372036854775807)) (Zx (.int AI (Kerb.nJ.mk ⟨x,y,z⟩ ck tc tm).check,[]))
 | _,_=>Zy
def yF:Sp
 | [.bs b],[]=>aB (Zz (b.length<=4611686018427387904)) (Zx (.aQ [.int AT (Kerb.cK b).1,.bool (Kerb.cK b).2],[]))
 | _,_=>Zy
def ve:Sp
 | [.ptr 0 0],[(0,[.bs B,.int AI at_,.bool bad])]=>aB (Zz (B.length<=140737488355328)) (Zx (.int AI (Kerb.gL B 4 at_ bad).val,[[.bs B,.int AI (Kerb.gL B 4 at_ bad).pos,.bool (Kerb.gL B 4 at_ bad).bad]]))
 | _,_=>Zy
def yH:Sp
 | [.ptr 0 0],[(0,[.bs B,.int AI at_,.bool bad])]=>aB (Zz (B.length<=140737488355328)) (Zx (.int AI (Kerb.gL B 1 at_ bad).val,[[.bs B,.int AI (Kerb.gL B 1 at_ bad).pos,.bool (Kerb.gL B 1 at_ bad).bad]]))
 | _,_=>Zy
def wo:Sp
 | [.ptr 0 0],[(0,[.bs B,.int AI at_,.bool bad])]=>aB (Zz (B.length<=140737488355328)) (Zx (.int AI (Kerb.qu B 4 at_ bad).val,[[.bs B,.int AI (Kerb.qu B 4 at_ bad).pos,.bool (Kerb.qu B 4 at_ bad).bad]]))
 | _,_=>Zy
def CB:Sp
 | [.ptr 0 0],[(0,[.bs B,.int AI at_,.bool bad])]=>aB (Zz (B.length<=140737488355328)) (Zx (.int AI (Kerb.qu B 2 at_ bad).val,[[.bs B,.int AI (Kerb.qu B 2 at_ bad).pos,.bool (Kerb.qu B 2 at_ bad).bad]]))
 | _,_=>Zy
def CD:Sp
 | [.bs b],[]=>aB (Zz (b.length<=140737488355328)) (Zx (.aQ [.agg [.bool ((Kerb.ke b).val).By,.bool ((Kerb.ke b).val).c7,.int AI ((Kerb.ke b).val).bt,.str ((Kerb.ke b).val).aK,.bs ((Kerb.ke b).val).aG,.bs ((Kerb.ke b).val).ft],.int AI (Kerb.ke b).next],[]))
 | _,_=>Zy
def Q9:Sp
 | [.ptr 0 0],[(0,[.bs B,.int AI at_,.bool bad])]=>aB (Zz (B.length<=140737488355328)) (Zx (.str (Kerb.mF B at_ bad).val,[[.bs B,.int AI (Kerb.mF B at_ bad).pos,.bool (Kerb.mF B at_ bad).bad]]))
 | _,_=>Zy
def Jg:Sp
 | [.ptr 0 0],[(0,[.bs B,.int AI at_,.bool bad])]=>aB (Zz (B.length<=140737488355328)) (Zx (.int AI (Kerb.gL B 2 at_ bad).val,[[.bs B,.int AI (Kerb.gL B 2 at_ bad).pos,.bool (Kerb.gL B 2 at_ bad).bad]]))
 | _,_=>Zy
def Jh:Sp
 | [.ptr 0 0],[(0,[.bs B,.int AI at_,.bool bad])]=>aB (Zz (B.length<=140737488355328)) (Zx (.int AI (Kerb.qu B 1 at_ bad).val,[[.bs B,.int AI (Kerb.qu B 1 at_ bad).pos,.bool (Kerb.qu B 1 at_ bad).bad]]))
 | _,_=>Zy
def sa:Sp
 | [.bs b,.int AI n],[]=>aB (Zz (b.length<=70368744177664)) (Zx (.bY (b++Kerb.aJ n 1 Zv),[]))
 | _,_=>Zy
def qQ:Sp
 | [.bs b,.agg [.str x,.str y,.str z]],[]=>aB (Zz (b.length+x.length+y.length+z.length<=70368744170000)) (Zx (.bY (Kerb.cW b ⟨x,y,z⟩),[]))
 | _,_=>Zy
def mI:Sp
 | [.bs b,.int AI n,.bool By],[]=>aB (Zz (b.length<=70368744177664)) (Zx (.bY (b++Kerb.aJ n 4 By),[]))
 | _,_=>Zy
def Jo:Sp
 | [.agg [.str lb,.int AI t,.int AI st,.int AI en,.int AT k]],[]=>aB (Zz (0<=k)&&Zz (k<18446744073709551616)) (Zx (.int AI (Kerb.aR ⟨lb,t,st,en,k⟩).err,[]))
 | _,_=>Zy
def CL:Sp
 | [.bs b,.int AI n,.bool By],[]=>aB (Zz (b.length<=70368744177664)) (Zx (.bY (b++Kerb.aJ n 2 By),[]))
 | _,_=>Zy
def Js:Sp
 | [.bs b,.int AI at_,.int AI most,.bool li],[]=>aB (Zz (b.length<=140737488355328)) (Zx (.aQ [.bs (Kerb.ew b at_ most li).val,.int AI (Kerb.ew b at_ most li).next,.bool (Kerb.ew b at_ most li).ok],[]))
 | _,_=>Zy
def CP:Sp
 | [.str s,.str bad],[]=>aB (Zz (s.length<=9223372036854775807)) (Zx (.bool (Kerb.eW s bad),[]))
 | _,_=>Zy
def Jx:Sp
 | [.bR 0 27 1,.int AI a,.int AI b],[(0,els)]=>aB (Zq els&&Zz ((els.length:Int)<=1152921504606846976)&&Zz (0<=a)&&Zz (a<=b)&&Zz (b<=(els.length:Int))) (Zx (.aQ [],[Kerb.LW els a b]))
 | _,_=>Zy
def Jy:Sp
 | [.bR 0 27 1,.int AI a,.int AI b],[(0,els)]=>aB (Zq els&&Zz ((els.length:Int)<=1152921504606846976)&&Zz (0<=a)&&Zz (a<=b)&&Zz (b<=(els.length:Int))) (Zx (.aQ [],[Kerb.E8 els a b]))
 | _,_=>Zy
def Ar:Sp
 | [.bR 0 27 1,.int AI a,.int AI b,.int AI c,.ptr 4 0],[(0,els),(4,[.int AI s])]=>aB (Zq els&&Zz ((els.length:Int)<=1152921504606846976)&&Zz (0<=a)&&Zz (a<(els.length:Int))&&Zz (0<=b)&&Zz (b<(els.length:Int))&&Zz (0<=c)&&Zz (c<(els.length:Int))&&Zz (0<=s)&&Zz (s<=900)) (Zx (.int AI (Kerb.median els a b c s).1,[els,[.int AI (Kerb.median els a b c s).2]]))
 | _,_=>Zy
def RQ:Sp
 | [.bs b],[]=>aB (Zz (b.length<=140737488355328)) (Zx (.aQ [.agg [.bool ((Zn b).val).By,.str ((Zn b).val).BY.name,.str ((Zn b).val).BY.inst,.str ((Zn b).val).BY.aK,.int AI ((Zn b).val).time,.int AI ((Zn b).val).cJ,.int AI ((Zn b).val).bt,.bs ((Zn b).val).cI],.int AI (Zn b).err],[]))
 | _,_=>Zy
def RU:Sp
 | [.bs b],[]=>aB (Zz (b.length<=140737488355328)) (Zx (.aQ [.bs (Kerb.g9 b).val,.bool (Kerb.g9 b).By,.int AI (Kerb.g9 b).err],[]))
 | _,_=>Zy
def RV:Sp
 | [.bs b],[]=>aB (Zz (b.length<=140737488355328)) (Zx (.aQ [.bs (Yv b).plain,.bs (Yv b).cI,.bool (Yv b).By,.int AI (Yv b).err],[]))
 | _,_=>Zy
def RW:Sp
 | [.bs b],[]=>aB (Zz (b.length<=140737488355328)) (Zx (.aQ [.agg [.int AI ((Zf b).val).op,.str ((Zf b).val).user.name,.str ((Zf b).val).user.inst,.str ((Zf b).val).user.aK,.int AI ((Zf b).val).bt,.str ((Zf b).val).aK,.bs ((Zf b).val).aG,.str ((Zf b).val).service,.str ((Zf b).val).inst,.bs ((Zf b).val).box],.int AI (Zf b).err],[]))
 | _,_=>Zy
def RX:Sp
 | [.bs b],[]=>aB (Zz (b.length<=140737488355328)) (Zx (.aQ [.agg [.int AI ((Kerb.cD b).val).op,.int AI ((Kerb.cD b).val).code,.bs ((Kerb.cD b).val).box],.int AI (Kerb.cD b).err],[]))
 | _,_=>Zy
def RY:Sp
 | [.bs b],[]=>aB (Zz (b.length<=140737488355328)) (Zx (.aQ [.agg [.int AI ((Yu b).val).op,.str ((Yu b).val).name.name,.str ((Yu b).val).name.inst,.str ((Yu b).val).name.aK,.bs ((Yu b).val).box],.int AI (Yu b).err],[]))
 | _,_=>Zy
def Lj:Sp
 | [.agg [.bool li,.str x,.str y,.str z,.int AI ad,.int AT k,.int AI lf,.int AI xj,.str sv,.str ins]],[]=>aB (Zz (x.length<=9223372036854775807)&&Zz (y.length<=9223372036854775807)&&Zz (z.length<=9223372036854775807)&&Zz (sv.length<=9223372036854775807)&&Zz (ins.length<=9223372036854775807)&&Zz (0<=k)&&Zz (k<18446744073709551616)) (Zx (.aQ [.bs (Kerb.bC (Kerb.dU.mk li ⟨x,y,z⟩ ad k lf xj sv ins)).val,.int AI (Kerb.bC (Kerb.dU.mk li ⟨x,y,z⟩ ad k lf xj sv ins)).err],[]))
 | _,_=>Zy
def R2:Sp
 | [.agg [.str x,.str y,.str z,.int AI ck,.int AI tc,.int AI tm],.bool li],[]=>aB (Zz (x.length<=9223372036854775807)&&Zz (y.length<=9223372036854775807)&&Zz (z.length<=9223372036854775807)) (Zx (.aQ [.bs (Kerb.je (Kerb.nJ.mk ⟨x,y,z⟩ ck tc tm) li).val,.int AI (Kerb.je (Kerb.nJ.mk ⟨x,y,z⟩ ck tc tm) li).err],[]))
 | _,_=>Zy
def On:Sp
 | [.bs b,.bool By],[]=>aB (Zz (b.length<=140737488355328)) (Zx (.aQ [.agg [.int AT ((Zb b By).val).ax,.str ((Zb b By).val).service.name,.str ((Zb b By).val).service.inst,.str ((Zb b By).val).service.aK,.int AI ((Zb b By).val).bS,.int AI ((Zb b By).val).bt,.bs ((Zb b By).val).aG,.int AI ((Zb b By).val).time],.int AI (Zb b By).err],[]))
 | _,_=>Zy
def R9:Sp
 | [.bs b],[]=>aB (Zz (b.length<=140737488355328)) (Zx (.aQ [.agg [.str ((Yq b).val).label,.int AI ((Yq b).val).time,.int AI ((Yq b).val).start,.int AI ((Yq b).val).stop,.int AT ((Yq b).val).new],.int AI (Yq b).err],[]))
 | _,_=>Zy
def R_:Sp
 | [.bs b],[]=>aB (Zz (b.length<=140737488355328)) (Zx (.aQ [.agg [.str ((Zp b).val).label,.int AI ((Zp b).val).time,.int AT ((Zp b).val).ax,.int AI ((Zp b).val).start,.int AI ((Zp b).val).stop,.int AI ((Zp b).val).bt,.str ((Zp b).val).service.name,.str ((Zp b).val).service.inst,.str ((Zp b).val).service.aK,.bs ((Zp b).val).aG],.int AI (Zp b).err],[]))
 | _,_=>Zy
def Sa:Sp
 | [.bs b],[]=>aB (Zz (b.length<=140737488355328)) (Zx (.aQ [.agg [.str ((Zj b).val).BY.name,.str ((Zj b).val).BY.inst,.str ((Zj b).val).BY.aK,.str ((Zj b).val).service.name,.str ((Zj b).val).service.inst,.str ((Zj b).val).service.aK,.int AT ((Zj b).val).ax,.int AI ((Zj b).val).start,.int AI ((Zj b).val).stop,.int AI ((Zj b).val).addr],.int AI (Zj b).err],[]))
 | _,_=>Zy
def Sb:Sp
 | [.bs b],[]=>aB (Zz (b.length<=140737488355328)) (Zx (.aQ [.agg [.int AT ((Zm b).val).ax,.str ((Zm b).val).service.name,.str ((Zm b).val).service.inst,.str ((Zm b).val).service.aK,.int AI ((Zm b).val).start,.int AI ((Zm b).val).stop,.bs ((Zm b).val).record],.int AI (Zm b).err],[]))
 | _,_=>Zy
def Cx:Sp
 | [.agg [.bs dt,.int AI tc,.int AI ad,.int AI tm],.bool li,.int AI kd,.int AT k],[]=>aB (Zz (0<=k)&&Zz (k<18446744073709551616)) (Zx (.aQ [.bs (Kerb.lS ⟨dt,tc,ad,tm⟩ li kd k).text,.bs (Kerb.lS ⟨dt,tc,ad,tm⟩ li kd k).box,.int AI (Kerb.lS ⟨dt,tc,ad,tm⟩ li kd k).err],[]))
 | _,_=>Zy
def I3:Sp
 | [.bs b],[]=>aB (Zz (b.length<=140737488355328)) (Zx (.bool (Kerb.oF b),[]))
 | _,_=>Zy
def Cz:Sp
 | [.ptr 0 0],[(0,[.bs B,.int AI at_,.bool bad])]=>aB (Zz (B.length<=140737488355328)) (Zx (.int AT (Kerb.zG B at_ bad).val,[[.bs B,.int AI (Kerb.zG B at_ bad).pos,.bool (Kerb.zG B at_ bad).bad]]))
 | _,_=>Zy
def I9:Sp
 | [.agg [.str lb,.int AI t,.int AI st,.int AI en,.int AT k]],[]=>aB (Zz (0<=k)&&Zz (k<18446744073709551616)) (Zx (.aQ [.bs (Kerb.aR ⟨lb,t,st,en,k⟩).val,.int AI (Kerb.aR ⟨lb,t,st,en,k⟩).err],[]))
 | _,_=>Zy
def CA:Sp
 | [.ptr 0 0],[(0,[.bs B,.int AI at_,.bool bad])]=>aB (Zz (B.length<=140737488355328)) (Zx (.int AT (Kerb.xQ B at_ bad).val,[[.bs B,.int AI (Kerb.xQ B at_ bad).pos,.bool (Kerb.xQ B at_ bad).bad]]))
 | _,_=>Zy
def Jc:Sp
 | [.bs b],[]=>aB (Zz (b.length<=140737488355328)) (Zx (.aQ [.agg [.int AI (Yd b).box.kind,.int AT (Yd b).box.key,.bs (Yd b).box.body],.int AI (Yd b).n,.int AI (Yd b).err],[]))
 | _,_=>Zy
def Q8:Sp
 | [.bs s,.bool li],[]=>Zx (.aQ [.bs (Kerb.cj s li).val,.int AI (Kerb.cj s li).err],[])
 | _,_=>Zy
def Jf:Sp
 | [.bs b],[]=>aB (Zz (b.length<=140737488355328)) (Zx (.aQ [.int AI (Yv b).kind,.bs (Yv b).plain,.bs (Yv b).cI,.bool (Yv b).By,.int AI (Yv b).err],[]))
 | _,_=>Zy
def CI:Sp
 | [.bs b,.bs t],[]=>aB (Zz (b.length+t.length<=70368744170000)) (Zx (.bs (Kerb.kh b t),[]))
 | _,_=>Zy
def CK:Sp
 | [.bs b,.bs t],[]=>aB (Zz (b.length+t.length<=70368744170000)) (Zx (.bs (Kerb.dQ b t),[]))
 | _,_=>Zy
def vg:Sp
 | [.str s],[]=>aB (Zz (s.length<=9223372036854775807)) (Zx (.bool (Kerb.validName s),[]))
 | _,_=>Zy
def sc:Sp
 | [.str s],[]=>aB (Zz (s.length<=9223372036854775807)) (Zx (.bool (Kerb.cA s),[]))
 | _,_=>Zy
def Aq:Sp
 | [.bs b,.bs t],[]=>aB (Zz (b.length+t.length<=70368744170000)) (Zx (.bs (Kerb.dQ b t),[]))
 | _,_=>Zy
def CQ:Sp
 | [.bR 0 27 1,.int AI a,.ptr 2 0],[(0,els),(2,[.int AI s])]=>aB (Zq els&&Zz ((els.length:Int)<=1152921504606846976)&&Zz (1<=a)&&Zz (a+1<(els.length:Int))&&Zz (0<=s)&&Zz (s<=800)) (Zx (.int AI (Kerb.FT els a s).1,[els,[.int AI (Kerb.FT els a s).2]]))
 | _,_=>Zy
def Ro:Sp
 | [.agg [.bool li,.str x,.str y,.str z,.int AI ad,.int AT k,.int AI lf,.int AI xj,.str sv,.str ins],.int AT key],[]=>aB (Zz (x.length<=9223372036854775807)&&Zz (y.length<=9223372036854775807)&&Zz (z.length<=9223372036854775807)&&Zz (sv.length<=9223372036854775807)&&Zz (ins.length<=9223372036854775807)&&Zz (0<=k)&&Zz (k<18446744073709551616)&&Zz (0<=key)&&Zz (key<18446744073709551616)) (Zx (.aQ [.bs (Kerb.gS (Kerb.dU.mk li ⟨x,y,z⟩ ad k lf xj sv ins) key).val,.int AI (Kerb.gS (Kerb.dU.mk li ⟨x,y,z⟩ ad k lf xj sv ins) key).err],[]))
 | _,_=>Zy
def RN:Sp
 | [.agg [.bs dt,.int AI tc,.int AI ad,.int AI tm],.bool li,.int AT k],[]=>aB (Zz (0<=k)&&Zz (k<18446744073709551616)) (Zx (.aQ [.bs (Kerb.rQ ⟨dt,tc,ad,tm⟩ li k).val,.int AI (Kerb.rQ ⟨dt,tc,ad,tm⟩ li k).err],[]))
 | _,_=>Zy
def RO:Sp
 | [.agg [.bs dt,.int AI tc,.int AI ad,.int AI tm],.bool li,.int AT k],[]=>aB (Zz (0<=k)&&Zz (k<18446744073709551616)) (Zx (.aQ [.bs (Kerb.rP ⟨dt,tc,ad,tm⟩ li k).val,.int AI (Kerb.rP ⟨dt,tc,ad,tm⟩ li k).err],[]))
 | _,_=>Zy
def vh:Sp
 | [.sl 1 bs],[]=>aB (Kerb.q_ bs) (Zx (.sl 1 (Yx (Kerb.gC (Yp bs))),[]))
 | _,_=>Zy
def RR:Sp
 | [.bs b],[]=>aB (Zz (b.length<=140737488355328)) (Zx (.aQ [.agg [.bool ((Yy b).val).By,.bool ((Yy b).val).c7,.int AI ((Yy b).val).bt,.str ((Yy b).val).aK,.bs ((Yy b).val).aG,.bs ((Yy b).val).ft],.int AI (Yy b).err],[]))
 | _,_=>Zy
def RS:Sp
 | [.bs b],[]=>aB (Zz (b.length<=140737488355328)) (Zx (.aQ [.agg [.bool ((Zk b).val).ap.By,.bool ((Zk b).val).ap.c7,.int AI ((Zk b).val).ap.bt,.str ((Zk b).val).ap.aK,.bs ((Zk b).val).ap.aG,.bs ((Zk b).val).ap.ft,.int AI ((Zk b).val).time,.int AI ((Zk b).val).bS,.str ((Zk b).val).service,.str ((Zk b).val).inst],.int AI (Zk b).err],[]))
 | _,_=>Zy
def R4:Sp
 | [.bs b],[]=>aB (Zz (b.length<=140737488355328)) (Zx (.aQ [.agg [.str ((Yq b).val).label,.int AI ((Yq b).val).time,.int AI ((Yq b).val).start,.int AI ((Yq b).val).stop,.int AT ((Yq b).val).new],.int AI (Yq b).err],[]))
 | _,_=>Zy
def R8:Sp
 | [.bs b],[]=>aB (Zz (b.length<=140737488355328)) (Zx (.aQ [.agg [.bool ((Zd b).val).By,.str ((Zd b).val).BY.name,.str ((Zd b).val).BY.inst,.str ((Zd b).val).BY.aK,.int AI ((Zd b).val).address,.int AT ((Zd b).val).ax,.int AI ((Zd b).val).bS,.int AI ((Zd b).val).cL,.str ((Zd b).val).service,.str ((Zd b).val).inst],.int AI (Zd b).err],[]))
 | _,_=>Zy
def IU:Sp
 | [.bs b],[]=>aB (Zz (b.length<=140737488355328)) (Zx (.bool (Kerb.oF b),[]))
 | _,_=>Zy
def IY:Sp
 | [.bs b],[]=>aB (Zz (b.length<=140737488355328)) (Zx (.aQ [.bs (Kerb.g9 b).val,.bool (Kerb.g9 b).By,.int AI (Kerb.g9 b).err],[]))
 | _,_=>Zy
def IZ:Sp
 | [.bs b],[]=>aB (Zz (b.length<=140737488355328)) (Zx (.aQ [.bs (Yv b).plain,.bs (Yv b).cI,.bool (Yv b).By,.int AI (Yv b).err],[]))
 | _,_=>Zy
def Q':Sp
 | [.agg [.int AI op,.int AI cd,.bs bx]],[]=>Zx (.aQ [.bs (Kerb.bw ⟨op,cd,bx⟩).val,.int AI (Kerb.bw ⟨op,cd,bx⟩).err],[])
 | _,_=>Zy
def CM:Sp
 | [.str s],[]=>aB (Zz (s.length<=9223372036854775807)) (Zx (.bool (Kerb.dO s),[]))
 | _,_=>Zy
def Jz:Sp
 | [.bR 0 27 1,.int AI a,.int AI b],[(0,els)]=>aB (Zq els&&Zz ((els.length:Int)<=1152921504606846976)&&Zz (0<=a)&&Zz (a<=b)&&Zz (b<=(els.length:Int))&&Zz (a+8<=b)) (Zx (.aQ [.int AI (Kerb.Iw els a b).1,.int AI (Kerb.HD (Kerb.Iw els a b).2)],[els]))
 | _,_=>Zy
def WM:Sp
 | [.bs b],[]=>aB (Zz (b.length<=70368744170000)) (Zx (.sl 1 (Yx (Kerb.partsOf b)),[]))
 | _,_=>Zy
def TN:Sp
 | [.agg [.int AI kd,.int AT k,.bs b]],[]=>aB (Zz (b.length<=70368744170000)) (Zx (.aQ [.sl 1 (Yj (Kerb.ij ⟨kd,k,b⟩).keys),.sl 1 (Yx (Kerb.ij ⟨kd,k,b⟩).boxes)],[]))
 | _,_=>Zy
def WO:Sp
 | [.agg [.u8 kd,.u8 bx,.u8 se,.u8 gV,.u8 de,.bool li,.int .u16 hw]],[]=>Zx (.bs (Kerb.o7 gV de),[])
 | _,_=>Zy
def DM:Sp
 | [.sl 1 bs],[]=>aB (Kerb.q_ bs) (Zx (.sl 1 (Yx (Kerb.gC (Yp bs))),[]))
 | _,_=>Zy
def I1:Sp
 | [.bs b],[]=>aB (Zz (b.length<=140737488355328)) (Zx (.aQ [.agg [.int AI ((Kerb.cD b).val).op,.int AI ((Kerb.cD b).val).code,.bs ((Kerb.cD b).val).box],.int AI (Kerb.cD b).err],[]))
 | _,_=>Zy
def CE:Sp
 | [.agg [.bool li,.bool mu,.int AI kv,.str rl,.bs tk,.bs au]],[]=>aB (Zz (rl.length<=9223372036854775807)) (Zx (.aQ [.bs (Kerb.bh (Kerb.cN.mk li mu kv rl tk au)).val,.int AI (Kerb.bh (Kerb.cN.mk li mu kv rl tk au)).err],[]))
 | _,_=>Zy
def nU:Sp
 | [.agg [.str a,.str b,.str c]],[]=>aB (Zz (a.length<=9223372036854775807)&&Zz (b.length<=9223372036854775807)&&Zz (c.length<=9223372036854775807)) (Zx (.bool (Kerb.bn.valid ⟨a,b,c⟩),[]))
 | _,_=>Zy
def u7(mn:Nat):Sp
 | [.bR 0 27 1,.int AI a,.int AI b,.int AI l],[(0,els)]=>aB ((Zq els&&Zz ((els.length:Int)<=1152921504606846976)&&Kerb.nn a&&Zz (a<=b)&&Zz (b<=(els.length:Int))&&Zz (0<=l)&&Zz (l<=64))&&Zz (b-a<(mn:Int))) (Zx (.aQ [],[Kerb.Qm els a b l]))
 | _,_=>Zy
def EL:Sp
 | [.bR 0 27 1,.int AI a,.int AI b,.int AI l],[(0,els)]=>aB (Zq els&&Zz ((els.length:Int)<=1152921504606846976)&&Kerb.nn a&&Zz (a<=b)&&Zz (b<=(els.length:Int))&&Zz (0<=l)&&Zz (l<=64)) (Zx (.aQ [],[Kerb.Qm els a b l]))
 | _,_=>Zy
def I5:Sp
 | [.agg [.u8 kd,.u8 bx,.u8 se,.u8 gV,.u8 de,.bool li,.int .u16 hw]],[]=>aB (Zz (0<=hw)&&Zz (hw<=65535)) (Zx (.bs (Kerb.tV ⟨kd,bx,se,gV,de,li,hw⟩),[]))
 | _,_=>Zy
def Ob(mn:Nat):Sp
 | [.agg [.sl 1 ks,.sl 1 bs],.bs b],[]=>aB ((Yz ks bs&&Zz (b.length<=70368744170000))&&Zz ((b.length:Int)<(mn:Int))) (Zx (.bool (Kerb.bZ (Zu ks bs) b),[]))
 | _,_=>Zy
def Le:Sp
 | [.agg [.sl 1 ks,.sl 1 bs],.bs b],[]=>aB (Yz ks bs&&Zz (b.length<=70368744170000)) (Zx (.bool (Kerb.bZ (Zu ks bs) b),[]))
 | _,_=>Zy
def EI(mn:Nat):Sp
 | [.agg [.sl 1 ks,.sl 1 bs]],[]=>aB ((Yz ks bs)&&Zz ((Kerb.mi (Zu ks bs):Int)<(mn:Int))) (Zx (.agg [.sl 1 (Yj (Kerb.close (Zu ks bs)).keys),.sl 1 (Yx (Kerb.close (Zu ks bs)).boxes)],[]))
 | _,_=>Zy
def Ms:Sp
 | [.agg [.sl 1 ks,.sl 1 bs]],[]=>aB (Yz ks bs) (Zx (.agg [.sl 1 (Yj (Kerb.close (Zu ks bs)).keys),.sl 1 (Yx (Kerb.close (Zu ks bs)).boxes)],[]))
 | _,_=>Zy
def IW:Sp
 | [.bs b],[]=>aB (Zz (b.length<=140737488355328)) (Zx (.aQ [.agg [.bool ((Yy b).val).By,.bool ((Yy b).val).c7,.int AI ((Yy b).val).bt,.str ((Yy b).val).aK,.bs ((Yy b).val).aG,.bs ((Yy b).val).ft],.int AI (Yy b).err],[]))
 | _,_=>Zy
def yE:Sp
 | [.bs b,.int AI pos],[]=>aB (Zz (b.length<=4611686018427387904)) (Zx (.aQ [.agg [.str (Kerb.gM b pos).val.name,.str (Kerb.gM b pos).val.inst,.str (Kerb.gM b pos).val.aK],.int AI (Kerb.gM b pos).next,.int AI (Kerb.gM b pos).err],[]))
 | _,_=>Zy
def I8:Sp
 | [.agg [.int AT k,.str x,.str y,.str z,.int AI lf,.int AI kv,.bs tk,.int AI t],.bool By],[]=>aB (Zz (x.length<=9223372036854775807)&&Zz (y.length<=9223372036854775807)&&Zz (z.length<=9223372036854775807)&&Zz (0<=k)&&Zz (k<18446744073709551616)) (Zx (.aQ [.bs (Kerb.bp ⟨k,⟨x,y,z⟩,lf,kv,tk,t⟩ By).val,.int AI (Kerb.bp ⟨k,⟨x,y,z⟩,lf,kv,tk,t⟩ By).err],[]))
 | _,_=>Zy
def Ja:Sp
 | [.agg [.str cx,.str cy,.str cz,.str sx,.str sy,.str sz,.int AT k,.int AI t,.int AI e,.int AI a]],[]=>aB (Zz (cx.length<=9223372036854775807)&&Zz (cy.length<=9223372036854775807)&&Zz (cz.length<=9223372036854775807)&&Zz (sx.length<=9223372036854775807)&&Zz (sy.length<=9223372036854775807)&&Zz (sz.length<=9223372036854775807)&&Zz (0<=k)&&Zz (k<18446744073709551616)) (Zx (.aQ [.bs (Kerb.dL ⟨⟨cx,cy,cz⟩,⟨sx,sy,sz⟩,k,t,e,a⟩).val,.int AI (Kerb.dL ⟨⟨cx,cy,cz⟩,⟨sx,sy,sz⟩,k,t,e,a⟩).err],[]))
 | _,_=>Zy
def Jb:Sp
 | [.agg [.int AT k,.str sx,.str sy,.str sz,.int AI t,.int AI e,.bs rc]],[]=>aB (Zz (sx.length<=9223372036854775807)&&Zz (sy.length<=9223372036854775807)&&Zz (sz.length<=9223372036854775807)&&Zz (0<=k)&&Zz (k<18446744073709551616)) (Zx (.aQ [.bs (Kerb.dh ⟨k,⟨sx,sy,sz⟩,t,e,rc⟩).val,.int AI (Kerb.dh ⟨k,⟨sx,sy,sz⟩,t,e,rc⟩).err],[]))
 | _,_=>Zy
def Jd:Sp
 | [.agg [.bool li,.str x,.str y,.str z,.int AI t,.int AI ex,.int AI kv,.bs sd]],[]=>aB (Zz (x.length<=9223372036854775807)&&Zz (y.length<=9223372036854775807)&&Zz (z.length<=9223372036854775807)) (Zx (.aQ [.bs (Kerb.bg ⟨li,⟨x,y,z⟩,t,ex,kv,sd⟩).val,.int AI (Kerb.bg ⟨li,⟨x,y,z⟩,t,ex,kv,sd⟩).err],[]))
 | _,_=>Zy
def Je:Sp
 | [.agg [.bool li,.bool mu,.int AI kv,.str rl,.bs tk,.bs au,.int AI tm,.int AI lf,.str sv,.str ins]],[]=>aB (Zz (rl.length<=9223372036854775807)&&Zz (sv.length<=9223372036854775807)&&Zz (ins.length<=9223372036854775807)) (Zx (.aQ [.bs (Kerb.cZ (Kerb.fy.mk (Kerb.cN.mk li mu kv rl tk au) tm lf sv ins)).val,.int AI (Kerb.cZ (Kerb.fy.mk (Kerb.cN.mk li mu kv rl tk au) tm lf sv ins)).err],[]))
 | _,_=>Zy
def Ji:Sp
 | [.agg [.int AI op,.str ux,.str uy,.str uz,.bs bx]],[]=>aB (Zz (ux.length<=9223372036854775807)&&Zz (uy.length<=9223372036854775807)&&Zz (uz.length<=9223372036854775807)) (Zx (.aQ [.bs (Kerb.dE ⟨op,⟨ux,uy,uz⟩,bx⟩).val,.int AI (Kerb.dE ⟨op,⟨ux,uy,uz⟩,bx⟩).err],[]))
 | _,_=>Zy
def Rh:Sp
 | [.agg [.bool li,.str x,.str y,.str z,.int AI ad,.int AT k,.int AI lf,.int AI xj,.str sv,.str ins]],[]=>aB (Zz (x.length<=9223372036854775807)&&Zz (y.length<=9223372036854775807)&&Zz (z.length<=9223372036854775807)&&Zz (sv.length<=9223372036854775807)&&Zz (ins.length<=9223372036854775807)&&Zz (0<=k)&&Zz (k<18446744073709551616)) (Zx (.int AI (Kerb.dU.mk li ⟨x,y,z⟩ ad k lf xj sv ins).err,[]))
 | _,_=>Zy
def Jp:Sp
 | [.agg [.str lb,.int AI t,.int AT k,.int AI st,.int AI en,.int AI kv,.str x,.str y,.str z,.bs tk]],[]=>aB (Zz (x.length<=9223372036854775807)&&Zz (y.length<=9223372036854775807)&&Zz (z.length<=9223372036854775807)&&Zz (0<=k)&&Zz (k<18446744073709551616)) (Zx (.int AI (Kerb.aZ ⟨lb,t,k,st,en,kv,⟨x,y,z⟩,tk⟩).err,[]))
 | _,_=>Zy
def Jq:Sp
 | [.bR 0 27 1],[(0,els)]=>aB (Zq els&&Zz ((els.length:Int)<=1152921504606846976)) (Zx (.aQ [],[Kerb.Ao els]))
 | _,_=>Zy
def Jt:Sp
 | [.agg [.int AI op,.str ux,.str uy,.str uz,.int AI kv,.str rl,.bs tk,.str sv,.str ins,.bs bx]],[]=>aB (Zz (ux.length<=9223372036854775807)&&Zz (uy.length<=9223372036854775807)&&Zz (uz.length<=9223372036854775807)&&Zz (rl.length<=9223372036854775807)&&Zz (sv.length<=9223372036854775807)&&Zz (ins.length<=9223372036854775807)) (Zx (.int AI (Kerb.aP ⟨op,⟨ux,uy,uz⟩,kv,rl,tk,sv,ins,bx⟩).err,[]))
 | _,_=>Zy
def XP:Sp
 | [.agg [.u8 kd,.u8 bx,.u8 se,.u8 gV,.u8 de,.bool li,.int .u16 hw]],[]=>aB (Zz (0<=hw)&&Zz (hw<=65535)) (Zx (.bs (Kerb.nR ⟨kd,bx,se,gV,de,li,hw⟩),[]))
 | _,_=>Zy
def RE:Sp
 | [.agg [.sl 1 ks,.sl 1 bs],.bs b],[]=>aB (Yz ks bs&&Zz (Kerb.mi (Zu ks bs)+2*b.length+2100<=1000000)) (Zx (.agg [.sl 1 (Yj (Kerb.learn (Zu ks bs) b).keys),.sl 1 (Yx (Kerb.learn (Zu ks bs) b).boxes)],[]))
 | _,_=>Zy
def RI:Sp
 | [.agg [.sl 1 ks,.sl 1 bs],.int AT k],[]=>aB (Yz ks bs&&Zz (0<=k)&&Zz (k<18446744073709551616)&&Zz (Kerb.mi (Zu ks bs)+1<=1000000)) (Zx (.agg [.sl 1 (Yj (Kerb.leak (Zu ks bs) k).keys),.sl 1 (Yx (Kerb.leak (Zu ks bs) k).boxes)],[]))
 | _,_=>Zy
def RK:Sp
 | [.agg [.sl 1 ks,.sl 1 bs],.bs b],[]=>aB (Yz ks bs&&Zz (b.length<=70368744160000)) (Zx (.bool (Kerb.vn (Zu ks bs) b),[]))
 | _,_=>Zy
def Om:Sp
 | [.bs b,.bool By],[]=>aB (Zz (b.length<=140737488355328)) (Zx (.aQ [.agg [.int AT ((Zb b By).val).ax,.str ((Zb b By).val).service.name,.str ((Zb b By).val).service.inst,.str ((Zb b By).val).service.aK,.int AI ((Zb b By).val).bS,.int AI ((Zb b By).val).bt,.bs ((Zb b By).val).aG,.int AI ((Zb b By).val).time],.int AI (Zb b By).err],[]))
 | _,_=>Zy
def IV:Sp
 | [.bs b],[]=>aB (Zz (b.length<=140737488355328)) (Zx (.aQ [.agg [.bool ((Zn b).val).By,.str ((Zn b).val).BY.name,.str ((Zn b).val).BY.inst,.str ((Zn b).val).BY.aK,.int AI ((Zn b).val).time,.int AI ((Zn b).val).cJ,.int AI ((Zn b).val).bt,.bs ((Zn b).val).cI],.int AI (Zn b).err],[]))
 | _,_=>Zy
def IX:Sp
 | [.bs b],[]=>aB (Zz (b.length<=140737488355328)) (Zx (.aQ [.agg [.bool ((Zk b).val).ap.By,.bool ((Zk b).val).ap.c7,.int AI ((Zk b).val).ap.bt,.str ((Zk b).val).ap.aK,.bs ((Zk b).val).ap.aG,.bs ((Zk b).val).ap.ft,.int AI ((Zk b).val).time,.int AI ((Zk b).val).bS,.str ((Zk b).val).service,.str ((Zk b).val).inst],.int AI (Zk b).err],[]))
 | _,_=>Zy
def I7:Sp
 | [.agg [.bool li,.str x,.str y,.str z,.int AI ad,.int AT k,.int AI lf,.int AI xj,.str sv,.str ins]],[]=>aB (Zz (x.length<=9223372036854775807)&&Zz (y.length<=9223372036854775807)&&Zz (z.length<=9223372036854775807)&&Zz (sv.length<=9223372036854775807)&&Zz (ins.length<=9223372036854775807)&&Zz (0<=k)&&Zz (k<18446744073709551616)) (Zx (.aQ [.bs (Kerb.bC (Kerb.dU.mk li ⟨x,y,z⟩ ad k lf xj sv ins)).val,.int AI (Kerb.bC (Kerb.dU.mk li ⟨x,y,z⟩ ad k lf xj sv ins)).err],[]))
 | _,_=>Zy
def I_:Sp
 | [.ptr 0 0],[(0,[.bs B,.int AI at_,.bool bad])]=>aB (Zz (B.length<=140737488355328)) (Zx (.agg [.str (Kerb.nr B at_ bad).val.name,.str (Kerb.nr B at_ bad).val.inst,.str (Kerb.nr B at_ bad).val.aK],[[.bs B,.int AI (Kerb.nr B at_ bad).pos,.bool (Kerb.nr B at_ bad).bad]]))
 | _,_=>Zy
def I':Sp
 | [.agg [.str lb,.int AI t,.int AT k,.int AI st,.int AI en,.int AI kv,.str x,.str y,.str z,.bs tk]],[]=>aB (Zz (x.length<=9223372036854775807)&&Zz (y.length<=9223372036854775807)&&Zz (z.length<=9223372036854775807)&&Zz (0<=k)&&Zz (k<18446744073709551616)) (Zx (.aQ [.bs (Kerb.aZ ⟨lb,t,k,st,en,kv,⟨x,y,z⟩,tk⟩).val,.int AI (Kerb.aZ ⟨lb,t,k,st,en,kv,⟨x,y,z⟩,tk⟩).err],[]))
 | _,_=>Zy
def wm:Sp
 | [.ptr 0 0],[(0,[.bs B,.int AI at_,.bool bad])]=>aB (Zz (B.length<=140737488355328)) (Zx (.agg [.str (Kerb.lX B at_ bad).val.name,.str (Kerb.lX B at_ bad).val.inst,.str (Kerb.lX B at_ bad).val.aK],[[.bs B,.int AI (Kerb.lX B at_ bad).pos,.bool (Kerb.lX B at_ bad).bad]]))
 | _,_=>Zy
def Q3:Sp
 | [.sl 1 l,.int AT k],[]=>aB (Zq l&&Kerb.MD (Kerb.Dc l k)&&Zz ((l.length:Int)<=100000000)) (Zx (.aH (Kerb.Dc l k),[]))
 | _,_=>Zy
def Q_:Sp
 | [.agg [.int AI op,.str ux,.str uy,.str uz,.int AI kv,.str rl,.bs tk,.str sv,.str ins,.bs bx]],[]=>aB (Zz (ux.length<=9223372036854775807)&&Zz (uy.length<=9223372036854775807)&&Zz (uz.length<=9223372036854775807)&&Zz (rl.length<=9223372036854775807)&&Zz (sv.length<=9223372036854775807)&&Zz (ins.length<=9223372036854775807)) (Zx (.aQ [.bs (Kerb.aP ⟨op,⟨ux,uy,uz⟩,kv,rl,tk,sv,ins,bx⟩).val,.int AI (Kerb.aP ⟨op,⟨ux,uy,uz⟩,kv,rl,tk,sv,ins,bx⟩).err],[]))
 | _,_=>Zy
def R3:Sp
 | [.bs b],[]=>aB (Zz (b.length<=140737488355328)) (Zx (.aQ [.agg [.bool ((Zd b).val).By,.str ((Zd b).val).BY.name,.str ((Zd b).val).BY.inst,.str ((Zd b).val).BY.aK,.int AI ((Zd b).val).address,.int AT ((Zd b).val).ax,.int AI ((Zd b).val).bS,.int AI ((Zd b).val).cL,.str ((Zd b).val).service,.str ((Zd b).val).inst],.int AI (Zd b).err],[]))
 | _,_=>Zy
def R5:Sp
 | [.bs b],[]=>aB (Zz (b.length<=140737488355328)) (Zx (.aQ [.agg [.str ((Zp b).val).label,.int AI ((Zp b).val).time,.int AT ((Zp b).val).ax,.int AI ((Zp b).val).start,.int AI ((Zp b).val).stop,.int AI ((Zp b).val).bt,.str ((Zp b).val).service.name,.str ((Zp b).val).service.inst,.str ((Zp b).val).service.aK,.bs ((Zp b).val).aG],.int AI (Zp b).err],[]))
 | _,_=>Zy
def R6:Sp
 | [.bs b],[]=>aB (Zz (b.length<=140737488355328)) (Zx (.aQ [.agg [.str ((Zj b).val).BY.name,.str ((Zj b).val).BY.inst,.str ((Zj b).val).BY.aK,.str ((Zj b).val).service.name,.str ((Zj b).val).service.inst,.str ((Zj b).val).service.aK,.int AT ((Zj b).val).ax,.int AI ((Zj b).val).start,.int AI ((Zj b).val).stop,.int AI ((Zj b).val).addr],.int AI (Zj b).err],[]))
 | _,_=>Zy
def R7:Sp
 | [.bs b],[]=>aB (Zz (b.length<=140737488355328)) (Zx (.aQ [.agg [.int AT ((Zm b).val).ax,.str ((Zm b).val).service.name,.str ((Zm b).val).service.inst,.str ((Zm b).val).service.aK,.int AI ((Zm b).val).start,.int AI ((Zm b).val).stop,.bs ((Zm b).val).record],.int AI (Zm b).err],[]))
 | _,_=>Zy
def I0:Sp
 | [.bs b],[]=>aB (Zz (b.length<=140737488355328)) (Zx (.aQ [.agg [.int AI ((Zf b).val).op,.str ((Zf b).val).user.name,.str ((Zf b).val).user.inst,.str ((Zf b).val).user.aK,.int AI ((Zf b).val).bt,.str ((Zf b).val).aK,.bs ((Zf b).val).aG,.str ((Zf b).val).service,.str ((Zf b).val).inst,.bs ((Zf b).val).box],.int AI (Zf b).err],[]))
 | _,_=>Zy
def I2:Sp
 | [.bs b],[]=>aB (Zz (b.length<=140737488355328)) (Zx (.aQ [.agg [.int AI ((Yu b).val).op,.str ((Yu b).val).name.name,.str ((Yu b).val).name.inst,.str ((Yu b).val).name.aK,.bs ((Yu b).val).box],.int AI (Yu b).err],[]))
 | _,_=>Zy
def TM:Sp
 | [.agg [.int AI kd,.int AT k,.bs b]],[]=>aB (Zz (b.length<=70368744170000)) (Zx (.aQ [.sl 1 (Yj (Kerb.ij ⟨kd,k,b⟩).keys),.sl 1 (Yx (Kerb.ij ⟨kd,k,b⟩).boxes)],[]))
 | _,_=>Zy
def RP:Sp
 | [.bs b],[]=>aB (Zz (b.length<=70368744170000)) (Zx (.sl 1 (Yx (Kerb.oO b)),[]))
 | _,_=>Zy
def WL:Sp
 | [.bs b],[]=>aB (Zz (b.length<=70368744170000)) (Zx (.sl 1 (Yx (Kerb.partsOf b)),[]))
 | _,_=>Zy
def EJ(mn:Nat):Sp
 | [.ptr 0 0,.bs b],[(0,[.sl 1 ks,.sl 1 bs])]=>aB ((Yz ks bs&&Zz (b.length<=70368744170000))&&Zz ((b.length:Int)<(mn:Int))) (Zx (.bool !(Kerb.bZ (Zu ks bs) b),[[.sl 1 ks,.sl 1 bs]]))
 | _,_=>Zy
def EK:Sp
 | [.ptr 0 0,.bs b],[(0,[.sl 1 ks,.sl 1 bs])]=>aB (Yz ks bs&&Zz (b.length<=70368744170000)) (Zx (.bool !(Kerb.bZ (Zu ks bs) b),[[.sl 1 ks,.sl 1 bs]]))
 | _,_=>Zy
def RJ:Sp
 | [.agg [.sl 1 ks,.sl 1 bs],.bs b],[]=>aB (Yz ks bs&&Zz (b.length<=70368744160000)) (Zx (.bool (Kerb.vn (Zu ks bs) b),[]))
 | _,_=>Zy
def Og:Sp
 | [.agg [.sl 1 ks,.sl 1 bs],.bs b],[]=>aB (Yz ks bs&&Zz (b.length<=70368744170000)) (Zx (.bool (Kerb.bZ (Zu ks bs) b),[]))
 | _,_=>Zy
def Q7:Sp
 | [.agg [.sl 1 ks,.sl 1 bs],.bs b],[]=>aB (Yz ks bs&&Zz (Kerb.mi (Zu ks bs)+2*b.length+2100<=1000000)) (Zx (.agg [.sl 1 (Yj (Kerb.learn (Zu ks bs) b).keys),.sl 1 (Yx (Kerb.learn (Zu ks bs) b).boxes)],[]))
 | _,_=>Zy
def RC:Sp
 | [.agg [.sl 1 ks,.sl 1 bs],.int AT k],[]=>aB (Yz ks bs&&Zz (0<=k)&&Zz (k<18446744073709551616)&&Zz (Kerb.mi (Zu ks bs)+1<=1000000)) (Zx (.agg [.sl 1 (Yj (Kerb.leak (Zu ks bs) k).keys),.sl 1 (Yx (Kerb.leak (Zu ks bs) k).boxes)],[]))
 | _,_=>Zy
def sp8:Sp
 | [],[]=>Zx (.bool Yg,[])
 | _,_=>Zy
def sp6:Sp
 | [.sl 7 ls,.bs lk,.agg [.u8 kd,.u8 bx,.u8 se,.u8 gV,.u8 de,.bool li,.int .u16 hw],.bs raw,.int AT k],[]=>aB (ls.all Kerb.qH&&Zz (0<=hw)&&Zz (hw<=65535)&&Zz (0<=k)&&Zz (k<18446744073709551616)) (Zx (.bool Yg,[]))
 | _,_=>Zy
def C99{J:Type}(a:List AV)(f:List AV->List AV->Bool->Option J):Option J:=Option.bind (TO a []) (kT λl=>aA l λx l=>AV.cR x λm=>bH 1 m λp1 m=>bH 1 m λp2 m=>ak m (aq l λp3 l=>ak l (f p1 p2 p3)))
def tE{J:Type}(a:List AV)(f:List UInt8->Int->Int->Option J):Option J:=Option.bind (tB a []) (kT λl=>aW l λp1 l=>ag AI l λp2 l=>ag AI l λp3 l=>ak l (f p1 p2 p3))
def Mz{J:Type}(a:List AV)(f:Int->Int->Int->Option J):Option J:=Option.bind (CG a []) (kT λl=>ag AI l λp1 l=>ag AI l λp2 l=>ag AI l λp3 l=>ak l (f p1 p2 p3))
def MA{J:Type}(a:List AV)(f:Int->Int->Int->Option J):Option J:=Option.bind (CN a []) (kT λl=>ag AI l λp1 l=>ag AI l λp2 l=>ag AI l λp3 l=>ak l (f p1 p2 p3))
def W8{J:Type}(a:List AV)(f:List UInt8->List UInt8->List UInt8->Option J):Option J:=Option.bind (Lf a []) (kA λl=>aI l λp1 l=>aI l λp2 l=>aI l λp3 l=>ak l (f p1 p2 p3))
def Lu{J:Type}(a:List AV)(f:Int->Bool->Option J):Option J:=Option.bind (CU a []) (kT λl=>ag AT l λp1 l=>aq l λp2 l=>ak l (f p1 p2))
def C67{J:Type}(a:List AV)(f:List UInt8->Int->Option J):Option J:=Option.bind (Oh a []) (kT λl=>aA l λx l=>AV.fJ x λp1=>ag AI l λp2 l=>ak l (f p1 p2))
def W_{J:Type}(a:List AV)(f:List UInt8->Int->Option J):Option J:=Option.bind (Ll a []) (kT λl=>aW l λp1 l=>ag AI l λp2 l=>ak l (f p1 p2))
def rn{J:Type}(a:List AV)(f:Int->Int->Int->Option J):Option J:=Option.bind (vd a []) (kT λl=>ag AI l λp1 l=>ag AI l λp2 l=>ag AI l λp3 l=>ak l (f p1 p2 p3))
def xk{J:Type}(a:List AV)(f:Int->Int->Int->Option J):Option J:=Option.bind (wl a []) (kT λl=>ag AI l λp1 l=>ag AI l λp2 l=>ag AI l λp3 l=>ak l (f p1 p2 p3))
def xn{J:Type}(a:List AV)(f:List UInt8->Int->Int->Option J):Option J:=Option.bind (yG a []) (kT λl=>aI l λp1 l=>ag AI l λp2 l=>ag AI l λp3 l=>ak l (f p1 p2 p3))
def Da{J:Type}(a:List AV)(f:Int->Int->Int->Option J):Option J:=Option.bind (yL a []) (kT λl=>ag AI l λp1 l=>ag AI l λp2 l=>ag AI l λp3 l=>ak l (f p1 p2 p3))
def C13{J:Type}(a:List AV)(f:Int->Int->List UInt8->Int->Int->Option J):Option J:=Option.bind (Oe a []) (kT λl=>aA l λx l=>AV.cR x λm=>ag AI m λp1 m=>ag AT m λp2 m=>aW m λp3 m=>ak m (ag AI l λp4 l=>ag AI l λp5 l=>ak l (f p1 p2 p3 p4 p5)))
def C68{J:Type}(a:List AV)(f:List UInt8->Int->Option J):Option J:=Option.bind (Oi a []) (kT λl=>aW l λp1 l=>ag AI l λp2 l=>ak l (f p1 p2))
def C69{J:Type}(a:List AV)(f:List UInt8->Int->Option J):Option J:=Option.bind (Oj a []) (kT λl=>aW l λp1 l=>ag AI l λp2 l=>ak l (f p1 p2))
def C70{J:Type}(a:List AV)(f:List UInt8->Int->Option J):Option J:=Option.bind (Ol a []) (kT λl=>aW l λp1 l=>ag AI l λp2 l=>ak l (f p1 p2))
def C'{J:Type}(a:List AV)(f:Int->Bool->Option J):Option J:=Option.bind (yF a []) (kT λl=>ag AT l λp1 l=>aq l λp2 l=>ak l (f p1 p2))
def SA{J:Type}(a:List AV)(f:List UInt8->Int->Bool->Option J):Option J:=Option.bind (Js a []) (kT λl=>aW l λp1 l=>ag AI l λp2 l=>aq l λp3 l=>ak l (f p1 p2 p3))
def W9{J:Type}(a:List AV)(f:List UInt8->Int->Option J):Option J:=Option.bind (Lj a []) (kT λl=>aW l λp1 l=>ag AI l λp2 l=>ak l (f p1 p2))
def XQ{J:Type}(a:List AV)(f:Int->Int->List UInt8->Int->Int->Option J):Option J:=Option.bind (Jc a []) (kT λl=>aA l λx l=>AV.cR x λm=>ag AI m λp1 m=>ag AT m λp2 m=>aW m λp3 m=>ak m (ag AI l λp4 l=>ag AI l λp5 l=>ak l (f p1 p2 p3 p4 p5)))
def C16{J:Type}(a:List AV)(f:List AV->List AV->Option J):Option J:=Option.bind (TN a []) (kT λl=>bH 1 l λp1 l=>bH 1 l λp2 l=>ak l (f p1 p2))
def C_{J:Type}(a:List AV)(f:List UInt8->List UInt8->List UInt8->Int->Int->Option J):Option J:=Option.bind (yE a []) (kT λl=>aA l λx l=>AV.cR x λm=>aI m λp1 m=>aI m λp2 m=>aI m λp3 m=>ak m (ag AI l λp4 l=>ag AI l λp5 l=>ak l (f p1 p2 p3 p4 p5)))
def C28{J:Type}(a:List AV)(f:List AV->List AV->Option J):Option J:=Option.bind (RE a []) (kA λl=>bH 1 l λp1 l=>bH 1 l λp2 l=>ak l (f p1 p2))
def C30{J:Type}(a:List AV)(f:List AV->List AV->Option J):Option J:=Option.bind (RI a []) (kA λl=>bH 1 l λp1 l=>bH 1 l λp2 l=>ak l (f p1 p2))
def C15{J:Type}(a:List AV)(f:List AV->List AV->Option J):Option J:=Option.bind (TM a []) (kT λl=>bH 1 l λp1 l=>bH 1 l λp2 l=>ak l (f p1 p2))
def C19{J:Type}(a:List AV)(f:List AV->List AV->Option J):Option J:=Option.bind (Q7 a []) (kA λl=>bH 1 l λp1 l=>bH 1 l λp2 l=>ak l (f p1 p2))
def C27{J:Type}(a:List AV)(f:List AV->List AV->Option J):Option J:=Option.bind (RC a []) (kA λl=>bH 1 l λp1 l=>bH 1 l λp2 l=>ak l (f p1 p2))
def JJ:List (Nat×Nat×List CT×Sp):=[(10,1,[.sl 1,.sl 1],QO),(17,1,[.sl 1,.sl 1],Q0),(21,1,[.int AI],Lb),(24,1,[.int AI],Rs),(46,1,[.eV,.int .u16],Li),(89,1,[.ptr,.int AI],zP),(90,1,[.int AI],WX),(92,1,[.int AI,.int AI],WY),(94,1,[.int AI,.bool],WZ),(95,1,[.eV,.str],qv),(104,1,[.sl 1,.int AT],IQ),(107,1,[.int AI,.int AI],QP),(113,1,[.int AI],QQ),(114,1,[.int AI,.int AI],QR),(133,1,[.eV],QT),(138,1,[.int AT],nG),(139,1,[.eV],jF),(142,1,[.int AI,.int AI],QV),(144,1,[.int AI,.int AI],QW),(152,1,[.eV,.eV],QX),(156,1,[.str],QY),(159,1,[.str],QZ),(170,1,[.sl 1],Q1),(171,1,[.sl 1],Q2),(174,1,[.str,.str],yJ),(175,1,[.eV,.int AI,.int AI,.bool],yK),(180,1,[.sl 1,.int AT],Q4),(184,1,[],Q5),(200,1,[.ptr,.int AI,.int AI],Ra),(203,1,[.eV,.int AI,.int AI],CF),(204,1,[.eV,.int AI],Jn),(205,1,[.int AI,.int AI],Rc),(206,1,[.int AI,.int AI],Re),(207,1,[.int AI,.int AI],Rf),(210,1,[.eV,.int AI,.int AI],yM),(211,1,[.eV],CH),(218,1,[.int AT],vf),(221,1,[.int AI,.int AI],Rj),(222,1,[.ptr,.int AI,.int AI],Rk),(226,1,[.ptr,.int AI,.int AI],Rl),(229,1,[.int AI,.int AI],Rn),(233,1,[.int AI],Rp),(234,1,[.int AI],Rq),(238,1,[.int AI],Rr),(241,1,[.int AI,.sl 1],Jr),(245,1,[.int AI,.int AI],Rv),(251,1,[.int AI],Rw),(252,1,[.int AI,.int AI],Rx),(254,1,[.eV,.u8],Ry),(255,1,[.int AI,.int AI],Rz),(257,1,[.other,.other],Ju),(258,1,[.other,.other],Jv),(261,1,[.int AI],RA),(267,1,[.sl 1,.int AI,.int AI],JA),(273,1,[.int AT],JC),(277,1,[.ptr],JE),(280,1,[.int AT],RF),(283,1,[.str,.u8],RH),(20,2,[.other,.other],Jk),(29,2,[.u8],WN),(35,2,[.other,.int AT],RL),(60,2,[.u8],WT),(91,2,[.str],Gs),(93,2,[.eV,.int AI],jv),(99,2,[.other,.sl 1,.sl 1],TO),(105,2,[.int AI],Cw),(108,2,[.eV,.other],ko),(109,2,[.eV,.int AI,.bool],fv),(110,2,[.eV,.int AI,.bool],mG),(111,2,[.str],u9),(112,2,[.str],u_),(126,2,[.eV,.sl 1],QS),(131,2,[.ptr,.int AI],gA),(135,2,[.ptr],o0),(136,2,[.int AT],mH),(148,2,[.eV,.int AI,.int AI],tB),(177,2,[.int AT],CC),(208,2,[.eV,.int AI,.int AI,.bool],CG),(212,2,[.eV,.u8],Rg),(217,2,[.sl 1],Ri),(228,2,[.int AI,.int AI],Rm),(240,2,[.eV],Rt),(242,2,[.int AI,.bool],Ru),(253,2,[.eV,.int AI,.int AI,.bool],CN),(260,2,[.int AT],CO),(269,2,[.int AT,.int AT],RB),(281,2,[.str,.u8],RG),(25,3,[.other],Ld),(36,3,[.int AI],Lf),(40,3,[.eV,.bool],WQ),(42,3,[.other],WS),(58,3,[.eV],CU),(59,3,[.int AI],RZ),(67,3,[.other],Oh),(71,3,[.int AI,.int AT,.eV],Ll),(80,3,[.int AT],CW),(97,3,[.int AT],zQ),(106,3,[.other],ld),(116,3,[.eV,.eV,.bool],Ap),(127,3,[.ptr],nT),(141,3,[.eV,.bool],QU),(143,3,[.int AT],Cy),(145,3,[.eV,.int AI],vd),(147,3,[.eV,.int AI,.bool],wl),(150,3,[.eV,.int AI],yG),(154,3,[.ptr,.int AI],tC),(167,3,[.ptr,.int AI],yI),(185,3,[.eV,.sl 1],Q6),(186,3,[.eV,.int AI,.bool],yL),(199,3,[.eV,.int AI,.bool],Jj),(201,3,[.eV,.int AI],Jl),(202,3,[.eV,.int AI,.bool],Jm),(219,3,[.eV,.str],qR),(220,3,[.eV],sb),(227,3,[.int AT],CJ),(256,3,[.eV,.int AI,.int AI,.bool],yN),(263,3,[.sl 1,.int AI,.int AI],Jw),(268,3,[.sl 1,.int AI,.int AI],JB),(270,3,[.sl 1,.int AI,.int AI,.int AI],EM),(271,3,[.sl 1,.int AI,.int AI,.int AI],EN),(274,3,[.str,.u8],RD),(275,3,[.sl 1,.int AI,.int AI,.int AI],EO),(276,3,[.int AI],JD),(282,3,[.sl 1,.int AI,.int AI,.ptr],CS),(13,4,[.eV],Oe),(22,4,[.eV],Lc),(37,4,[.other],Lg),(39,4,[.other],RM),(41,4,[.other],WR),(43,4,[.other],Lh),(63,4,[.eV],WU),(64,4,[.other,.bool],Lk),(65,4,[.other,.bool],WV),(66,4,[.other,.bool],WW),(68,4,[.other],Oi),(69,4,[.other],Oj),(70,4,[.other],Ol),(73,4,[.sl 1],CV),(128,4,[.ptr],jk),(129,4,[.ptr],iH),(130,4,[.ptr],oZ),(137,4,[.other],I4),(140,4,[.other],I6),(149,4,[.eV],yF),(155,4,[.ptr],ve),(160,4,[.ptr],yH),(165,4,[.ptr],wo),(168,4,[.ptr],CB),(188,4,[.eV],CD),(193,4,[.ptr],Q9),(194,4,[.ptr],Jg),(197,4,[.ptr],Jh),(214,4,[.eV,.int AI],sa),(215,4,[.eV,.other],qQ),(216,4,[.eV,.int AI,.bool],mI),(223,4,[.other],Jo),(243,4,[.eV,.int AI,.bool],CL),(248,4,[.eV,.int AI,.int AI,.bool],Js),(262,4,[.str,.str],CP),(264,4,[.sl 1,.int AI,.int AI],Jx),(265,4,[.sl 1,.int AI,.int AI],Jy),(279,4,[.sl 1,.int AI,.int AI,.int AI,.ptr],Ar),(49,5,[.eV],RQ),(53,5,[.eV],RU),(54,5,[.eV],RV),(55,5,[.eV],RW),(56,5,[.eV],RX),(57,5,[.eV],RY),(61,5,[.other],Lj),(62,5,[.other,.bool],R2),(81,5,[.eV,.bool],On),(82,5,[.eV],R9),(83,5,[.eV],R_),(84,5,[.eV],Sa),(85,5,[.eV],Sb),(115,5,[.other,.bool,.int AI,.int AT],Cx),(132,5,[.eV],I3),(157,5,[.ptr],Cz),(158,5,[.other],I9),(164,5,[.ptr],CA),(182,5,[.eV],Jc),(191,5,[.eV,.bool],Q8),(192,5,[.eV],Jf),(225,5,[.eV,.eV],CI),(230,5,[.eV,.eV],CK),(246,5,[.str],vg),(247,5,[.str],sc),(250,5,[.eV,.eV],Aq),(278,5,[.sl 1,.int AI,.ptr],CQ),(23,6,[.other,.int AT],Ro),(44,6,[.other,.bool,.int AT],RN),(45,6,[.other,.bool,.int AT],RO),(50,6,[.sl 1],vh),(51,6,[.eV],RR),(52,6,[.eV],RS),(75,6,[.eV],R4),(79,6,[.eV],R8),(117,6,[.eV],IU),(121,6,[.eV],IY),(122,6,[.eV],IZ),(196,6,[.other],Q'),(244,6,[.str],CM),(266,6,[.sl 1,.int AI,.int AI],Jz)]
def JK:List (Nat×Nat×List CT×Sp):=[(12,7,[.eV],WM),(16,7,[.other],TN),(38,7,[.other],WO),(47,7,[.sl 1],DM),(124,7,[.eV],I1),(189,7,[.other],CE),(209,7,[.other],nU),(259,7,[.sl 1,.int AI,.int AI,.int AI],EL)]
def Lp:List (Nat×Nat×List CT×Sp):=[(14,8,[.other],I5),(34,8,[.other,.eV],Le),(100,8,[.other],Ms),(119,8,[.eV],IW),(146,8,[.eV,.int AI],yE),(153,8,[.other,.bool],I8),(166,8,[.other],Ja),(169,8,[.other],Jb),(187,8,[.other],Jd),(190,8,[.other],Je),(198,8,[.other],Ji),(213,8,[.other],Rh),(224,8,[.other],Jp),(236,8,[.sl 1],Jq),(249,8,[.other],Jt),(9,9,[.other],XP),(28,9,[.other,.eV],RE),(30,9,[.other,.int AT],RI),(32,9,[.other,.eV],RK),(74,9,[.eV,.bool],Om),(118,9,[.eV],IV),(120,9,[.eV],IX),(151,9,[.other],I7),(161,9,[.ptr],I_),(162,9,[.other],I'),(163,9,[.ptr],wm),(179,9,[.sl 1,.int AT],Q3),(195,9,[.other],Q_),(72,10,[.eV],R3),(76,10,[.eV],R5),(77,10,[.eV],R6),(78,10,[.eV],R7),(123,10,[.eV],I0),(125,10,[.eV],I2),(15,11,[.other],TM),(48,11,[.eV],RP)]
def Oq:List (Nat×Nat×List CT×Sp):=[(11,12,[.eV],WL),(102,12,[.ptr,.eV],EK),(31,13,[.other,.eV],RJ),(33,13,[.other,.eV],Og),(19,15,[.other,.eV],Q7),(27,15,[.other,.int AT],RC),(8,16,[],sp8),(6,17,[.sl 7,.eV,.other,.eV,.int AT],sp6)]
def Sc:List (Nat×Nat×List CT×Sp):=JJ++JK++Lp++Oq
def YG:List (Nat×List AV):=[]
noncomputable def V2:List (Nat×Func):=[(103,Tryz.f103),(181,Tryz.f181),(232,Tryz.f232),(237,Tryz.f237),(239,Tryz.f239),(86,Tryz.f86),(101,Tryz.f101),(172,Tryz.f172),(176,Tryz.f176),(183,Tryz.f183),(235,Tryz.f235),(87,Tryz.f87),(96,Tryz.f96),(26,Tryz.f26),(134,Tryz.f134),(178,Tryz.f178),(98,Tryz.f98),(231,Tryz.f231),(173,Tryz.f173),(88,Tryz.f88)]
def look{O:Type}(k:Nat):List (Nat×O)->Option O
 | []=>Zy
 | (j,x)::r=>cond (Nat.beq j k) (Zx x) (look k r)
def P8{O:Type}(k m:Nat):List (Nat×Nat×List O)->List O
 | []=>[]
 | (j,i,x)::r=>cond (Nat.beq j k) (cond (Nat.beq i m) x (P8 k m r)) (P8 k m r)
noncomputable def G:pG:={ ty:=λt=>(W2[t]?).join,jq:=λf r=>P8 f r Z0,own:=λf=>ad0.contains f,rF:=λq=>look q YG,rts:=λf=>look f ad_,xd:=λf=>look f Sc,inl:=λf=>look f V2 }
end
abbrev Wk(f k:Nat)(s:Sp):Prop:=E0 Tryz.prog G f k s
abbrev Rb:=Option (AV×aO)
theorem c6{a c:Rb}(b:Rb)(g:b=c)(h:a=b:=by kernel_rfl):a=c:=h.trans g
theorem tK{E:Env}{rts:Nat->Option (List Nat)}{own:Bool}{fn:Func}{xs:List AV}{bl:List (Nat×List AV)}{c:Rb}(hand:List Nat)(b:Rb)(g:b=c)(e:bl.map (·.1)=hand:=by rfl)(h:w_ E rts own fn xs bl hand=b:=by kernel_rfl):Ez E rts own fn xs bl=c:=by
 subst e;exact h.trans g
theorem dg{b:Bool}{v r:AV×aO}(h:aB b (Zx v)=Zx r):b=Yg/\v=r:=by
 cases b
 .cases h
 .cases h;exact⟨rfl,rfl⟩
theorem Z9 : (Tryz.prog.funcs.all λfn => fn.name != "runtime.NumGoroutine") = Yg := by kernel_rfl
theorem cw{f k:Nat}{s:Sp}{fn:Func}(h1:Tryz.prog.funcs[f]? = Zx fn)(h:∀ xs bl r,s xs bl=Zx r->Ez (G.env f k) G.rts (G.own f) fn xs bl=Zx r)(h2:G.rts f=Zx fn.resultTypes.toList:=by rfl):Wk f k s :=
 ⟨fn,h1,λe=>by
  have h0:=Z9;rw[Array.all_eq_true_iff_forall_mem] at h0;have:=h0 fn (Array.mem_of_getElem? h1);rw[e] at this;simp at this,h2,h⟩
end Go.Proofs.YteafbgcimcpfiaaGreat
