/- The table of functions of this seat. -/
import Derived.Test.YtpelamlfpffacaaGreatAbsFinW
import Derived.Test.YtpelamlfpffacaaGreatProg
set_option linter.all false
open Go.IntKind renaming i64->AI,u64->AT
open Decidable renaming decide->Zz
open Option renaming none->Zy,some->Zx
open Bool renaming false->Zw,true->Yj
open Kerb renaming get->Zv,kn->Zu,bz->Zq,bH->Zj,aW->Zk,aV->Zp,aG->Zd,cM->Zf,aX->Zg,aQ->Zb,within->Zn,bA->Zm,c7->Zh,bD->Yz,fW->Yy,ck->Yx,cT->Yw,bM->Yv,cK->Yu,aN->Yq
namespace Go.Proofs.YtpelamlfpffacaaGreat
open Go Go.Abs
noncomputable section
abbrev Sp:=Abs.Spec
def bT:Option TI:=Zx ⟨1,8,.other,[.sJ],[.other],[]⟩
def ti1:Option TI:=Zx ⟨1,8,.int AI,[.int AI 0],[.int AI],[.int AI]⟩
def ti2:Option TI:=Zx ⟨1,1,.u8,[.u8 0],[.u8],[.u8]⟩
def ti3:Option TI:=Zx ⟨1,8,.int AT,[.int AT 0],[.int AT],[.int AT]⟩
def ti4:Option TI:=Zx ⟨1,8,.struct [(0,17)],[.mr],[.ptr],[]⟩
def ti5:Option TI:=Zx ⟨1,4,.int .i32,[.int .i32 0],[.int .i32],[.int .i32]⟩
def ti6:Option TI:=Zx ⟨10,10,.struct [(0,22),(5,5),(6,5),(7,5),(8,5),(9,5)],[.u8 0,.u8 0,.u8 0,.u8 0,.u8 0,.u8 0,.u8 0,.u8 0,.u8 0,.u8 0],[.u8,.u8,.u8,.u8,.u8,.u8,.u8,.u8,.u8,.u8],[]⟩
def ti7:Option TI:=Zx ⟨4,6,.struct [(0,5),(1,5),(2,5),(3,26)],[.u8 0,.u8 0,.u8 0,.int .u16 0],[.u8,.u8,.u8,.int .u16],[.u8,.u8,.u8,.int .u16]⟩
def ti8:Option TI:=Zx ⟨2,48,.struct [(0,36),(1,37)],[.bJ,.bJ],[.sl 1,.sl 1],[]⟩
def ti9:Option TI:=Zx ⟨12,256,.struct [(0,30),(1,31),(2,32),(3,33),(4,34),(5,35),(6,39),(8,36),(9,3),(10,40),(11,3)],[.bJ,.bJ,.bJ,.bJ,.bJ,.bJ,.bJ,.bJ,.bJ,.int AI 0,.bJ,.int AI 0],[.sl 13,.sl 4,.sl 2,.sl 31,.sl 10,.sl 4,.sl 1,.sl 1,.sl 1,.int AI,.sl 51,.int AI],[]⟩
def agq:Option TI:=Zx ⟨4,48,.struct [(0,3),(1,3),(2,47),(3,4)],[.int AI 0,.int AI 0,.bJ,.bool Zw],[.int AI,.int AI,.sl 1,.bool],[]⟩
def agr:Option TI:=Zx ⟨3,48,.struct [(0,9),(1,9),(2,9)],[.str [],.str [],.str []],[.str,.str,.str],[.str,.str,.str]⟩
def ags:Option TI:=Zx ⟨16,216,.struct [(0,3),(1,61),(4,61),(7,61),(10,55),(11,55),(12,55),(13,62),(14,3),(15,3)],[.int AI 0,.str [],.str [],.str [],.str [],.str [],.str [],.str [],.str [],.str [],.int AT 0,.int AT 0,.int AT 0,.bJ,.int AI 0,.int AI 0],[.int AI,.str,.str,.str,.str,.str,.str,.str,.str,.str,.int AT,.int AT,.int AT,.c4,.int AI,.int AI],[]⟩
def agt:Option TI:=Zx ⟨8,104,.struct [(0,61),(3,55),(4,3),(5,3),(6,3),(7,62)],[.str [],.str [],.str [],.int AT 0,.int AI 0,.int AI 0,.int AI 0,.bJ],[.str,.str,.str,.int AT,.int AI,.int AI,.int AI,.c4],[]⟩
def agu:Option TI:=Zx ⟨6,72,.struct [(0,61),(3,3),(4,3),(5,3)],[.str [],.str [],.str [],.int AI 0,.int AI 0,.int AI 0],[.str,.str,.str,.int AI,.int AI,.int AI],[.str,.str,.str,.int AI,.int AI,.int AI]⟩
def agv:Option TI:=Zx ⟨12,152,.struct [(0,61),(3,55),(4,3),(5,3),(6,3),(7,3),(8,3),(9,3),(10,62),(11,62)],[.str [],.str [],.str [],.int AT 0,.int AI 0,.int AI 0,.int AI 0,.int AI 0,.int AI 0,.int AI 0,.bJ,.bJ],[.str,.str,.str,.int AT,.int AI,.int AI,.int AI,.int AI,.int AI,.int AI,.c4,.c4],[]⟩
def agw:Option TI:=Zx ⟨51,656,.struct [(0,3),(1,3),(2,61),(5,3),(6,3),(7,64),(23,66),(31,68),(37,62),(38,70),(50,55)],[.int AI 0,.int AI 0,.str [],.str [],.str [],.int AI 0,.int AI 0,.int AI 0,.str [],.str [],.str [],.str [],.str [],.str [],.str [],.str [],.str [],.int AT 0,.int AT 0,.int AT 0,.bJ,.int AI 0,.int AI 0,.str [],.str [],.str [],.int AT 0,.int AI 0,.int AI 0,.int AI 0,.bJ,.str [],.str [],.str [],.int AI 0,.int AI 0,.int AI 0,.bJ,.str [],.str [],.str [],.int AT 0,.int AI 0,.int AI 0,.int AI 0,.int AI 0,.int AI 0,.int AI 0,.bJ,.bJ,.int AT 0],[.int AI,.int AI,.str,.str,.str,.int AI,.int AI,.int AI,.str,.str,.str,.str,.str,.str,.str,.str,.str,.int AT,.int AT,.int AT,.c4,.int AI,.int AI,.str,.str,.str,.int AT,.int AI,.int AI,.int AI,.c4,.str,.str,.str,.int AI,.int AI,.int AI,.c4,.str,.str,.str,.int AT,.int AI,.int AI,.int AI,.int AI,.int AI,.int AI,.c4,.c4,.int AT],[]⟩
def agx:Option TI:=Zx ⟨6,64,.struct [(0,3),(1,3),(2,3),(3,3),(4,3),(5,62)],[.int AI 0,.int AI 0,.int AI 0,.int AI 0,.int AI 0,.bJ],[.int AI,.int AI,.int AI,.int AI,.int AI,.c4],[]⟩
def agy:Option TI:=Zx ⟨6,8,.struct [(0,5),(1,5),(2,5),(3,5),(4,5),(5,26)],[.u8 0,.u8 0,.u8 0,.u8 0,.u8 0,.int .u16 0],[.u8,.u8,.u8,.u8,.u8,.int .u16],[.u8,.u8,.u8,.u8,.u8,.int .u16]⟩
def agz:Option TI:=Zx ⟨3,40,.struct [(0,3),(1,55),(2,62)],[.int AI 0,.int AT 0,.bJ],[.int AI,.int AT,.c4],[]⟩
def agA:Option TI:=Zx ⟨5,120,.struct [(0,30),(1,31),(2,32),(3,33),(4,34)],[.bJ,.bJ,.bJ,.bJ,.bJ],[.sl 13,.sl 4,.sl 2,.sl 31,.sl 10],[]⟩
def agB:Option TI:=Zx ⟨4,48,.struct [(0,3),(1,3),(2,62),(3,4)],[.int AI 0,.int AI 0,.bJ,.bool Zw],[.int AI,.int AI,.c4,.bool],[]⟩
def agC:Option TI:=Zx ⟨2,40,.struct [(0,9),(1,130)],[.str [],.bJ],[.str,.sl 9],[]⟩
def agD:Option TI:=Zx ⟨9,88,.struct [(0,9),(1,9),(2,55),(3,3),(4,3),(5,3),(6,3),(7,3),(8,3)],[.str [],.str [],.int AT 0,.int AI 0,.int AI 0,.int AI 0,.int AI 0,.int AI 0,.int AI 0],[.str,.str,.int AT,.int AI,.int AI,.int AI,.int AI,.int AI,.int AI],[.str,.str,.int AT,.int AI,.int AI,.int AI,.int AI,.int AI,.int AI]⟩
def agE:Option TI:=Zx ⟨3,40,.struct [(0,3),(1,3),(2,137)],[.int AI 0,.int AI 0,.bJ],[.int AI,.int AI,.sl 5],[]⟩
def agF:Option TI:=Zx ⟨8,120,.struct [(0,61),(3,136),(4,139),(7,3)],[.str [],.str [],.str [],.bJ,.int AI 0,.int AI 0,.bJ,.int AI 0],[.str,.str,.str,.sl 5,.int AI,.int AI,.sl 5,.int AI],[]⟩
def agG:Option TI:=Zx ⟨13,184,.struct [(0,132),(2,141),(10,3),(11,3),(12,4)],[.str [],.bJ,.str [],.str [],.str [],.bJ,.int AI 0,.int AI 0,.bJ,.int AI 0,.int AI 0,.int AI 0,.bool Zw],[.str,.sl 9,.str,.str,.str,.sl 5,.int AI,.int AI,.sl 5,.int AI,.int AI,.int AI,.bool],[]⟩
def agH:Option TI:=Zx ⟨4,48,.struct [(0,9),(1,9),(2,3),(3,55)],[.str [],.str [],.int AI 0,.int AT 0],[.str,.str,.int AI,.int AT],[.str,.str,.int AI,.int AT]⟩
def agI:Option TI:=Zx ⟨2,16,.struct [(0,3),(1,3)],[.int AI 0,.int AI 0],[.int AI,.int AI],[.int AI,.int AI]⟩
def agJ:Option TI:=Zx ⟨4,72,.struct [(0,61),(3,149)],[.str [],.str [],.str [],.bJ],[.str,.str,.str,.sl 8],[]⟩
def agL:Option TI:=Zx ⟨19,240,.struct [(0,61),(3,3),(4,3),(5,4),(6,151),(10,3),(11,61),(14,55),(15,3),(16,3),(17,3),(18,3)],[.str [],.str [],.str [],.int AI 0,.int AI 0,.bool Zw,.str [],.str [],.str [],.bJ,.int AI 0,.str [],.str [],.str [],.int AT 0,.int AI 0,.int AI 0,.int AI 0,.int AI 0],[.str,.str,.str,.int AI,.int AI,.bool,.str,.str,.str,.sl 8,.int AI,.str,.str,.str,.int AT,.int AI,.int AI,.int AI,.int AI],[]⟩
def agM:Option TI:=Zx ⟨9,96,.struct [(0,3),(1,3),(2,3),(3,3),(4,61),(7,55),(8,55)],[.int AI 0,.int AI 0,.int AI 0,.int AI 0,.str [],.str [],.str [],.int AT 0,.int AT 0],[.int AI,.int AI,.int AI,.int AI,.str,.str,.str,.int AT,.int AT],[.int AI,.int AI,.int AI,.int AI,.str,.str,.str,.int AT,.int AT]⟩
def agN:Option TI:=Zx ⟨31,376,.struct [(0,3),(1,55),(2,153),(21,155),(30,156)],[.int AI 0,.int AT 0,.str [],.str [],.str [],.int AI 0,.int AI 0,.bool Zw,.str [],.str [],.str [],.bJ,.int AI 0,.str [],.str [],.str [],.int AT 0,.int AI 0,.int AI 0,.int AI 0,.int AI 0,.int AI 0,.int AI 0,.int AI 0,.int AI 0,.str [],.str [],.str [],.int AT 0,.int AT 0,.bJ],[.int AI,.int AT,.str,.str,.str,.int AI,.int AI,.bool,.str,.str,.str,.sl 8,.int AI,.str,.str,.str,.int AT,.int AI,.int AI,.int AI,.int AI,.int AI,.int AI,.int AI,.int AI,.str,.str,.str,.int AT,.int AT,.sl 7],[]⟩
def agO:Option TI:=Zx ⟨5,64,.struct [(0,61),(3,3),(4,55)],[.str [],.str [],.str [],.int AI 0,.int AT 0],[.str,.str,.str,.int AI,.int AT],[.str,.str,.str,.int AI,.int AT]⟩
def agP:Option TI:=Zx ⟨10,152,.struct [(0,3),(1,141),(9,161)],[.int AI 0,.str [],.str [],.str [],.bJ,.int AI 0,.int AI 0,.bJ,.int AI 0,.bJ],[.int AI,.str,.str,.str,.sl 5,.int AI,.int AI,.sl 5,.int AI,.sl 12],[]⟩
def agQ:Option TI:=Zx ⟨4,56,.struct [(0,55),(1,61)],[.int AT 0,.str [],.str [],.str []],[.int AT,.str,.str,.str],[.int AT,.str,.str,.str]⟩
def agR:Option TI:=Zx ⟨6,80,.struct [(0,4),(1,4),(2,3),(3,9),(4,62),(5,62)],[.bool Zw,.bool Zw,.int AI 0,.str [],.bJ,.bJ],[.bool,.bool,.int AI,.str,.c4,.c4],[]⟩
def agS:Option TI:=Zx ⟨10,128,.struct [(0,178),(6,3),(7,3),(8,9),(9,9)],[.bool Zw,.bool Zw,.int AI 0,.str [],.bJ,.bJ,.int AI 0,.int AI 0,.str [],.str []],[.bool,.bool,.int AI,.str,.c4,.c4,.int AI,.int AI,.str,.str],[]⟩
def agT:Option TI:=Zx ⟨8,104,.struct [(0,4),(1,61),(4,3),(5,3),(6,3),(7,62)],[.bool Zw,.str [],.str [],.str [],.int AI 0,.int AI 0,.int AI 0,.bJ],[.bool,.str,.str,.str,.int AI,.int AI,.int AI,.c4],[]⟩
def agU:Option TI:=Zx ⟨7,88,.struct [(0,4),(1,61),(4,3),(5,100),(6,9)],[.bool Zw,.str [],.str [],.str [],.int AI 0,.int AI 0,.str []],[.bool,.str,.str,.str,.int AI,.int AI,.str],[.bool,.str,.str,.str,.int AI,.int AI,.str]⟩
def agV:Option TI:=Zx ⟨5,80,.struct [(0,3),(1,61),(4,62)],[.int AI 0,.str [],.str [],.str [],.bJ],[.int AI,.str,.str,.str,.c4],[]⟩
def agW:Option TI:=Zx ⟨10,160,.struct [(0,3),(1,61),(4,3),(5,9),(6,62),(7,9),(8,9),(9,62)],[.int AI 0,.str [],.str [],.str [],.int AI 0,.str [],.bJ,.str [],.str [],.bJ],[.int AI,.str,.str,.str,.int AI,.str,.c4,.str,.str,.c4],[]⟩
def agX:Option TI:=Zx ⟨3,40,.struct [(0,3),(1,100),(2,62)],[.int AI 0,.int AI 0,.bJ],[.int AI,.int AI,.c4],[]⟩
def agY:Option TI:=Zx ⟨2,48,.struct [(0,39)],[.bJ,.bJ],[.sl 1,.sl 1],[]⟩
def agZ:Option TI:=Zx ⟨3,56,.struct [(0,209),(2,210)],[.bJ,.bJ,.Az],[.sl 1,.sl 1,.other],[]⟩
def ag0:Option TI:=Zx ⟨7,96,.struct [(0,61),(3,55),(4,3),(5,3),(6,62)],[.str [],.str [],.str [],.int AT 0,.int AI 0,.int AI 0,.bJ],[.str,.str,.str,.int AT,.int AI,.int AI,.c4],[]⟩
def ag1:Option TI:=Zx ⟨10,120,.struct [(0,4),(1,61),(4,3),(5,55),(6,3),(7,3),(8,9),(9,9)],[.bool Zw,.str [],.str [],.str [],.int AI 0,.int AT 0,.int AI 0,.int AI 0,.str [],.str []],[.bool,.str,.str,.str,.int AI,.int AT,.int AI,.int AI,.str,.str],[.bool,.str,.str,.str,.int AI,.int AT,.int AI,.int AI,.str,.str]⟩
def ag2:Option TI:=Zx ⟨10,128,.struct [(0,61),(3,61),(6,55),(7,3),(8,3),(9,3)],[.str [],.str [],.str [],.str [],.str [],.str [],.int AT 0,.int AI 0,.int AI 0,.int AI 0],[.str,.str,.str,.str,.str,.str,.int AT,.int AI,.int AI,.int AI],[.str,.str,.str,.str,.str,.str,.int AT,.int AI,.int AI,.int AI]⟩
def ag3:Option TI:=Zx ⟨5,64,.struct [(0,61),(3,3),(4,3)],[.str [],.str [],.str [],.int AI 0,.int AI 0],[.str,.str,.str,.int AI,.int AI],[.str,.str,.str,.int AI,.int AI]⟩
def ag4:Option TI:=Zx ⟨8,104,.struct [(0,4),(1,61),(4,3),(5,3),(6,9),(7,9)],[.bool Zw,.str [],.str [],.str [],.int AI 0,.int AI 0,.str [],.str []],[.bool,.str,.str,.str,.int AI,.int AI,.str,.str],[.bool,.str,.str,.str,.int AI,.int AI,.str,.str]⟩
def ag5:Option TI:=Zx ⟨5,48,.struct [(0,9),(1,3),(2,3),(3,3),(4,55)],[.str [],.int AI 0,.int AI 0,.int AI 0,.int AT 0],[.str,.int AI,.int AI,.int AI,.int AT],[.str,.int AI,.int AI,.int AI,.int AT]⟩
def ag6:Option TI:=Zx ⟨7,96,.struct [(0,55),(1,61),(4,3),(5,3),(6,62)],[.int AT 0,.str [],.str [],.str [],.int AI 0,.int AI 0,.bJ],[.int AT,.str,.str,.str,.int AI,.int AI,.c4],[]⟩
def ag7:Option TI:=Zx ⟨8,104,.struct [(0,55),(1,61),(4,3),(5,3),(6,62),(7,3)],[.int AT 0,.str [],.str [],.str [],.int AI 0,.int AI 0,.bJ,.int AI 0],[.int AT,.str,.str,.str,.int AI,.int AI,.c4,.int AI],[]⟩
def ag8:Option TI:=Zx ⟨10,128,.struct [(0,9),(1,3),(2,55),(3,3),(4,3),(5,3),(6,61),(9,62)],[.str [],.int AI 0,.int AT 0,.int AI 0,.int AI 0,.int AI 0,.str [],.str [],.str [],.bJ],[.str,.int AI,.int AT,.int AI,.int AI,.int AI,.str,.str,.str,.c4],[]⟩
def ag9:Option TI:=Zx ⟨3,24,.struct [(0,3),(1,3),(2,3)],[.int AI 0,.int AI 0,.int AI 0],[.int AI,.int AI,.int AI],[.int AI,.int AI,.int AI]⟩
def XQ:Option TI:=Zx ⟨3,40,.struct [(0,62),(1,3),(2,4)],[.bJ,.int AI 0,.bool Zw],[.c4,.int AI,.bool],[]⟩
def ag_:Option TI:=Zx ⟨4,40,.struct [(0,62),(1,3),(2,4),(3,4)],[.bJ,.int AI 0,.bool Zw,.bool Zw],[.c4,.int AI,.bool,.bool],[]⟩
def tbl:List (Option TI):=[
 Zy,bT,ti1,ti1,Zx ⟨1,1,.bool,[.bool Zw],[.bool],[.bool]⟩,ti2,ti2,Zx ⟨4,24,.struct [(0,2),(1,3),(2,4),(3,6)],[.int AI 0,.int AI 0,.bool Zw,.u8 0],[.int AI,.int AI,.bool,.u8],[.int AI,.int AI,.bool,.u8]⟩,Zy,Zx ⟨1,16,.str,[.str []],[.str],[.str]⟩,Zy,Zy,ti3,Zy,Zy,Zx ⟨1,8,.ptr 507,[.mr],[.ptr],[]⟩,Zx ⟨1,8,.ptr 510,[.mr],[.ptr],[]⟩,Zx ⟨1,8,.ptr 518,[.mr],[.ptr],[]⟩,ti4,ti4,Zy,ti5,Zx ⟨5,5,.c8 5 5 Yj,[.u8 0,.u8 0,.u8 0,.u8 0,.u8 0],[.u8,.u8,.u8,.u8,.u8],[]⟩,ti6,ti6,Zx ⟨1,24,.slice 79 Zw,[.bJ],[.sl 6],[]⟩,Zx ⟨1,2,.int .u16,[.int .u16 0],[.int .u16],[.int .u16]⟩,ti7,ti7,bT,Zx ⟨1,24,.slice 143 Zw,[.bJ],[.sl 13],[]⟩,Zx ⟨1,24,.slice 146 Zw,[.bJ],[.sl 4],[]⟩,Zx ⟨1,24,.slice 148 Zw,[.bJ],[.sl 2],[]⟩,Zx ⟨1,24,.slice 158 Zw,[.bJ],[.sl 31],[]⟩,Zx ⟨1,24,.slice 163 Zw,[.bJ],[.sl 10],[]⟩,Zx ⟨1,24,.slice 120 Zw,[.bJ],[.sl 4],[]⟩,Zx ⟨1,24,.slice 55 Zw,[.bJ],[.sl 1],[]⟩,Zx ⟨1,24,.slice 62 Zw,[.bJ],[.sl 1],[]⟩,ti8,ti8,Zx ⟨1,24,.slice 72 Zw,[.bJ],[.sl 51],[]⟩,ti9,ti9,bT,bT,bT,bT,Zx ⟨1,24,.slice 3 Zw,[.bJ],[.sl 1],[]⟩,bT,Zx ⟨1,24,.slice 52 Zw,[.bJ],[.sl 4],[]⟩,bT,agq,agq,bT,ti3,ti3,bT,bT,bT,bT,agr,agr,Zx ⟨1,24,.slice 5 Yj,[.bJ],[.c4],[]⟩,ags,ags,agt,agt,agu,agu,agv,agv,agw,agw,bT,Zy,bT,agx,agx,agy,agy,bT,bT,bT,bT,bT,bT,bT,bT,bT,bT,bT,bT,bT,bT,bT,bT,bT,bT,agz,agz,ti1,Zy,bT,agA,agA,bT,Zy,bT,bT,bT,bT,bT,bT,ti3,Zx ⟨1,24,.slice 9 Zw,[.bJ],[.sl 1],[]⟩,bT,Zy,bT,bT,agB,agB,bT,bT,bT,bT,bT,Zy,bT,bT,bT,Zx ⟨1,24,.slice 135 Zw,[.bJ],[.sl 9],[]⟩,agC,agC,Zx ⟨1,24,.slice 61 Zw,[.bJ],[.sl 3],[]⟩,agD,agD,Zx ⟨1,24,.slice 160 Zw,[.bJ],[.sl 5],[]⟩,Zx ⟨1,24,.slice 293 Zw,[.bJ],[.sl 5],[]⟩,agE,agE,agF,agF,agG,agG,bT,agH,agH,agI,agI,Zx ⟨1,24,.slice 66 Zw,[.bJ],[.sl 8],[]⟩,agJ,agJ,agL,agL,agM,agM,Zx ⟨1,24,.slice 253 Zw,[.bJ],[.sl 7],[]⟩,agN,agN,agO,agO,Zx ⟨1,24,.slice 70 Zw,[.bJ],[.sl 12],[]⟩,agP,agP,bT,bT,bT,bT,bT,Zx ⟨1,24,.slice 172 Zw,[.bJ],[.sl 4],[]⟩,bT,agQ,agQ,bT,Zy,bT,bT,agR,agR,bT,agS,agS,bT,agT,agT,bT,bT,agU,agU,bT,bT,agV,agV,bT,bT,agW,agW,bT,agX,agX,bT,bT,bT,bT,Zx ⟨1,8,.ptr 212,[.mr],[.ptr],[]⟩,bT,bT,bT,agY,agY,Zx ⟨1,8,.map 3 4,[.Az],[.other],[]⟩,agZ,agZ,bT,bT,Zx ⟨1,24,.slice 36 Zw,[.bJ],[.sl 1],[]⟩,bT,bT,bT,bT,bT,bT,bT,bT,bT,bT,bT,bT,Zy,bT,bT,bT,bT,Zy,bT,Zy,bT,bT,Zy,bT,bT,bT,Zy,bT,bT,bT,bT,Zy,bT,bT,bT,bT,ag0,ag0,bT,bT,bT,bT,bT,bT,bT,bT,bT,ag1,ag1,bT,bT,ag2,ag2,bT,bT,bT,bT,bT,bT,Zx ⟨1,8,.ptr 209,[.mr],[.ptr],[]⟩,Zy,bT,bT,ti1,Zy,bT,bT,bT,bT,bT,bT,Zx ⟨1,4,.int .u32,[.int .u32 0],[.int .u32],[.int .u32]⟩,bT,bT,bT,bT,ag3,ag3,bT,bT,Zy,bT,bT,bT,bT,Zy,bT,Zy,bT,Zy,bT,Zy,bT,Zy,bT,bT,Zy,bT,bT,Zy,bT,Zy,bT,bT,bT,Zy,bT,bT,ag4,ag4,bT,Zy,bT,bT,Zy,bT,bT,bT,ag5,ag5,bT,Zy,bT,bT,bT,ag6,ag6,bT,bT,bT,bT,bT,Zy,bT,bT,Zy,bT,Zy,bT,Zy,bT,Zy,bT,Zy,bT,Zy,bT,ti3,bT,bT,bT,Zx ⟨1,8,.ptr 3,[.mr],[.ptr],[]⟩,bT,Zy,bT,Zy,bT,bT,Zy,bT,ag7,ag7,Zy,bT,Zy,bT,ag8,ag8,Zy,bT,Zy,bT,Zy,bT,bT,Zy,bT,bT,bT,Zy,bT,bT,bT,Zy,bT,Zy,bT,bT,bT,bT,bT,bT,bT,Zy,bT,bT,Zy,bT,Zy,bT,bT,bT,ag9,ag9,Zy,bT,bT,bT,bT,bT,bT,bT,bT,bT,Zy,bT,Zy,bT,Zy,bT,bT,Zy,bT,Zy,bT,Zy,bT,bT,Zy,bT,XQ,XQ,bT,bT,bT,bT,XQ,XQ,bT,bT,Zx ⟨1,8,.ptr 458,[.mr],[.ptr],[]⟩,ag_,ag_,Zy,bT,Zx ⟨1,8,.ptr 363,[.mr],[.ptr],[]⟩,Zy,bT,bT,bT,bT,Zy,bT,bT,Zy,bT,bT,bT,bT,bT,bT,bT,Zy,bT,bT,bT,bT,Zx ⟨1,8,.ptr 9,[.mr],[.ptr],[]⟩,Zx ⟨1,24,.slice 483 Zw,[.bJ],[.sl 1],[]⟩,bT,bT,bT,bT,Zy,bT,Zx ⟨1,8,.ptr 447,[.mr],[.ptr],[]⟩,bT,bT,bT,Zx ⟨1,8,.ptr 453,[.mr],[.ptr],[]⟩,bT,bT,bT,bT,bT,bT,Zx ⟨4,4,.c8 4 5 Yj,[.u8 0,.u8 0,.u8 0,.u8 0],[.u8,.u8,.u8,.u8],[]⟩,bT,bT,bT,Zx ⟨4,40,.struct [(0,17),(1,17),(2,17),(3,9)],[.mr,.mr,.mr,.str []],[.ptr,.ptr,.ptr,.str],[]⟩,Zy,Zx ⟨0,0,.c8 0 16 Zw,[],[],[]⟩,Zy,Zy,ti2,ti2,bT,Zx ⟨1,8,.ptr 5,[.mr],[.ptr],[]⟩,ti5,ti5,Zy,Zx ⟨11,48,.struct [(0,12),(1,12),(2,287),(3,511),(4,5),(5,5),(6,512),(7,513),(8,514),(9,515),(10,516)],[.int AT 0,.int AT 0,.int .u32 0,.u8 0,.u8 0,.u8 0,.u8 0,.sJ,.mr,.int .i32 0,.int .i32 0],[.int AT,.int AT,.int .u32,.u8,.u8,.u8,.u8,.other,.ptr,.int .i32,.int .i32],[]⟩,Zy]
def YB:List (Nat×Nat×List i_):=[(3,8,[.val 3 3,.val 8 4,.cells 9 [.sl 13,.sl 4,.sl 2,.sl 31,.sl 10,.sl 4,.sl 1,.sl 1,.sl 1,.int AI,.sl 51,.int AI],.ptr 9 9 0,.val 10 40,.val 11 3]),
 (3,19,[.val 8 4,.val 13 49,.val 14 49,.val 15 3]),
 (6,3,[.val 1 25,.cells 4 [.sl 13,.sl 4,.sl 2,.sl 31,.sl 10,.sl 4,.sl 1,.sl 1,.sl 1,.int AI,.sl 51,.int AI],.ptr 4 4 0,.cells 5 [.sl 13,.sl 4,.sl 2,.sl 31,.sl 10,.sl 4,.sl 1,.sl 1,.sl 1,.int AI,.sl 51,.int AI],.ptr 5 5 0,.val 6 3]),
 (9,5,[.val 0 40,.val 1 3,.val 4 3,.cells 5 [.str,.str,.str,.int AT,.int AI,.int AI,.int AI,.int AI,.int AI,.int AI,.c4,.c4],.ptr 5 5 0,.val 6 3]),
 (11,5,[.val 0 40,.val 1 3,.val 4 3,.cells 5 [.str,.str,.str,.int AT,.int AI,.int AI,.int AI,.int AI,.int AI,.int AI,.c4,.c4],.ptr 5 5 0,.val 6 3]),
 (12,4,[.val 0 47,.val 1 47,.val 4 4,.val 5 3]),
 (13,6,[.val 0 40,.val 6 3,.cF 7 3 1 Zw]),
 (14,5,[.val 0 40,.val 1 3,.val 5 3,.val 6 3]),
 (14,10,[.val 0 40,.val 5 3,.cF 7 3 1 Zw]),
 (14,14,[.val 0 40,.val 5 3,.cF 7 3 1 Zw,.val 8 55,.val 9 3,.val 10 3]),
 (14,1000059,[.val 0 3]),
 (15,4,[.val 0 40,.val 1 35,.cF 5 52 4 Zw,.cells 6 [.sl 1,.sl 1],.ptr 6 6 0,.val 10 40,.val 11 3,.val 12 3]),
 (16,3,[.val 0 40,.val 1 35,.cF 5 52 4 Zw,.val 6 3]),
 (16,10,[.val 0 40,.val 1 35,.cF 5 52 4 Zw,.val 6 3,.cells 7 [.int AI,.int AI,.sl 1,.bool],.ptr 7 7 0,.cells 8 [.sl 1,.sl 1],.ptr 8 8 0,.val 9 3]),
 (25,1000038,[.val 0 3]),
 (25,1000042,[.val 0 3]),
 (28,9999999,[.val 0 0]),
 (29,3,[.val 0 40,.val 1 3,.val 2 87,.val 7 3,.val 8 3]),
 (29,5000003,[.val 7 3,.val 8 3]),
 (29,6000003,[.bY 29 1 [2],.bY 29 1 [47],.bY 29 1 [3],.bY 29 1 [5]]),
 (29,9999999,[.val 0 0]),
 (30,9999999,[.val 0 0]),
 (33,9999999,[.val 0 0]),
 (34,2,[.val 0 40,.val 1 89,.val 4 3,.val 5 3]),
 (34,5000002,[.val 4 3,.val 5 3]),
 (34,6000002,[.bY 26 1 [2],.bY 26 1 [7]]),
 (34,9999999,[.val 0 0]),
 (35,9999999,[.val 0 0]),
 (37,9999999,[.val 0 0]),
 (38,1,[.val 0 47,.val 2 3,.val 3 3]),
 (38,5000001,[.rowAt 9000000 Zw 3 1,.val 2 3,.val 3 3]),
 (38,9999999,[.val 0 0]),
 (39,4,[.val 1 40,.cells 4 [.sl 1,.sl 1],.ptr 4 4 0,.val 8 4,.val 16 47,.val 17 3,.val 18 3]),
 (41,3,[.val 0 40,.val 1 35,.val 2 3,.cells 6 [.sl 1,.sl 1],.ptr 6 6 0,.cells 7 [.sl 1,.sl 1],.ptr 7 7 0,.val 8 3]),
 (48,2,[.val 0 36,.val 1 55,.val 5 3]),
 (51,5,[.cells 1 [.u8,.u8,.u8,.u8,.u8,.u8,.u8,.u8,.u8,.u8],.ptr 1 1 0,.cells 2 [.sl 13,.sl 4,.sl 2,.sl 31,.sl 10],.ptr 2 2 0,.val 3 3,.val 4 3,.gw 5 [.own 20500 143 13 Zw,.js (.sl 4),.own 20502 148 2 Zw,.own 20503 158 31 Zw,.own 20504 163 10 Zw],.ptr 5 5 0,.val 6 3]),
 (51,10,[.cells 1 [.u8,.u8,.u8,.u8,.u8,.u8,.u8,.u8,.u8,.u8],.ptr 1 1 0,.cells 2 [.sl 13,.sl 4,.sl 2,.sl 31,.sl 10],.ptr 2 2 0,.val 3 3,.val 4 3,.gw 5 [.own 20500 143 13 Zw,.js (.sl 4),.own 20502 148 2 Zw,.own 20503 158 31 Zw,.own 20504 163 10 Zw],.ptr 5 5 0,.val 6 3,.gw 7 [.js (.str),.own 20701 135 9 Zw],.ptr 7 7 0,.val 8 133,.val 9 3]),
 (51,18,[.cells 1 [.u8,.u8,.u8,.u8,.u8,.u8,.u8,.u8,.u8,.u8],.ptr 1 1 0,.cells 2 [.sl 13,.sl 4,.sl 2,.sl 31,.sl 10],.ptr 2 2 0,.val 3 3,.val 4 3,.gw 5 [.own 20500 143 13 Zw,.js (.sl 4),.own 20502 148 2 Zw,.own 20503 158 31 Zw,.own 20504 163 10 Zw],.ptr 5 5 0,.val 11 3]),
 (51,23,[.cells 1 [.u8,.u8,.u8,.u8,.u8,.u8,.u8,.u8,.u8,.u8],.ptr 1 1 0,.cells 2 [.sl 13,.sl 4,.sl 2,.sl 31,.sl 10],.ptr 2 2 0,.val 3 3,.val 4 3,.gw 5 [.own 20500 143 13 Zw,.js (.sl 4),.own 20502 148 2 Zw,.own 20503 158 31 Zw,.own 20504 163 10 Zw],.ptr 5 5 0,.val 12 47,.val 13 3]),
 (51,30,[.cells 2 [.sl 13,.sl 4,.sl 2,.sl 31,.sl 10],.ptr 2 2 0,.val 3 3,.val 4 3,.gw 5 [.own 20500 143 13 Zw,.js (.sl 4),.own 20502 148 2 Zw,.own 20503 158 31 Zw,.own 20504 163 10 Zw],.ptr 5 5 0,.val 17 3]),
 (52,17,[.val 0 30,.val 1 31,.val 2 32,.val 3 33,.val 4 34,.cells 10 [.sl 13,.sl 4,.sl 2,.sl 31,.sl 10,.sl 4,.sl 1,.sl 1,.sl 1,.int AI,.sl 51,.int AI],.ptr 10 10 0,.val 11 100,.gw 12 [.own 21200 143 13 Zw,.own 21201 146 4 Zw,.own 21202 148 2 Zw,.own 21203 158 31 Zw,.own 21204 163 10 Zw,.js (.sl 4),.js (.sl 1),.js (.sl 1),.js (.sl 1),.js (.int AI),.js (.sl 51),.js (.int AI)],.ptr 12 12 0,.val 14 169,.val 15 3]),
 (52,20,[.val 0 30,.val 1 31,.val 2 32,.val 3 33,.val 4 34,.cells 10 [.sl 13,.sl 4,.sl 2,.sl 31,.sl 10,.sl 4,.sl 1,.sl 1,.sl 1,.int AI,.sl 51,.int AI],.ptr 10 10 0,.val 11 100,.gw 12 [.own 21200 143 13 Zw,.own 21201 146 4 Zw,.own 21202 148 2 Zw,.own 21203 158 31 Zw,.own 21204 163 10 Zw,.js (.sl 4),.js (.sl 1),.js (.sl 1),.js (.sl 1),.js (.int AI),.js (.sl 51),.js (.int AI)],.ptr 12 12 0,.val 14 169,.val 15 3,.val 16 3]),
 (53,9999999,[.val 0 0]),
 (54,9999999,[.val 0 0]),
 (59,2,[.val 1 3,.val 2 3,.val 3 5,.val 4 3,.cells 5 [.sl 13,.sl 4,.sl 2,.sl 31,.sl 10,.sl 4,.sl 1,.sl 1,.sl 1,.int AI,.sl 51,.int AI],.ptr 5 5 0,.cells 10 [.int AI,.int AI,.int AI,.int AI,.int AI,.c4],.ptr 10 10 0,.val 11 3]),
 (59,13,[.val 1 3,.val 2 3,.val 3 5,.val 4 3,.cells 5 [.sl 13,.sl 4,.sl 2,.sl 31,.sl 10,.sl 4,.sl 1,.sl 1,.sl 1,.int AI,.sl 51,.int AI],.ptr 5 5 0,.cells 10 [.int AI,.int AI,.int AI,.int AI,.int AI,.c4],.ptr 10 10 0,.cells 12 [.str,.str,.str,.int AI,.int AI,.bool,.str,.str,.str,.sl 8,.int AI,.str,.str,.str,.int AT,.int AI,.int AI,.int AI,.int AI],.ptr 12 12 0,.cells 13 [.str,.str,.str],.ptr 13 13 0,.val 15 3]),
 (63,3,[.cells 4 [.sl 1,.sl 1],.ptr 4 4 0,.gw 1000015 [.own 4001 55 1 Zw,.own 4002 62 1 Zw,.tS 4003 Zw AI],.ptr 5 1000015 0,.val 11 37,.val 12 3,.val 13 3]),
 (64,3000003,[.cells 4 [.sl 1,.sl 1],.ptr 4 4 0,.gw 800015 [.own 4021 55 1 Zw,.own 4022 62 1 Zw,.tS 4023 Zw AI],.ptr 5 800015 0]),
 (66,2,[.val 0 36,.val 1 55,.val 4 4,.val 5 3]),
 (67,3,[.val 0 215,.val 3 3,.val 9 215,.val 10 3,.val 11 3]),
 (67,11,[.cF 6 55 1 Zw,.val 25 215,.val 26 3,.val 27 3]),
 (69,4,[.val 0 36,.val 2 36,.val 3 3]),
 (69,9,[.val 0 36,.val 3 3,.val 4 36,.val 5 3]),
 (69,5000004,[.val 3 3]),
 (69,5000009,[.cells 99999 []]),
 (70,5,[.val 4 55,.val 10 62,.val 11 3,.val 12 3]),
 (73,5,[.val 0 62,.val 4 55,.val 5 3]),
 (77,2,[.val 0 30,.val 2 100,.val 3 3]),
 (78,4,[.val 0 31,.val 2 100,.val 3 3]),
 (79,3,[.val 0 30,.val 1 32,.val 4 100,.cF 5 3 1 Zw,.val 6 3]),
 (79,9,[.val 0 30,.val 4 100,.cF 5 3 1 Zw,.val 7 3]),
 (79,12,[.val 0 30,.val 4 100,.cF 5 3 1 Zw,.val 7 3,.val 8 3]),
 (79,18,[.val 4 100,.cF 5 3 1 Zw,.val 9 3]),
 (79,21,[.val 4 100,.cF 5 3 1 Zw,.val 9 3,.val 10 3]),
 (80,2,[.val 0 32,.val 1 33,.val 4 100,.val 5 3]),
 (81,2,[.val 0 32,.val 1 34,.val 4 100,.val 5 3]),
 (81,13,[.val 0 32,.val 1 34,.val 4 100,.val 5 3,.cells 6 [.int AI,.str,.str,.str,.sl 5,.int AI,.int AI,.sl 5,.int AI,.sl 12],.ptr 6 6 0,.val 8 3]),
 (82,3,[.val 0 30,.val 1 31,.val 2 33,.val 3 34,.cF 9 172 4 Zw,.val 10 3]),
 (82,7,[.val 0 30,.val 1 31,.val 2 33,.val 3 34,.cF 9 172 4 Zw,.val 10 3,.cells 11 [.str,.sl 9],.ptr 11 11 0,.val 12 3]),
 (82,12,[.val 1 31,.val 2 33,.val 3 34,.cF 9 172 4 Zw,.val 14 3]),
 (82,16,[.val 2 33,.val 3 34,.cF 9 172 4 Zw,.val 15 3]),
 (82,19,[.val 2 33,.val 3 34,.cF 9 172 4 Zw,.val 15 3,.val 16 3]),
 (82,24,[.val 2 33,.cF 9 172 4 Zw,.val 18 3]),
 (83,9999999,[.val 0 0]),
 (84,9999999,[.val 0 0]),
 (86,9999999,[.val 0 0]),
 (87,5,[.cells 2 [.sl 13,.sl 4,.sl 2,.sl 31,.sl 10,.sl 4,.sl 1,.sl 1,.sl 1,.int AI,.sl 51,.int AI],.ptr 2 2 0,.cells 3 [.int AI,.int AI,.int AI,.int AI,.int AI,.c4],.ptr 3 3 0,.cells 4 [.sl 13,.sl 4,.sl 2,.sl 31,.sl 10,.sl 4,.sl 1,.sl 1,.sl 1,.int AI,.sl 51,.int AI],.ptr 4 4 0,.val 5 4,.cells 6 [.int AI,.int AI,.c4,.bool],.ptr 6 6 0,.val 7 3]),
 (87,9999999,[.val 0 0]),
 (88,9999999,[.val 0 0]),
 (89,9999999,[.val 0 0]),
 (90,9999999,[.val 0 0]),
 (91,9999999,[.val 0 0]),
 (92,9999999,[.val 0 0]),
 (93,9999999,[.val 0 0]),
 (95,3,[.val 1 5,.val 2 3,.cells 3 [.sl 13,.sl 4,.sl 2,.sl 31,.sl 10,.sl 4,.sl 1,.sl 1,.sl 1,.int AI,.sl 51,.int AI],.ptr 3 3 0,.cF 7 62 1 Zw,.val 8 3]),
 (99,8,[.cells 1 [.bool,.str,.str,.str,.int AI,.int AI,.str],.ptr 1 1 0,.val 2 62,.val 3 100,.val 4 3]),
 (103,2000001,[.cells 1 [.int AI,.str,.str,.str,.int AI,.str,.c4,.str,.str,.c4],.ptr 1 1 0,.val 13 4,.val 3 100]),
 (103,2000003,[.cells 1 [.int AI,.str,.str,.str,.int AI,.str,.c4,.str,.str,.c4],.ptr 1 1 0,.val 46 4,.val 3 100]),
 (103,2000005,[.cells 1 [.int AI,.str,.str,.str,.int AI,.str,.c4,.str,.str,.c4],.ptr 1 1 0,.val 56 4,.val 3 100]),
 (103,2000007,[.cells 1 [.int AI,.str,.str,.str,.int AI,.str,.c4,.str,.str,.c4],.ptr 1 1 0,.val 72 4,.val 3 100]),
 (103,2000009,[.cells 1 [.int AI,.str,.str,.str,.int AI,.str,.c4,.str,.str,.c4],.ptr 1 1 0,.val 113 4,.val 3 100]),
 (105,2,[.val 1 3,.cells 2 [.sl 13,.sl 4,.sl 2,.sl 31,.sl 10,.sl 4,.sl 1,.sl 1,.sl 1,.int AI,.sl 51,.int AI],.ptr 2 2 0,.val 4 4,.val 5 3]),
 (106,3,[.val 1 3,.cells 2 [.sl 13,.sl 4,.sl 2,.sl 31,.sl 10,.sl 4,.sl 1,.sl 1,.sl 1,.int AI,.sl 51,.int AI],.ptr 2 2 0,.val 4 3,.cells 5 [.str,.str,.str],.ptr 5 5 0,.val 6 3]),
 (106,10,[.cells 2 [.sl 13,.sl 4,.sl 2,.sl 31,.sl 10,.sl 4,.sl 1,.sl 1,.sl 1,.int AI,.sl 51,.int AI],.ptr 2 2 0,.val 4 3,.cells 7 [.int AI,.int AI,.c4,.bool],.ptr 7 7 0,.val 8 3,.val 9 3]),
 (106,18,[.cells 2 [.sl 13,.sl 4,.sl 2,.sl 31,.sl 10,.sl 4,.sl 1,.sl 1,.sl 1,.int AI,.sl 51,.int AI],.ptr 2 2 0,.val 4 3,.cells 7 [.int AI,.int AI,.c4,.bool],.ptr 7 7 0,.val 8 3,.val 11 3]),
 (107,2,[.cells 2 [.str,.str,.str,.int AI,.int AI,.bool,.str,.str,.str,.sl 8,.int AI,.str,.str,.str,.int AT,.int AI,.int AI,.int AI,.int AI],.ptr 2 2 0,.cells 3 [.str,.str,.str],.ptr 3 3 0,.val 4 4,.val 5 3]),
 (112,8000177,[.cells 0 [.bool],.bY 12 2 [19]]),
 (113,1,[.val 2 29]),
 (113,5000001,[.gw 9000000 [.own 4001 55 1 Zw,.own 4002 62 1 Zw,.tS 4003 Zw AI]]),
 (113,6000001,[.bY 6 1 [10],.bY 6 1 [24],.bY 6 1 [24,24],.bY 6 1 [24,5],.bY 6 1 [24,36],.bY 6 1 [24,36,10],.bY 6 1 [24,36,10,2],.bY 6 1 [24,36,10,8],.bY 6 1 [24,36,10,8,7],.bY 6 1 [24,36,10,8,7,7],.bY 6 1 [24,36,10,8,7,7,7],.bY 6 1 [24,45],.bY 6 1 [24,53],.bY 6 1 [24,53,7],.bY 6 1 [24,53,7,7],.bY 6 1 [24,53,7,16],.bY 6 1 [24,53,7,16,10],.bY 6 1 [24,53,7,16,10,2],.bY 6 1 [24,53,7,16,10,8],.bY 6 1 [24,53,7,16,10,8,7],.bY 6 1 [24,53,7,16,10,8,7,7],.bY 6 1 [24,53,7,16,10,8,7,7,7],.bY 6 1 [24,61],.bY 6 1 [24,61,7],.bY 6 1 [24,61,7,7],.bY 6 1 [24,61,7,16],.bY 6 1 [24,61,7,16,12],.bY 6 1 [24,61,7,16,19],.bY 6 1 [24,65],.bY 6 1 [24,74],.bY 6 1 [24,74,6],.bY 6 1 [24,74,6,10],.bY 6 1 [24,74,6,10,2],.bY 6 1 [24,74,6,10,8],.bY 6 1 [24,74,6,10,8,7],.bY 6 1 [24,74,6,10,8,7,7],.bY 6 1 [24,74,6,10,8,7,7,7],.bY 6 1 [24,74,14],.bY 6 1 [24,77],.bY 6 1 [24,86],.bY 6 1 [24,86,6],.bY 6 1 [24,86,6,12],.bY 6 1 [24,86,6,19],.bY 6 1 [24,86,14],.bY 6 1 [24,86,15],.bY 6 1 [24,4001],.bY 6 1 [24,4002],.bY 6 1 [24,4003],.bY 6 1 [24,4011],.bY 6 1 [24,4012],.bY 6 1 [24,4013],.bY 6 1 [4001],.bY 6 1 [4002],.bY 6 1 [4003]]),
 (115,8000180,[.cells 0 [.bool],.bY 10 2 [],.bY 10 1 [2],.bY 10 1 [8],.bY 10 1 [8,7],.bY 10 1 [8,7,7],.bY 10 1 [8,7,7,7]]),
 (118,2,[.rowAt 0 Yj 55 1,.ij 0 0 55 1,.val 1 3,.val 2 3,.val 3 3,.val 8 4,.val 9 4]),
 (118,2000014,[.rowAt 0 Yj 55 1,.ij 0 0 55 1,.val 1 3,.val 2 3,.val 3 3,.val 8 4,.val 9 4,.val 10 3,.val 11 3,.val 12 279]),
 (118,2000015,[.rowAt 0 Yj 55 1,.ij 0 0 55 1,.val 1 3,.val 2 3,.val 3 3,.val 8 4,.val 9 4,.val 10 3,.val 11 3,.val 68 4]),
 (118,2000016,[.rowAt 0 Yj 55 1,.ij 0 0 55 1,.val 1 3,.val 2 3,.val 3 3,.val 8 4,.val 9 4,.val 10 3,.val 11 3,.val 72 4]),
 (118,2000017,[.rowAt 0 Yj 55 1,.ij 0 0 55 1,.val 1 3,.val 2 3,.val 3 3,.val 8 4,.val 9 4,.val 10 3,.val 11 3,.val 87 4]),
 (118,3000008,[.rowAt 0 Yj 55 1,.ij 0 0 55 1,.val 1 3,.val 2 3,.val 3 3,.val 8 4,.val 9 4,.val 10 3]),
 (118,3000012,[.rowAt 0 Yj 55 1,.ij 0 0 55 1,.val 1 3,.val 2 3,.val 3 3,.val 8 4,.val 9 4,.val 10 3,.val 11 3,.val 12 279]),
 (121,6,[.cells 1 [.str,.sl 9],.ptr 1 1 0,.val 2 100,.val 3 3]),
 (122,6,[.cells 1 [.int AI,.int AI,.sl 5],.ptr 1 1 0,.val 2 100,.val 3 3]),
 (125,2,[.val 0 31,.val 1 9,.val 2 9,.val 3 3,.val 8 55,.val 9 4,.val 10 3]),
 (128,9999999,[.val 0 0]),
 (130,3,[.cells 2 [.sl 1,.sl 1],.ptr 2 2 0,.val 4 4,.val 5 37,.val 6 3]),
 (131,4,[.val 1 36,.val 2 37,.cells 6 [.sl 1,.sl 1],.ptr 6 6 0,.gw 8 [.js (.sl 1),.own 20801 62 1 Zw],.ptr 8 8 0,.val 9 4,.val 10 3]),
 (131,9,[.val 2 37,.cells 6 [.sl 1,.sl 1],.ptr 6 6 0,.gw 8 [.js (.sl 1),.own 20801 62 1 Zw],.ptr 8 8 0,.val 9 4,.val 11 3]),
 (131,8000202,[.cells 0 [.bool],.bY 8 2 []]),
 (133,2,[.cells 1 [.sl 1,.sl 1],.ptr 1 1 0,.cells 2 [.sl 1,.sl 1],.ptr 2 2 0,.val 3 3]),
 (134,9999999,[.val 0 0]),
 (135,29,[.val 1 3,.cells 3 [.sl 13,.sl 4,.sl 2,.sl 31,.sl 10,.sl 4,.sl 1,.sl 1,.sl 1,.int AI,.sl 51,.int AI],.ptr 3 3 0,.cells 6 [.sl 13,.sl 4,.sl 2,.sl 31,.sl 10,.sl 4,.sl 1,.sl 1,.sl 1,.int AI,.sl 51,.int AI],.ptr 6 6 0,.cells 7 [.int AI,.int AT,.str,.str,.str,.int AI,.int AI,.bool,.str,.str,.str,.sl 8,.int AI,.str,.str,.str,.int AT,.int AI,.int AI,.int AI,.int AI,.int AI,.int AI,.int AI,.int AI,.str,.str,.str,.int AT,.int AT,.sl 7],.ptr 7 7 0,.cells 8 [.int AI,.int AI,.c4,.bool],.ptr 8 8 0,.cells 9 [.int AI,.int AI],.ptr 9 9 0,.cells 10 [.str,.str,.str],.ptr 10 10 0,.cells 11 [.str,.str,.str,.int AT,.int AI,.int AI,.int AI,.c4],.ptr 11 11 0,.val 12 100,.val 20 3]),
 (135,9999999,[.val 0 0]),
 (136,9999999,[.val 0 0]),
 (137,2,[.val 1 9,.cells 2 [.sl 13,.sl 4,.sl 2,.sl 31,.sl 10,.sl 4,.sl 1,.sl 1,.sl 1,.int AI,.sl 51,.int AI],.ptr 2 2 0,.val 4 3,.val 5 4,.val 6 3]),
 (137,9999999,[.val 0 0]),
 (139,9999999,[.val 0 0]),
 (141,9999999,[.val 0 0]),
 (148,9999999,[.val 0 0]),
 (149,9999999,[.val 0 0]),
 (163,3,[.val 1 5,.val 2 3,.cells 3 [.sl 13,.sl 4,.sl 2,.sl 31,.sl 10,.sl 4,.sl 1,.sl 1,.sl 1,.int AI,.sl 51,.int AI],.ptr 3 3 0,.cF 7 55 1 Zw,.val 8 3]),
 (167,1000023,[.val 0 3]),
 (170,2,[.val 1 3,.cells 2 [.sl 13,.sl 4,.sl 2,.sl 31,.sl 10,.sl 4,.sl 1,.sl 1,.sl 1,.int AI,.sl 51,.int AI],.ptr 2 2 0,.cells 4 [.str,.str,.str],.ptr 4 4 0,.val 5 3]),
 (171,3,[.val 0 62,.val 4 4,.val 5 9,.val 6 3]),
 (175,3,[.cF 3 62 1 Zw,.val 6 37,.val 7 3,.val 8 3]),
 (177,2,[.val 1 62,.val 4 4,.val 11 37,.val 12 3,.val 13 3]),
 (177,5000002,[.val 4 4,.val 13 3]),
 (178,2,[.cells 0 [.sl 1,.sl 1,.other],.ptr 0 0 0,.val 2 4,.val 10 3,.val 11 3]),
 (178,5000002,[.val 2 4,.val 11 3,.gw 9000000 [.own 4001 55 1 Zw,.own 4002 62 1 Zw,.tS 4003 Zw AI]]),
 (178,6000002,[.bY 24 1 [24],.bY 24 1 [5],.bY 24 1 [36],.bY 24 1 [36,10],.bY 24 1 [36,10,2],.bY 24 1 [36,10,8],.bY 24 1 [36,10,8,7],.bY 24 1 [36,10,8,7,7],.bY 24 1 [36,10,8,7,7,7],.bY 24 1 [45],.bY 24 1 [53],.bY 24 1 [53,7],.bY 24 1 [53,7,7],.bY 24 1 [53,7,16],.bY 24 1 [53,7,16,10],.bY 24 1 [53,7,16,10,2],.bY 24 1 [53,7,16,10,8],.bY 24 1 [53,7,16,10,8,7],.bY 24 1 [53,7,16,10,8,7,7],.bY 24 1 [53,7,16,10,8,7,7,7],.bY 24 1 [61],.bY 24 1 [61,7],.bY 24 1 [61,7,7],.bY 24 1 [61,7,16],.bY 24 1 [61,7,16,12],.bY 24 1 [61,7,16,19],.bY 24 1 [65],.bY 24 1 [74],.bY 24 1 [74,6],.bY 24 1 [74,6,10],.bY 24 1 [74,6,10,2],.bY 24 1 [74,6,10,8],.bY 24 1 [74,6,10,8,7],.bY 24 1 [74,6,10,8,7,7],.bY 24 1 [74,6,10,8,7,7,7],.bY 24 1 [74,14],.bY 24 1 [77],.bY 24 1 [86],.bY 24 1 [86,6],.bY 24 1 [86,6,12],.bY 24 1 [86,6,19],.bY 24 1 [86,14],.bY 24 1 [86,15],.bY 24 1 [4001],.bY 24 1 [4002],.bY 24 1 [4003],.bY 24 1 [4011],.bY 24 1 [4012],.bY 24 1 [4013]]),
 (180,8000062,[.cells 0 [.bool],.bY 2 2 [8],.bY 8 1 [7],.bY 8 1 [7,7],.bY 8 1 [7,7,7]]),
 (182,1,[.rowAt 0 Yj 55 1,.ij 0 0 55 1,.val 1 3,.val 2 3,.val 6 3]),
 (182,4,[.rowAt 0 Yj 55 1,.ij 0 0 55 1,.val 1 3,.val 2 3,.val 6 3,.val 7 3]),
 (183,4,[.rowAt 0 Yj 55 1,.ij 0 0 55 1,.val 6 3,.val 7 3,.val 8 3,.val 9 3]),
 (183,8,[.rowAt 0 Yj 55 1,.ij 0 0 55 1,.val 6 3,.val 7 3,.val 10 3]),
 (184,5,[.rowAt 0 Yj 55 1,.ij 0 0 55 1,.val 1 3,.val 6 3,.cells 7 [.int AT],.ptr 7 7 0,.val 8 113,.val 9 3]),
 (186,2,[.rowAt 0 Yj 55 1,.ij 0 0 55 1,.val 6 3,.val 7 3]),
 (187,3,[.rowAt 0 Yj 55 1,.ij 0 0 55 1,.val 1 3,.val 2 3,.val 6 4,.val 7 3,.val 8 3]),
 (187,5,[.rowAt 0 Yj 55 1,.ij 0 0 55 1,.val 1 3,.val 2 3,.val 7 3,.val 8 3,.val 6 4]),
 (187,14,[.rowAt 0 Yj 55 1,.ij 0 0 55 1,.val 1 3,.val 2 3,.val 7 3,.val 8 3,.val 9 3,.val 6 4]),
 (187,20,[.rowAt 0 Yj 55 1,.ij 0 0 55 1,.val 1 3,.val 2 3,.val 7 3,.val 8 3,.val 10 3,.val 6 4]),
 (189,3,[.rowAt 0 Yj 55 1,.ij 0 0 55 1,.val 1 3,.val 9 3,.val 10 3]),
 (189,5,[.rowAt 0 Yj 55 1,.ij 0 0 55 1,.val 1 3,.val 9 3,.val 10 3]),
 (190,3,[.rowAt 0 Yj 55 1,.ij 0 0 55 1,.val 1 3,.val 10 3,.val 11 3]),
 (190,5,[.rowAt 0 Yj 55 1,.ij 0 0 55 1,.val 1 3,.val 10 3,.val 11 3]),
 (190,13,[.rowAt 0 Yj 55 1,.ij 0 0 55 1,.val 1 3,.val 10 3,.val 11 3]),
 (190,15,[.rowAt 0 Yj 55 1,.ij 0 0 55 1,.val 1 3,.val 10 3,.val 11 3]),
 (196,2,[.cells 2 [.int AI,.int AI,.sl 5],.ptr 2 2 0,.cells 3 [.str,.str,.str,.int AI,.int AI],.ptr 3 3 0,.val 4 4,.val 5 3]),
 (197,2,[.val 0 9,.val 1 9,.val 4 4,.val 5 3]),
 (197,7,[.val 0 9,.val 1 9,.val 4 4,.val 5 3,.val 6 3]),
 (199,6,[.cells 1 [.str,.str,.str,.sl 8],.ptr 1 1 0,.val 2 100,.val 3 3]),
 (200,4,[.val 0 136,.val 2 100,.val 3 3]),
 (201,8,[.cells 2 [.sl 1,.sl 1],.ptr 2 2 0,.val 4 4,.val 8 36,.val 9 37,.val 10 3]),
 (201,13,[.cells 2 [.sl 1,.sl 1],.ptr 2 2 0,.val 4 4,.val 9 37,.val 11 3]),
 (201,8000202,[.cells 0 [.bool],.bY 8 2 []]),
 (202,2,[.val 0 37,.val 1 62,.val 4 4,.val 5 3]),
 (202,5000002,[.val 4 4,.val 5 3]),
 (225,1,[.val 0 36,.val 1 3,.val 2 3]),
 (232,3,[.val 1 3,.val 2 3,.val 3 4,.fm 9 5 Zw,.val 10 3]),
 (235,3,[.val 0 55,.fm 3 5 Zw,.val 4 3]),
 (236,2,[.fm 3 5 Zw]),
 (237,2,[.val 0 36,.val 1 55,.val 4 3,.val 7 3,.val 8 3]),
 (237,5000002,[.val 4 3,.val 8 3]),
 (246,9,[.cells 0 [.sl 1,.sl 1,.other],.ptr 0 0 0,.val 9 37,.val 64 36,.val 65 3,.val 66 3]),
 (246,14,[.cells 0 [.sl 1,.sl 1,.other],.ptr 0 0 0,.val 76 37,.val 77 3,.val 78 3]),
 (246,5000009,[.val 66 3,.gw 9000000 [.own 4001 55 1 Zw,.own 4002 62 1 Zw,.tS 4003 Zw AI]]),
 (246,5000014,[.val 78 3,.gw 9000000 [.own 4011 55 1 Zw,.own 4012 62 1 Zw,.tS 4013 Zw AI]]),
 (246,6000009,[.bY 36 1 [10],.bY 36 1 [10,2],.bY 36 1 [10,8],.bY 36 1 [10,8,7],.bY 36 1 [10,8,7,7],.bY 36 1 [10,8,7,7,7],.bY 53 1 [7],.bY 53 1 [7,7],.bY 53 1 [7,16],.bY 53 1 [7,16,10],.bY 53 1 [7,16,10,2],.bY 53 1 [7,16,10,8],.bY 53 1 [7,16,10,8,7],.bY 53 1 [7,16,10,8,7,7],.bY 53 1 [7,16,10,8,7,7,7],.bY 61 1 [7],.bY 61 1 [7,7],.bY 61 1 [7,16],.bY 61 1 [7,16,12],.bY 61 1 [7,16,19],.bY 74 1 [6],.bY 74 1 [6,10],.bY 74 1 [6,10,2],.bY 74 1 [6,10,8],.bY 74 1 [6,10,8,7],.bY 74 1 [6,10,8,7,7],.bY 74 1 [6,10,8,7,7,7],.bY 74 1 [14],.bY 86 1 [6],.bY 86 1 [6,12],.bY 86 1 [6,19],.bY 86 1 [14],.bY 86 1 [15]]),
 (246,6000014,[.bY 36 1 [10],.bY 36 1 [10,2],.bY 36 1 [10,8],.bY 36 1 [10,8,7],.bY 36 1 [10,8,7,7],.bY 36 1 [10,8,7,7,7],.bY 53 1 [7],.bY 53 1 [7,7],.bY 53 1 [7,16],.bY 53 1 [7,16,10],.bY 53 1 [7,16,10,2],.bY 53 1 [7,16,10,8],.bY 53 1 [7,16,10,8,7],.bY 53 1 [7,16,10,8,7,7],.bY 53 1 [7,16,10,8,7,7,7],.bY 61 1 [7],.bY 61 1 [7,7],.bY 61 1 [7,16],.bY 61 1 [7,16,12],.bY 61 1 [7,16,19],.bY 74 1 [6],.bY 74 1 [6,10],.bY 74 1 [6,10,2],.bY 74 1 [6,10,8],.bY 74 1 [6,10,8,7],.bY 74 1 [6,10,8,7,7],.bY 74 1 [6,10,8,7,7,7],.bY 74 1 [14],.bY 86 1 [6],.bY 86 1 [6,12],.bY 86 1 [6,19],.bY 86 1 [14],.bY 86 1 [15]]),
 (246,8000177,[.cells 0 [.bool],.bY 12 2 [19]]),
 (246,8000180,[.cells 0 [.bool],.bY 10 2 [],.bY 10 1 [2],.bY 10 1 [8],.bY 10 1 [8,7],.bY 10 1 [8,7,7],.bY 10 1 [8,7,7,7]]),
 (246,8000335,[.cells 0 [.bool],.bY 7 2 [],.bY 7 1 [7],.bY 7 1 [16],.bY 7 1 [16,10],.bY 7 1 [16,10,2],.bY 7 1 [16,10,8],.bY 7 1 [16,10,8,7],.bY 7 1 [16,10,8,7,7],.bY 7 1 [16,10,8,7,7,7]]),
 (246,8000336,[.cells 0 [.bool],.bY 7 2 [],.bY 7 1 [7],.bY 7 1 [16],.bY 7 1 [16,12],.bY 7 1 [16,19]]),
 (250,3,[.val 0 37,.cF 3 62 1 Zw,.val 4 3]),
 (258,1,[.rowAt 0 Yj 55 1,.ij 0 0 55 1,.val 2 3,.val 3 3,.val 8 3]),
 (267,2,[.cells 2 [.str,.str,.str,.sl 8],.ptr 2 2 0,.cells 3 [.str,.str,.str],.ptr 3 3 0,.cells 4 [.str,.str,.str,.int AT,.int AI,.int AI,.int AI,.c4],.ptr 4 4 0,.val 5 4,.val 6 3]),
 (268,2,[.val 0 136,.val 2 3,.cells 4 [.str,.str,.str],.ptr 4 4 0,.val 6 55,.val 7 4,.val 8 3]),
 (276,6,[.val 1 31,.cells 2 [.str,.sl 9],.ptr 2 2 0,.cF 5 160 5 Zw,.val 8 3]),
 (281,5,[.val 0 3,.val 2 47,.val 8 3,.val 9 3]),
 (281,7,[.val 0 3,.val 2 47,.val 8 3,.val 9 3]),
 (297,8,[.cells 2 [.str,.str,.str,.sl 8],.ptr 2 2 0,.cells 3 [.str,.str,.str,.int AT,.int AI,.int AI,.int AI,.c4],.ptr 3 3 0,.cells 4 [.str,.str,.str,.sl 8],.ptr 4 4 0,.cF 7 66 8 Zw,.val 8 3]),
 (310,4,[.val 0 62,.val 1 3,.cells 4 [.str,.str,.str],.ptr 4 4 0,.val 5 3,.val 6 100,.cells 7 [.str,.str,.str],.ptr 7 7 0,.bY 14 7 [0,1,2],.val 15 3,.val 16 3]),
 (337,5,[.val 1 47,.val 4 4,.val 5 100,.val 6 3,.val 7 4,.val 9 3]),
 (348,3,[.val 1 9,.val 2 9,.cells 3 [.str,.sl 9],.ptr 3 3 0,.val 8 3,.val 9 3,.val 10 3]),
 (352,13,[.cells 4 [.int AI,.int AI,.sl 5],.ptr 4 4 0,.cells 5 [.str,.str,.str,.int AI,.int AI],.ptr 5 5 0,.cells 8 [.int AI,.int AI,.sl 5],.ptr 8 8 0,.gw 10 [.js (.int AI),.js (.int AI),.own 21002 293 5 Zw],.ptr 10 10 0,.val 11 3]),
 (354,3,[.val 0 31,.val 1 9,.val 2 9,.val 8 3,.val 9 3]),
 (365,2,[.val 0 3,.val 4 4,.val 7 47,.val 8 3,.val 9 3]),
 (367,6,[.val 0 62,.val 1 3,.val 2 3,.val 3 4,.val 12 3,.val 22 3,.val 23 3]),
 (375,3,[.val 0 37,.val 3 3,.val 9 37,.val 10 3,.val 11 3]),
 (375,11,[.fm 6 5 Zw,.val 25 37,.val 26 3,.val 27 3]),
 (392,3,[.cF 3 55 1 Zw,.val 6 36,.val 7 3,.val 8 3]),
 (398,2,[.val 0 36,.val 1 213,.val 4 3,.val 7 3,.val 8 3]),
 (398,5000002,[.val 4 3,.val 8 3]),
 (398,6000002,[.bY 16 1 [10],.bY 16 1 [10,2],.bY 16 1 [10,8],.bY 16 1 [10,8,7],.bY 16 1 [10,8,7,7],.bY 16 1 [10,8,7,7,7]]),
 (398,8000180,[.cells 0 [.bool],.bY 10 2 [],.bY 10 1 [2],.bY 10 1 [8],.bY 10 1 [8,7],.bY 10 1 [8,7,7],.bY 10 1 [8,7,7,7]]),
 (399,2,[.val 0 37,.val 1 97,.val 4 3,.val 7 3,.val 8 3]),
 (399,5000002,[.val 4 3,.val 8 3]),
 (399,6000002,[.bY 16 1 [12],.bY 16 1 [19]]),
 (399,8000177,[.cells 0 [.bool],.bY 12 2 [19]]),
 (405,4,[.val 0 62,.val 1 3,.val 4 9,.val 5 3,.val 6 100,.val 7 3]),
 (409,3,[.val 0 62,.val 1 3,.val 2 3,.val 3 4,.jG 9 Zw,.ptr 9 9 0,.val 12 3,.val 13 3]),
 (412,2,[.val 0 9,.val 1 9,.val 4 4,.val 7 3,.val 8 3]),
 (425,6,[.val 2 3,.val 3 4,.val 11 62,.val 12 3,.val 14 3,.val 15 3]),
 (428,3,[.val 0 55,.fm 3 5 Zw,.val 7 3,.val 8 3])]
def akJ:List Nat:=[117,155,173,174,232,236,410,153,158,161,162,375,304,308,378,409,82,371,372,373,374,45,1011904,1011648,1011968,1012096,1012160,1016512,1022144,1011712,1011776,1016768,1016704,1011840,1007552,1004352]
def akT:List (Nat×List Nat):=[(11,[3]),(12,[4]),(14,[47]),(25,[62]),(26,[55]),(36,[4]),(48,[36]),(55,[3]),(56,[3]),(57,[3]),(66,[4]),(71,[4]),(72,[62]),(74,[55]),(75,[4]),(105,[4]),(107,[4]),(108,[114]),(117,[36]),(123,[4]),(125,[55,4]),(129,[61]),(152,[4]),(154,[62]),(155,[62]),(160,[4]),(168,[4]),(169,[4]),(170,[61]),(171,[4]),(173,[36]),(174,[37]),(186,[]),(192,[3]),(193,[55]),(195,[4]),(196,[4]),(197,[4]),(204,[3,4,100]),(213,[156]),(216,[4]),(218,[153]),(222,[4]),(228,[4]),(229,[3]),(232,[62]),(235,[62]),(236,[62]),(247,[4]),(248,[4]),(260,[54]),(263,[4]),(264,[4]),(266,[4]),(267,[66,4]),(268,[55,4]),(275,[4]),(282,[47]),(299,[9]),(300,[3,4]),(303,[4]),(348,[3,100]),(353,[9]),(354,[3,4]),(356,[132]),(358,[3]),(362,[4]),(363,[4]),(365,[4]),(368,[100]),(369,[4]),(377,[4]),(383,[4]),(387,[4]),(388,[4]),(389,[]),(401,[]),(404,[62,3,100]),(405,[9,3,100]),(407,[132]),(408,[4]),(410,[62]),(411,[3]),(416,[4]),(419,[4]),(428,[62]),(434,[4]),(436,[4]),(437,[3]),(10,[3]),(42,[4]),(60,[9]),(79,[100]),(101,[62]),(106,[3]),(119,[3]),(120,[4]),(124,[4]),(131,[39,4]),(150,[61]),(153,[62]),(156,[4]),(157,[4]),(158,[62]),(161,[62]),(162,[62]),(179,[3,3,4]),(188,[4]),(220,[61]),(223,[3]),(225,[3]),(281,[3,4]),(288,[132]),(296,[4]),(314,[62,3,100]),(337,[4,100]),(342,[62]),(344,[9]),(360,[132]),(364,[3,4,100]),(367,[3,3,100]),(370,[62]),(375,[62]),(379,[3]),(425,[3,3,100]),(433,[4]),(435,[3]),(13,[47]),(27,[61]),(59,[77]),(73,[55,4]),(76,[61]),(78,[100]),(94,[62,100]),(95,[62]),(104,[62,100]),(114,[4]),(132,[36]),(145,[55,4]),(159,[4]),(167,[62,100]),(182,[]),(187,[4]),(189,[3]),(190,[3,4]),(194,[100]),(230,[3]),(258,[]),(259,[113]),(276,[136]),(302,[4]),(304,[62,100]),(305,[3,100]),(308,[62]),(309,[4,100]),(311,[3,3,100]),(312,[3,3,100]),(313,[3,3,100]),(318,[9,3,100]),(324,[62]),(331,[62]),(338,[61]),(345,[62,100]),(346,[3,3]),(351,[100]),(378,[62]),(400,[3,3,100]),(402,[3,3,100]),(403,[3,3,100]),(409,[62]),(426,[3]),(429,[62]),(432,[3]),(7,[40]),(50,[99,3,100]),(51,[104]),(70,[55,4]),(82,[169]),(96,[62,100]),(97,[62,100]),(99,[62,100]),(100,[62,100]),(103,[62,100]),(121,[100]),(122,[100]),(163,[55]),(166,[62,100]),(183,[]),(184,[]),(199,[100]),(200,[100]),(217,[62,100]),(219,[66,100]),(226,[3,100]),(227,[3,100]),(231,[62,100]),(262,[3]),(265,[151,100]),(286,[62]),(292,[62,100]),(306,[100]),(307,[100]),(316,[178,3]),(322,[3]),(323,[9]),(326,[3]),(329,[3]),(332,[3]),(339,[3]),(340,[3]),(341,[3]),(347,[62,100]),(361,[62,100]),(371,[62]),(372,[62]),(373,[62]),(374,[62]),(382,[62,3,4]),(392,[36]),(412,[4]),(415,[3]),(422,[3]),(430,[100]),(39,[4]),(47,[99,3,100]),(49,[4]),(77,[100]),(102,[62]),(127,[100]),(147,[62,64,100]),(151,[62,100]),(198,[153,100]),(224,[62,100]),(233,[62,100]),(234,[62,100]),(249,[184,100]),(253,[62,4,100]),(254,[62,62,4,100]),(255,[196,100]),(256,[199,100]),(257,[192,100]),(261,[3]),(270,[377,100]),(271,[335,100]),(272,[383,100]),(273,[268,100]),(274,[342,100]),(279,[62]),(280,[55,3,3,3,100]),(284,[62,4]),(287,[62,4]),(291,[264,4]),(293,[325,100]),(295,[188,100]),(297,[151,100]),(298,[419,100]),(301,[62,100]),(320,[62,100]),(321,[3,62,62,4,100]),(352,[139,100]),(357,[62,4]),(359,[132,100]),(380,[4]),(381,[4]),(385,[62]),(386,[62]),(390,[62]),(417,[55]),(418,[62,100]),(421,[55]),(32,[4]),(46,[4]),(81,[100]),(126,[100]),(164,[62,100]),(165,[62,100]),(185,[3,279]),(212,[253,100]),(241,[62,4,100]),(242,[62,62,4,100]),(250,[37]),(251,[178,100]),(252,[181,100]),(269,[264,100]),(289,[132,62,64,4]),(294,[62]),(328,[62,100]),(355,[62,4]),(376,[4]),(394,[335,100]),(406,[68,100]),(9,[3]),(61,[99,4]),(80,[100]),(98,[62]),(118,[]),(138,[153,62,100]),(143,[155,62,100]),(144,[155,62,100]),(146,[155,62,100]),(175,[37]),(181,[37]),(203,[36,37]),(207,[62,64,4]),(209,[153,66,100]),(210,[153,100]),(211,[153,155,66,100]),(214,[153,66,100]),(221,[178,100]),(244,[199,100]),(283,[64,377,100]),(317,[62,100]),(349,[264,100]),(350,[68,100]),(366,[4]),(31,[4]),(52,[42,100]),(58,[62]),(68,[]),(133,[39]),(140,[153,62,66,62,100]),(142,[153,62,66,62,100]),(201,[4]),(208,[62,64,4]),(239,[178,100]),(277,[141,70,100]),(278,[62]),(285,[62,64,4]),(290,[132,62,64,4]),(310,[61,3,100]),(315,[62,100]),(319,[62,100]),(333,[62,100]),(384,[100]),(414,[62,100]),(423,[62,100]),(424,[62,100]),(427,[100]),(431,[100]),(22,[42]),(24,[77]),(45,[36]),(85,[39]),(116,[39]),(130,[4]),(205,[141,62,64,4]),(206,[132,62,64,4]),(215,[141,70,62,100]),(238,[184,100]),(240,[181,100]),(325,[61]),(327,[62,100]),(330,[61]),(393,[377,100]),(413,[62,100]),(420,[62,100]),(8,[3]),(65,[39]),(243,[196,100]),(245,[192,100]),(391,[264,100]),(395,[383,100]),(396,[268,100]),(397,[342,100]),(41,[39]),(176,[37]),(334,[36,37]),(16,[49]),(111,[37]),(23,[42,4]),(6,[42]),(63,[39]),(64,[39]),(40,[39]),(15,[49]),(5,[4]),(3,[4])]
def acC:Sp
 | [.bs b,.int .u16 how],[]=>ax (Zz (b.length<=1000000)&&Zz (0<=how)&&Zz (how<=65535)) (Zx (.bs (Kerb.xv b how),[]))
 | _,_=>Zy
def age:Sp
 | [.int AI n],[]=>ax (Zz (0<=n)&&Zz (n<=1000)) (Zx (.int AT (Kerb.ah n),[]))
 | _,_=>Zy
def agi:Sp
 | [.bs a,.bs b],[]=>Zx (.bool (a==b),[])
 | _,_=>Zy
def l_:Sp
 | [.sl 1 ks,.int AT k],[]=>ax (Zf ks&&Zz (ks.length<=1000000000)) (Zx (.sl 1 (Yv (Kerb.jH (Kerb.cu ks) k)),[]))
 | _,_=>Zy
def UE:Sp
 | [.sl 1 ks,.int AT k],[]=>ax (Zf ks&&Zz (ks.length<=1000000000)) (Zx (.bool ((Kerb.cu ks).contains k),[]))
 | _,_=>Zy
def agk:Sp
 | [.int AI k],[]=>Zx (.bool (Kerb.isKind k),[])
 | _,_=>Zy
def MY:Sp
 | [.bs b],[]=>ax (Zz (b.length<=140737488355328)) (Zx (.bs b,[]))
 | _,_=>Zy
def agl:Sp
 | [.int AI n],[]=>ax (Zz (0<=n)&&Zz (n<=1000)) (Zx (.int AT (Kerb.tM n),[]))
 | _,_=>Zy
def YY:Sp
 | [],[]=>Zx (.sl 1 [.str [65,84,72],.str [66,79,83],.str [67,65,77]],[])
 | _,_=>Zy
def Ky:Sp
 | [.bJ,.int AI n],[]=>ax (Zz (0<=n)&&Zz (n<=1000000000000)) (Zx (.ay [],[]))
 | _,_=>Zy
def YZ:Sp
 | [.int AI n,.int AI m],[]=>Zx (.bool (Zn n m),[])
 | _,_=>Zy
def TX:Sp
 | [.int AI k,.bool By],[]=>Zx (.bs (Kerb.header k By),[])
 | _,_=>Zy
def TY:Sp
 | [.bs b,.str s],[]=>ax (Zz (b.length+s.length<=70368744177664)) (Zx (.eG (Kerb.cX b s),[]))
 | _,_=>Zy
def Y3:Sp
 | [.int AI n,.int AI m],[]=>Zx (.bool (Zn n m),[])
 | _,_=>Zy
def Y6:Sp
 | [.int AI n],[]=>Zx (.bool (n==1||n==3),[])
 | _,_=>Zy
def Y7:Sp
 | [.int AI n,.int AI m],[]=>Zx (.bool (Zn n m),[])
 | _,_=>Zy
def T5:Sp
 | [.sl 1 ks],[]=>ax (Zf ks&&Zz (ks.length<=1000000)) (Zx (.ay ks,[]))
 | _,_=>Zy
def T6:Sp
 | [.sl 1 bs],[]=>ax (Kerb.ua bs&&Zz (bs.length<=1000000)) (Zx (.ay bs,[]))
 | _,_=>Zy
def KG:Sp
 | [.bL 0 55 1,.int AI a,.int AI b],[(0,els)]=>ax (Zf els&&Zz ((els.length:Int)<=1152921504606846976)&&Zz (0<=a)&&Zz (a<=b)&&Zz (b<=(els.length:Int))) (Zx (.bp [],[Kerb.W9 els a b]))
 | _,_=>Zy
def T9:Sp
 | [.int AT x],[]=>ax (Zz (0<=x)&&Zz (x<18446744073709551616)) (Zx (.int AI (Kerb.S4 x),[]))
 | _,_=>Zy
def T_:Sp
 | [.int AI c,.int AI n],[]=>Zx (.int AT (cond (Kerb.dX c&&Kerb.dd n) (c*72057594037927936+n) 0),[])
 | _,_=>Zy
def DR:Sp
 | [.str s,.str bad],[]=>ax (Zz (s.length<=9223372036854775807)&&Zz (bad.length<=100)) (Zx (.bool (Kerb.dO s bad&&Zz (s.length<=39)),[]))
 | _,_=>Zy
def Ua:Sp
 | [.bs b],[]=>Zx (.bp [.int AI (Kerb.bm b).kind,.bool (Kerb.bm b).By,.int AI (Kerb.bm b).err],[])
 | _,_=>Zy
def Y9:Sp
 | [.int AI n,.int AI m],[]=>Zx (.bool (Zn n m),[])
 | _,_=>Zy
def DS:Sp
 | [.bs b,.int AI n,.int AI k,.bool By],[]=>ax (Zz (k=1\/k=2\/k=4)&&Zz (b.length<=70368744177664)) (Zx (.eG (b++Kerb.aD n k.toNat By),[]))
 | _,_=>Zy
def Uc:Sp
 | [.int AT k],[]=>ax (Zz (0<=k)&&Zz (k<18446744073709551616)) (Zx (.bs (Kerb.keyBytes k),[]))
 | _,_=>Zy
def Ud:Sp
 | [.bs b],[]=>ax (Zz (b.length<=70368744177664)) (Zx (.eG (Kerb.pad b),[]))
 | _,_=>Zy
def Zo:Sp
 | [.int AI k],[]=>Zx (.bool (Kerb.dX k),[])
 | _,_=>Zy
def Zr:Sp
 | [.int AI k],[]=>Zx (.bool (Kerb.dd k),[])
 | _,_=>Zy
def KQ:Sp
 | [.ptr 0 0],[(0,[.int AT x])]=>ax (Zz (0<=x)&&Zz (x<18446744073709551616)) (Zx (.int AT (Kerb.Nk x),[[.int AT (Kerb.Nk x)]]))
 | _,_=>Zy
def Zs:Sp
 | [.int AT x],[]=>Zx (.bool Zw,[])
 | _,_=>Zy
def ZS:Sp
 | [.int AI n,.int AI m],[]=>Zx (.bool (Zn n m),[])
 | _,_=>Zy
def Uk:Sp
 | [.int AI k,.sl 1 els],[]=>ax (oz els&&Zz (els.length<=1000)) (Zx (.bool ((gf els).contains k),[]))
 | _,_=>Zy
def Bs:Sp
 | [.bs b,.int AI pos,.int AI n],[]=>ax (Zz (b.length<=4611686018427387904)) (Zx (.int AI (Kerb.room b pos n),[]))
 | _,_=>Zy
def ZT:Sp
 | [.int AI n,.int AI m],[]=>Zx (.bool (Zn n m),[])
 | _,_=>Zy
def ZV:Sp
 | [.int AI n,.int AI m],[]=>Zx (.bool (Zn n m),[])
 | _,_=>Zy
def Up:Sp
 | [.ptr 0 0,.int AI nx,.int AI e],[(0,[.bs B,.int AI at_,.bool bad])]=>Zx (.bool (!(bad || !(e==0))),[[.bs B,.int AI (cond (bad || !(e==0)) at_ nx),.bool (bad || !(e==0))]])
 | _,_=>Zy
def ZZ:Sp
 | [.int AI n],[]=>Zx (.bool (Kerb.tJ n),[])
 | _,_=>Zy
def Z0:Sp
 | [.int AI n,.int AI m],[]=>Zx (.bool (Zn n m),[])
 | _,_=>Zy
def Uq:Sp
 | [.ptr 0 0,.int AI nx,.int AI e],[(0,[.bs B,.int AI at_,.bool bad])]=>Zx (.bp [],[[.bs B,.int AI (cond (e==0) nx at_),.bool (bad || !(e==0))]])
 | _,_=>Zy
def Us:Sp
 | [.ptr 0 0,.int AI nx,.int AI e],[(0,[.bs B,.int AI at_,.bool li,.bool bad])]=>Zx (.bp [],[[.bs B,.int AI (cond (bad || !(e==0)) at_ nx),.bool li,.bool (bad || !(e==0))]])
 | _,_=>Zy
def DY:Sp
 | [.bs b,.int AI pos,.int AI n],[]=>ax (Zz (b.length<=140737488355328)) (Zx (.bp [.bs (Kerb.bytes b pos n).val,.int AI (Kerb.bytes b pos n).next,.int AI (Kerb.bytes b pos n).err],[]))
 | _,_=>Zy
def KY:Sp
 | [.bs b,.int AI pos],[]=>ax (Zz (b.length<=140737488355328)) (Zx (.bp [.str (Kerb.text b pos).val,.int AI (Kerb.text b pos).next,.int AI (Kerb.text b pos).err],[]))
 | _,_=>Zy
def Z3:Sp
 | [.int AI k],[]=>Zx (.bool (Kerb.isKind k),[])
 | _,_=>Zy
def KZ:Sp
 | [.bJ,.int AI n],[]=>ax (Zz (0<=n)&&Zz (n<=140737488355328)) (Zx (.eG [],[]))
 | _,_=>Zy
def Ut:Sp
 | [.bs s,.u8 c],[]=>Zx (.int AI (Kerb.indexOf c s),[])
 | _,_=>Zy
def Uv:Sp
 | [.str l],[]=>Zx (.bool (Kerb.lQ l),[])
 | _,_=>Zy
def Ux:Sp
 | [.str l],[]=>Zx (.bool (Kerb.fh l),[])
 | _,_=>Zy
def DZ:Sp
 | [.int AT k],[]=>ax (Zz (0<=k)&&Zz (k<18446744073709551616)) (Zx (.bs (Kerb.keyBytes k),[]))
 | _,_=>Zy
def Z':Sp
 | [.int AI n,.int AI m],[]=>Zx (.bool (Zn n m),[])
 | _,_=>Zy
def aac:Sp
 | [.int AI n,.int AI m],[]=>Zx (.bool (Zn n m),[])
 | _,_=>Zy
def UB:Sp
 | [.str s,.u8 c],[]=>Zx (.int AI (Kerb.indexOf c s),[])
 | _,_=>Zy
def acE:Sp
 | [.agg [.sl 1 ks,.sl 1 bs],.int AT k],[]=>ax (Zf ks&&Zz (ks.length<=1000000000)) (Zx (.bool ((Kerb.cu ks).contains k),[]))
 | _,_=>Zy
def XB:Sp
 | [.int AI n],[]=>ax (Zz (0<=n)) (Zx (.str (Kerb.aA n),[]))
 | _,_=>Zy
def F5:Sp
 | [.int AT x],[]=>ax (Kerb.ok x&&Zz (0<=x)&&Zz (x<18446744073709551616)) (Zx (.int AI (Kerb.S4 x),[]))
 | _,_=>Zy
def DQ:Sp
 | [.int AT k],[]=>ax (Zz (0<=k)&&Zz (k<18446744073709551616)) (Zx (.bool (Kerb.bf k),[]))
 | _,_=>Zy
def TV:Sp
 | [.str s],[]=>ax (Zz (s.length<=9223372036854775807)) (Zx (.bool (Kerb.dG s),[]))
 | _,_=>Zy
def TW:Sp
 | [.agg [.sl 1 ks,.sl 1 bs],.sl 1 l,.sl 1 m],[]=>ax (Yu ks bs&&Zf l&&Kerb.ua m&&Zz (l.length<=1000)&&Zz (m.length<=1000)&&(Kerb.fO m).all λb=>Zz (b.length<=140737488355328)) (Zx (.bp [.agg [.sl 1 (Yv ((Zu ks bs).add ⟨Kerb.cu l,Kerb.fO m⟩).keys),.sl 1 (Yz ((Zu ks bs).add ⟨Kerb.cu l,Kerb.fO m⟩).boxes)],.bool !((Zu ks bs).has ⟨Kerb.cu l,Kerb.fO m⟩)],[]))
 | _,_=>Zy
def Y0:Sp
 | [.bs b,.int AI n],[]=>ax (Zz (b.length<=70368744177664)) (Zx (.eG (b++Kerb.aD n 1 Zw),[]))
 | _,_=>Zy
def TZ:Sp
 | [.str s],[]=>ax (Zz (s.length<=9223372036854775807)) (Zx (.bool (Kerb.validName s),[]))
 | _,_=>Zy
def Y1:Sp
 | [.str s],[]=>ax (Zz (s.length<=9223372036854775807)) (Zx (.bool (Kerb.cO s),[]))
 | _,_=>Zy
def T3:Sp
 | [.bs b,.int AI n,.bool By],[]=>ax (Zz (b.length<=70368744177664)) (Zx (.eG (b++Kerb.aD n 4 By),[]))
 | _,_=>Zy
def Y4:Sp
 | [.bs b,.agg [.str x,.str y,.str z]],[]=>ax (Zz (b.length+x.length+y.length+z.length<=70368744170000)) (Zx (.eG (Kerb.cV b ⟨x,y,z⟩),[]))
 | _,_=>Zy
def T4:Sp
 | [.bs b,.int AI n,.bool By],[]=>ax (Zz (b.length<=70368744177664)) (Zx (.eG (b++Kerb.aD n 2 By),[]))
 | _,_=>Zy
def T7:Sp
 | [.int AT k],[]=>ax (Zz (0<=k)&&Zz (k<18446744073709551616)) (Zx (.bp [.int AI (cond (Kerb.bf k) (Kerb.dI k) 0),.int AI (cond (Kerb.bf k) (Kerb.dk k) 0),.bool (Kerb.bf k)],[]))
 | _,_=>Zy
def Y8:Sp
 | [.int AT x,.int AT y],[]=>Zx (.bool (Zz (x<y)),[])
 | _,_=>Zy
def xt:Sp
 | [.bs b,.int AI pos,.int AI n],[]=>ax (Zz (b.length<=140737488355328)) (Zx (.bp [.bs (Kerb.bytes b pos n).val,.int AI (Kerb.bytes b pos n).next,.int AI (Kerb.bytes b pos n).err],[]))
 | _,_=>Zy
def Ui:Sp
 | [.bs b,.sl 1 els],[]=>ax (oz els&&Zz (els.length<=1000)) (Zx (.bp [.bool (Kerb.aR b (gf els)).1,.int AI (Kerb.aR b (gf els)).2],[]))
 | _,_=>Zy
def nR:Sp
 | [.ptr 0 0,.int AI n],[(0,[.bs B,.int AI at_,.bool li,.bool bad])]=>ax (Zz (B.length<=140737488355328)) (Zx (.bs (Kerb.cq B n at_ bad).val,[[.bs B,.int AI (Kerb.cq B n at_ bad).pos,.bool li,.bool (Kerb.cq B n at_ bad).bad]]))
 | _,_=>Zy
def Br:Sp
 | [.ptr 0 0],[(0,[.bs B,.int AI at_,.bool li,.bool bad])]=>ax (Zz (B.length<=140737488355328)) (Zx (.str (Kerb.gi B at_ bad).val,[[.bs B,.int AI (Kerb.gi B at_ bad).pos,.bool li,.bool (Kerb.gi B at_ bad).bad]]))
 | _,_=>Zy
def Uj:Sp
 | [.bs b],[]=>Zx (.bp [.int AI (Kerb.bm b).kind,.bool (Kerb.bm b).By,.int AI (Kerb.bm b).err],[])
 | _,_=>Zy
def Ul:Sp
 | [.bs b,.int AI pos,.int AI k,.bool By],[]=>ax (Zz (b.length<=4611686018427387904)&&Zz (0<=k)&&Zz (k<=4)) (Zx (.bp [.int AI (Zv b pos k By).val,.int AI (Zv b pos k By).next,.int AI (Zv b pos k By).err],[]))
 | _,_=>Zy
def Um:Sp
 | [.int AI k,.bool By],[]=>Zx (.bs (Kerb.header k By),[])
 | _,_=>Zy
def Un:Sp
 | [.sl 1 els],[]=>ax (VH els&&Zz ((tj els).length<=140737488355328)&&Zz (els.length<=1000)) (Zx (.eG (tj els),[]))
 | _,_=>Zy
def Uo:Sp
 | [.bs s,.u8 c],[]=>Zx (.int AI (Kerb.indexOf c s),[])
 | _,_=>Zy
def Uy:Sp
 | [.bs b,.int AI pos,.int AI k,.bool By],[]=>ax (Zz (b.length<=140737488355328)&&Zz (0<=k)&&Zz (k<=4)) (Zx (.bp [.int AI (Zv b pos k By).val,.int AI (Zv b pos k By).next,.int AI (Zv b pos k By).err],[]))
 | _,_=>Zy
def Z_:Sp
 | [.int AI a,.int AI b],[]=>Zx (.bool (Kerb.period a b),[])
 | _,_=>Zy
def UA:Sp
 | [.str s,.u8 c],[]=>Zx (.int AI (Kerb.indexOf c s),[])
 | _,_=>Zy
def acD:Sp
 | [.int AI n],[]=>ax (Zz (0<=n)&&Zz (n<=4611686018427387904)) (Zx (.agg [.str (Kerb.user n).name,.str (Kerb.user n).inst,.str (Kerb.user n).aA],[]))
 | _,_=>Zy
def HV:Sp
 | [.bs b],[]=>ax (Zz (b.length<=4611686018427387904)) (Zx (.bp [.int AT (Kerb.dm b).1,.bool (Kerb.dm b).2],[]))
 | _,_=>Zy
def XC:Sp
 | [.agg [.bool li,.bool a,.int AI b,.str rl,.bs tk,.bs au]],[]=>ax (Zz (rl.length<=9223372036854775807)) (Zx (.bp [.bs (Kerb.aZ (Kerb.cC.mk li a b rl tk au)).val,.int AI (Kerb.aZ (Kerb.cC.mk li a b rl tk au)).err],[]))
 | _,_=>Zy
def YX:Sp
 | [.agg [.int AI op,.int AI a,.bs bx]],[]=>Zx (.bp [.bs (Kerb.cj ⟨op,a,bx⟩).val,.int AI (Kerb.cj ⟨op,a,bx⟩).err],[])
 | _,_=>Zy
def F3:Sp
 | [.int AT k],[]=>ax (Zz (0<=k)&&Zz (k<18446744073709551616)) (Zx (.bool (Kerb.bf k),[]))
 | _,_=>Zy
def xp:Sp
 | [.int AT k],[]=>ax (Zz (0<=k)&&Zz (k<18446744073709551616)) (Zx (.sl 1 (Yv (Kerb.dK [k])),[]))
 | _,_=>Zy
def Y2:Sp
 | [.agg [.str a,.str b,.str c]],[]=>ax (Zz (a.length<=9223372036854775807)&&Zz (b.length<=9223372036854775807)&&Zz (c.length<=9223372036854775807)) (Zx (.bool (Kerb.bQ.valid ⟨a,b,c⟩),[]))
 | _,_=>Zy
def Kz:Sp
 | [.bL 0 55 1,.int AI a,.int AI b],[(0,els)]=>ax (Zf els&&Zz ((els.length:Int)<=1152921504606846976)&&Zz (0<=a)&&Zz (a<=b)&&Zz (b<=(els.length:Int))) (Zx (.bp [],[Kerb.BS els a b]))
 | _,_=>Zy
def KK:Sp
 | [.bL 0 55 1,.int AI a,.int AI b],[(0,els)]=>ax (Zf els&&Zz ((els.length:Int)<=1152921504606846976)&&Zz (0<=a)&&Zz (a<=b)&&Zz (b<=(els.length:Int))&&Zz (a<b)) (Zx (.bool (Kerb.zC els a b).2,[(Kerb.zC els a b).1]))
 | _,_=>Zy
def F6:Sp
 | [.bL 0 55 1,.int AI a,.int AI b,.int AI p],[(0,els)]=>ax (Zf els&&Zz ((els.length:Int)<=1152921504606846976)&&Zz (0<=a)&&Zz (a<=b)&&Zz (b<=(els.length:Int))&&Zz (a<=p)&&Zz (p<b)) (Zx (.int AI (Kerb.HB els a b p).1,[(Kerb.HB els a b p).2]))
 | _,_=>Zy
def F7:Sp
 | [.bL 0 55 1,.int AI a,.int AI b,.int AI p],[(0,els)]=>ax (Zf els&&Zz ((els.length:Int)<=1152921504606846976)&&Zz (0<=a)&&Zz (a<=b)&&Zz (b<=(els.length:Int))&&Zz (a<=p)&&Zz (p<b)) (Zx (.bp [.int AI (Kerb.part els a b p).1,.bool (Kerb.part els a b p).2.1],[(Kerb.part els a b p).2.2]))
 | _,_=>Zy
def Ub:Sp
 | [.int AT k],[]=>ax (Zz (0<=k)&&Zz (k<18446744073709551616)) (Zx (.int AI (Kerb.hY k),[]))
 | _,_=>Zy
def F8:Sp
 | [.bL 0 55 1,.int AI a,.int AI hi,.int AI first],[(0,els)]=>ax (Zf els&&Zz ((els.length:Int)<=1152921504606846976)&&Zz (0<=a)&&Zz (0<=hi)&&Zz (0<=first)&&Zz (first+hi<=(els.length:Int))&&Zz (a<=(els.length:Int))) (Zx (.bp [],[Kerb.sift els a hi first]))
 | _,_=>Zy
def KP:Sp
 | [.int AI n],[]=>ax (Zz (0<=n)&&Zz (n<=4611686018427387904)) (Zx (.int AT (Kerb.Tp n),[]))
 | _,_=>Zy
def ZA:Sp
 | [.agg [.str lb,.int AI t,.int AI st,.int AI en,.int AT k]],[]=>ax (Zz (0<=k)&&Zz (k<18446744073709551616)) (Zx (.bp [.eG (Kerb.aY ⟨lb,t,st,en,k⟩).val,.int AI (Kerb.aY ⟨lb,t,st,en,k⟩).err],[]))
 | _,_=>Zy
def ZC:Sp
 | [.bs b,.bool By],[]=>ax (Zz (b.length<=70368744177664)) (Zx (.eG (b++Kerb.aD (cond By 1 0) 1 Zw),[]))
 | _,_=>Zy
def ZD:Sp
 | [.bs b,.sl 1 els],[]=>ax (oz els&&Zz (els.length<=1000)) (Zx (.bp [.bool (Kerb.aR b (gf els)).1,.int AI (Kerb.aR b (gf els)).2],[]))
 | _,_=>Zy
def xr:Sp
 | [.bs b,.int AI pos,.bool By],[]=>ax (Zz (b.length<=4611686018427387904)) (Zx (.bp [.int AI (Zv b pos 4 By).val,.int AI (Zv b pos 4 By).next,.int AI (Zv b pos 4 By).err],[]))
 | _,_=>Zy
def uu:Sp
 | [.bs b,.int AI pos],[]=>ax (Zz (b.length<=4611686018427387904)) (Zx (.bp [.int AI (Zv b pos 1 Zw).val,.int AI (Zv b pos 1 Zw).next,.int AI (Zv b pos 1 Zw).err],[]))
 | _,_=>Zy
def Oz:Sp
 | [.bs b,.int AI pos,.bool By],[]=>ax (Zz (b.length<=4611686018427387904)) (Zx (.bp [.int AI (Zv b pos 2 By).val,.int AI (Zv b pos 2 By).next,.int AI (Zv b pos 2 By).err],[]))
 | _,_=>Zy
def xu:Sp
 | [.bs b,.int AI pos],[]=>ax (Zz (b.length<=4611686018427387904)) (Zx (.bp [.str (Kerb.text b pos).val,.int AI (Kerb.text b pos).next,.int AI (Kerb.text b pos).err],[]))
 | _,_=>Zy
def KV:Sp
 | [.ptr 0 0,.int AI n],[(0,[.bs B,.int AI at_,.bool bad])]=>ax (Zz (B.length<=140737488355328)) (Zx (.bs (Kerb.eH B n at_ bad).val,[[.bs B,.int AI (Kerb.eH B n at_ bad).pos,.bool (Kerb.eH B n at_ bad).bad]]))
 | _,_=>Zy
def ZO:Sp
 | [.ptr 0 0,.int AI n],[(0,[.bs B,.int AI at_,.bool bad])]=>ax (Zz (B.length<=140737488355328)) (Zx (.bs (Kerb.mj B n at_ bad).val,[[.bs B,.int AI (Kerb.mj B n at_ bad).pos,.bool (Kerb.mj B n at_ bad).bad]]))
 | _,_=>Zy
def Bq:Sp
 | [.ptr 0 0],[(0,[.bs B,.int AI at_,.bool li,.bool bad])]=>ax (Zz (B.length<=140737488355328)) (Zx (.agg [.str (Kerb.fA B at_ bad).p.name,.str (Kerb.fA B at_ bad).p.inst,.str (Kerb.fA B at_ bad).p.aA],[[.bs B,.int AI (Kerb.fA B at_ bad).pos,.bool li,.bool (Kerb.fA B at_ bad).bad]]))
 | _,_=>Zy
def ZR:Sp
 | [.bs s,.bool li],[]=>Zx (.bp [.bs (Kerb.dh s li).val,.int AI (Kerb.dh s li).err],[])
 | _,_=>Zy
def DV:Sp
 | [.bL 0 55 1,.int AI a,.int AI b,.ptr 3 0],[(0,els),(3,[.int AI s])]=>ax (Zf els&&Zz ((els.length:Int)<=1152921504606846976)&&Zz (0<=a)&&Zz (a<(els.length:Int))&&Zz (0<=b)&&Zz (b<(els.length:Int))&&Zz (0<=s)&&Zz (s<=1000)) (Zx (.bp [.int AI (Kerb.order2 els a b s).1,.int AI (Kerb.order2 els a b s).2.1],[els,[.int AI (Kerb.order2 els a b s).2.2]]))
 | _,_=>Zy
def F_:Sp
 | [.bs b,.str s],[]=>ax (Zz (b.length+s.length<=70368744177664)) (Zx (.eG (Kerb.cX b s),[]))
 | _,_=>Zy
def Z1:Sp
 | [.bs b,.int AI pos,.bool By],[]=>ax (Zz (b.length<=140737488355328)) (Zx (.bp [.int AI (Zv b pos 4 By).val,.int AI (Zv b pos 4 By).next,.int AI (Zv b pos 4 By).err],[]))
 | _,_=>Zy
def OJ:Sp
 | [.bs b,.int AI pos],[]=>ax (Zz (b.length<=140737488355328)) (Zx (.bp [.int AI (Zv b pos 1 Zw).val,.int AI (Zv b pos 1 Zw).next,.int AI (Zv b pos 1 Zw).err],[]))
 | _,_=>Zy
def Z2:Sp
 | [.bs b,.int AI pos,.bool By],[]=>ax (Zz (b.length<=140737488355328)) (Zx (.bp [.int AI (Zv b pos 2 By).val,.int AI (Zv b pos 2 By).next,.int AI (Zv b pos 2 By).err],[]))
 | _,_=>Zy
def zR:Sp
 | [.bs b,.int AI n,.int AI k,.bool By],[]=>ax (Zz (k=1\/k=2\/k=4)&&Zz (b.length<=70368744177664)) (Zx (.eG (b++Kerb.aD n k.toNat By),[]))
 | _,_=>Zy
def Uz:Sp
 | [.str s,.u8 c],[]=>Zx (.int AI (Kerb.indexOf c s),[])
 | _,_=>Zy
def zS:Sp
 | [.bs b],[]=>ax (Zz (b.length<=70368744177664)) (Zx (.bs (Kerb.pad b),[]))
 | _,_=>Zy
def Z9:Sp
 | [.int AT k],[]=>ax (Zz (0<=k)&&Zz (k<18446744073709551616)) (Zx (.int AI (Kerb.hY k),[]))
 | _,_=>Zy
def acH:Sp
 | [.bs b],[]=>ax (Zz (b.length<=140737488355328)) (Zx (.bp [.agg [.int AI (Yq b).box.kind,.int AT (Yq b).box.key,.bs (Yq b).box.body],.int AI (Yq b).n,.int AI (Yq b).err],[]))
 | _,_=>Zy
def HU:Sp
 | [.bs b],[]=>ax (Zz (b.length<=4611686018427387904)) (Zx (.bp [.int AT (Kerb.dm b).1,.bool (Kerb.dm b).2],[]))
 | _,_=>Zy
def agm:Sp
 | [.agg [.bool li,.bool b,.int AI d,.str rl,.bs tk,.bs au,.int AI tm,.int AI c,.str a,.str ins]],[]=>ax (Zz (rl.length<=9223372036854775807)&&Zz (a.length<=9223372036854775807)&&Zz (ins.length<=9223372036854775807)) (Zx (.bp [.bs (Kerb.dj (Kerb.eM.mk (Kerb.cC.mk li b d rl tk au) tm c a ins)).val,.int AI (Kerb.dj (Kerb.eM.mk (Kerb.cC.mk li b d rl tk au) tm c a ins)).err],[]))
 | _,_=>Zy
def XD:Sp
 | [.agg [.bool li,.str x,.str y,.str z,.int AI t,.int AI ex,.int AI b,.bs a]],[]=>ax (Zz (x.length<=9223372036854775807)&&Zz (y.length<=9223372036854775807)&&Zz (z.length<=9223372036854775807)) (Zx (.bp [.bs (Kerb.bc ⟨li,⟨x,y,z⟩,t,ex,b,a⟩).val,.int AI (Kerb.bc ⟨li,⟨x,y,z⟩,t,ex,b,a⟩).err],[]))
 | _,_=>Zy
def YV:Sp
 | [.agg [.int AI op,.str c,.str b,.str a,.bs bx]],[]=>ax (Zz (c.length<=9223372036854775807)&&Zz (b.length<=9223372036854775807)&&Zz (a.length<=9223372036854775807)) (Zx (.bp [.bs (Kerb.dL ⟨op,⟨c,b,a⟩,bx⟩).val,.int AI (Kerb.dL ⟨op,⟨c,b,a⟩,bx⟩).err],[]))
 | _,_=>Zy
def YW:Sp
 | [.agg [.int AI op,.str c,.str b,.str a,.int AI e,.str rl,.bs tk,.str d,.str ins,.bs bx]],[]=>ax (Zz (c.length<=9223372036854775807)&&Zz (b.length<=9223372036854775807)&&Zz (a.length<=9223372036854775807)&&Zz (rl.length<=9223372036854775807)&&Zz (d.length<=9223372036854775807)&&Zz (ins.length<=9223372036854775807)) (Zx (.bp [.bs (Kerb.aH ⟨op,⟨c,b,a⟩,e,rl,tk,d,ins,bx⟩).val,.int AI (Kerb.aH ⟨op,⟨c,b,a⟩,e,rl,tk,d,ins,bx⟩).err],[]))
 | _,_=>Zy
def Y5:Sp
 | [.agg [.str cx,.str cy,.str d,.str c,.str b,.str sz,.int AT k,.int AI t,.int AI e,.int AI a]],[]=>ax (Zz (cx.length<=9223372036854775807)&&Zz (cy.length<=9223372036854775807)&&Zz (d.length<=9223372036854775807)&&Zz (c.length<=9223372036854775807)&&Zz (b.length<=9223372036854775807)&&Zz (sz.length<=9223372036854775807)&&Zz (0<=k)&&Zz (k<18446744073709551616)) (Zx (.bp [.bs (Kerb.eB ⟨⟨cx,cy,d⟩,⟨c,b,sz⟩,k,t,e,a⟩).val,.int AI (Kerb.eB ⟨⟨cx,cy,d⟩,⟨c,b,sz⟩,k,t,e,a⟩).err],[]))
 | _,_=>Zy
def KB:Sp
 | [.bL 0 55 1,.int AI a,.int AI b],[(0,els)]=>ax (Zf els&&Zz ((els.length:Int)<=1152921504606846976)&&Zz (0<=a)&&Zz (a<=b)&&Zz (b<=(els.length:Int))) (Zx (.bp [],[Kerb.NN els a b]))
 | _,_=>Zy
def KD:Sp
 | [.bL 0 55 1,.int AI a,.int AI b],[(0,els)]=>ax (Zf els&&Zz ((els.length:Int)<=1152921504606846976)&&Zz (0<=a)&&Zz (a<=b)&&Zz (b<=(els.length:Int))) (Zx (.bp [],[Kerb.Gy els a b]))
 | _,_=>Zy
def Y_:Sp
 | [.agg [.int AT k,.str b,.str a,.str sz,.int AI t,.int AI e,.bs rc]],[]=>ax (Zz (b.length<=9223372036854775807)&&Zz (a.length<=9223372036854775807)&&Zz (sz.length<=9223372036854775807)&&Zz (0<=k)&&Zz (k<18446744073709551616)) (Zx (.bp [.bs (Kerb.dB ⟨k,⟨b,a,sz⟩,t,e,rc⟩).val,.int AI (Kerb.dB ⟨k,⟨b,a,sz⟩,t,e,rc⟩).err],[]))
 | _,_=>Zy
def Bp:Sp
 | [.bL 0 55 1,.int AI a,.int AI b,.int AI c,.ptr 4 0],[(0,els),(4,[.int AI s])]=>ax (Zf els&&Zz ((els.length:Int)<=1152921504606846976)&&Zz (0<=a)&&Zz (a<(els.length:Int))&&Zz (0<=b)&&Zz (b<(els.length:Int))&&Zz (0<=c)&&Zz (c<(els.length:Int))&&Zz (0<=s)&&Zz (s<=900)) (Zx (.int AI (Kerb.median els a b c s).1,[els,[.int AI (Kerb.median els a b c s).2]]))
 | _,_=>Zy
def Zt:Sp
 | [.agg [.int AT k,.str x,.str y,.str z,.int AI a,.int AI b,.bs tk,.int AI t],.bool By],[]=>ax (Zz (x.length<=9223372036854775807)&&Zz (y.length<=9223372036854775807)&&Zz (z.length<=9223372036854775807)&&Zz (0<=k)&&Zz (k<18446744073709551616)) (Zx (.bp [.bs (Kerb.bt ⟨k,⟨x,y,z⟩,a,b,tk,t⟩ By).val,.int AI (Kerb.bt ⟨k,⟨x,y,z⟩,a,b,tk,t⟩ By).err],[]))
 | _,_=>Zy
def ZB:Sp
 | [.agg [.bool li,.str x,.str y,.str z,.int AI ad,.int AT k,.int AI b,.int AI c,.str a,.str ins]],[]=>ax (Zz (x.length<=9223372036854775807)&&Zz (y.length<=9223372036854775807)&&Zz (z.length<=9223372036854775807)&&Zz (a.length<=9223372036854775807)&&Zz (ins.length<=9223372036854775807)&&Zz (0<=k)&&Zz (k<18446744073709551616)) (Zx (.int AI (Kerb.dZ.mk li ⟨x,y,z⟩ ad k b c a ins).err,[]))
 | _,_=>Zy
def ZE:Sp
 | [.bs b],[]=>ax (Zz (b.length<=140737488355328)) (Zx (.bp [.agg [.bool ((Kerb.jB b).val).By,.bool ((Kerb.jB b).val).c5,.int AI ((Kerb.jB b).val).bj,.str ((Kerb.jB b).val).aA,.bs ((Kerb.jB b).val).aB,.bs ((Kerb.jB b).val).eQ],.int AI (Kerb.jB b).next],[]))
 | _,_=>Zy
def KU:Sp
 | [.ptr 0 0],[(0,[.bs B,.int AI at_,.bool bad])]=>ax (Zz (B.length<=140737488355328)) (Zx (.int AI (Kerb.fV B 1 at_ bad).val,[[.bs B,.int AI (Kerb.fV B 1 at_ bad).pos,.bool (Kerb.fV B 1 at_ bad).bad]]))
 | _,_=>Zy
def ZJ:Sp
 | [.ptr 0 0],[(0,[.bs B,.int AI at_,.bool bad])]=>ax (Zz (B.length<=140737488355328)) (Zx (.str (Kerb.lO B at_ bad).val,[[.bs B,.int AI (Kerb.lO B at_ bad).pos,.bool (Kerb.lO B at_ bad).bad]]))
 | _,_=>Zy
def ZK:Sp
 | [.ptr 0 0],[(0,[.bs B,.int AI at_,.bool bad])]=>ax (Zz (B.length<=140737488355328)) (Zx (.int AI (Kerb.fV B 2 at_ bad).val,[[.bs B,.int AI (Kerb.fV B 2 at_ bad).pos,.bool (Kerb.fV B 2 at_ bad).bad]]))
 | _,_=>Zy
def ZM:Sp
 | [.ptr 0 0],[(0,[.bs B,.int AI at_,.bool bad])]=>ax (Zz (B.length<=140737488355328)) (Zx (.int AI (Kerb.pH B 1 at_ bad).val,[[.bs B,.int AI (Kerb.pH B 1 at_ bad).pos,.bool (Kerb.pH B 1 at_ bad).bad]]))
 | _,_=>Zy
def ZP:Sp
 | [.ptr 0 0],[(0,[.bs B,.int AI at_,.bool bad])]=>ax (Zz (B.length<=140737488355328)) (Zx (.int AI (Kerb.pH B 2 at_ bad).val,[[.bs B,.int AI (Kerb.pH B 2 at_ bad).pos,.bool (Kerb.pH B 2 at_ bad).bad]]))
 | _,_=>Zy
def uv:Sp
 | [.ptr 0 0],[(0,[.bs B,.int AI at_,.bool li,.bool bad])]=>ax (Zz (B.length<=140737488355328)) (Zx (.int AI (Kerb.bV B 4 li at_ bad).val,[[.bs B,.int AI (Kerb.bV B 4 li at_ bad).pos,.bool li,.bool (Kerb.bV B 4 li at_ bad).bad]]))
 | _,_=>Zy
def pu:Sp
 | [.ptr 0 0],[(0,[.bs B,.int AI at_,.bool li,.bool bad])]=>ax (Zz (B.length<=140737488355328)) (Zx (.int AI (Kerb.bV B 1 Zw at_ bad).val,[[.bs B,.int AI (Kerb.bV B 1 Zw at_ bad).pos,.bool li,.bool (Kerb.bV B 1 Zw at_ bad).bad]]))
 | _,_=>Zy
def DU:Sp
 | [.ptr 0 0],[(0,[.bs B,.int AI at_,.bool li,.bool bad])]=>ax (Zz (B.length<=140737488355328)) (Zx (.int AI (Kerb.bV B 2 li at_ bad).val,[[.bs B,.int AI (Kerb.bV B 2 li at_ bad).pos,.bool li,.bool (Kerb.bV B 2 li at_ bad).bad]]))
 | _,_=>Zy
def OC:Sp
 | [.agg [.str lb,.int AI t,.int AT k,.int AI st,.int AI en,.int AI a,.str x,.str y,.str z,.bs tk]],[]=>ax (Zz (x.length<=9223372036854775807)&&Zz (y.length<=9223372036854775807)&&Zz (z.length<=9223372036854775807)&&Zz (0<=k)&&Zz (k<18446744073709551616)) (Zx (.bp [.bs (Kerb.a_ ⟨lb,t,k,st,en,a,⟨x,y,z⟩,tk⟩).val,.int AI (Kerb.a_ ⟨lb,t,k,st,en,a,⟨x,y,z⟩,tk⟩).err],[]))
 | _,_=>Zy
def F9:Sp
 | [.bs b,.agg [.str x,.str y,.str z]],[]=>ax (Zz (b.length+x.length+y.length+z.length<=70368744170000)) (Zx (.eG (Kerb.cV b ⟨x,y,z⟩),[]))
 | _,_=>Zy
def vR:Sp
 | [.bs b,.int AI n,.bool By],[]=>ax (Zz (b.length<=70368744177664)) (Zx (.eG (b++Kerb.aD n 4 By),[]))
 | _,_=>Zy
def zQ:Sp
 | [.bs b,.int AI n],[]=>ax (Zz (b.length<=70368744177664)) (Zx (.eG (b++Kerb.aD n 1 Zw),[]))
 | _,_=>Zy
def DW:Sp
 | [.bs b,.int AI n,.bool By],[]=>ax (Zz (b.length<=70368744177664)) (Zx (.eG (b++Kerb.aD n 2 By),[]))
 | _,_=>Zy
def ZY:Sp
 | [.bs b,.int AI at_,.int AI most,.bool li],[]=>ax (Zz (b.length<=140737488355328)) (Zx (.bp [.bs (Kerb.fz b at_ most li).val,.int AI (Kerb.fz b at_ most li).next,.bool (Kerb.fz b at_ most li).ok],[]))
 | _,_=>Zy
def vS:Sp
 | [.sl 1 ks],[]=>ax (Kerb.Au ks) (Zx (.sl 1 (Yv (Kerb.dK (Kerb.cu ks))),[]))
 | _,_=>Zy
def Uu:Sp
 | [.str s,.str bad],[]=>ax (Zz (s.length<=9223372036854775807)) (Zx (.bool (Kerb.dO s bad),[]))
 | _,_=>Zy
def Gb:Sp
 | [.ptr 0 0],[(0,[.bs B,.int AI at_,.bool bad])]=>ax (Zz (B.length<=140737488355328)) (Zx (.int AI (Kerb.fV B 4 at_ bad).val,[[.bs B,.int AI (Kerb.fV B 4 at_ bad).pos,.bool (Kerb.fV B 4 at_ bad).bad]]))
 | _,_=>Zy
def Z5:Sp
 | [.ptr 0 0],[(0,[.bs B,.int AI at_,.bool bad])]=>ax (Zz (B.length<=140737488355328)) (Zx (.int AI (Kerb.pH B 4 at_ bad).val,[[.bs B,.int AI (Kerb.pH B 4 at_ bad).pos,.bool (Kerb.pH B 4 at_ bad).bad]]))
 | _,_=>Zy
def ON:Sp
 | [.agg [.str lb,.int AI t,.int AI st,.int AI en,.int AT k]],[]=>ax (Zz (0<=k)&&Zz (k<18446744073709551616)) (Zx (.int AI (Kerb.aY ⟨lb,t,st,en,k⟩).err,[]))
 | _,_=>Zy
def acG:Sp
 | [.bs b],[]=>ax (Zz (b.length<=140737488355328)) (Zx (.bp [.agg [.int AI (Yq b).box.kind,.int AT (Yq b).box.key,.bs (Yq b).box.body],.int AI (Yq b).n,.int AI (Yq b).err],[]))
 | _,_=>Zy
def XA:Sp
 | [.bs b],[]=>ax (Zz (b.length<=140737488355328)) (Zx (.bool (Kerb.oO b),[]))
 | _,_=>Zy
def Oo:Sp
 | [.agg [.bool li,.str x,.str y,.str z,.int AI ad,.int AT k,.int AI b,.int AI c,.str a,.str ins]],[]=>ax (Zz (x.length<=9223372036854775807)&&Zz (y.length<=9223372036854775807)&&Zz (z.length<=9223372036854775807)&&Zz (a.length<=9223372036854775807)&&Zz (ins.length<=9223372036854775807)&&Zz (0<=k)&&Zz (k<18446744073709551616)) (Zx (.bp [.bs (Kerb.bE (Kerb.dZ.mk li ⟨x,y,z⟩ ad k b c a ins)).val,.int AI (Kerb.bE (Kerb.dZ.mk li ⟨x,y,z⟩ ad k b c a ins)).err],[]))
 | _,_=>Zy
def KL:Sp
 | [.bs b],[]=>ax (Zz (b.length<=140737488355328)) (Zx (.bp [.agg [.bool ((Zb b).val).By,.str ((Zb b).val).BY.name,.str ((Zb b).val).BY.inst,.str ((Zb b).val).BY.aA,.int AI ((Zb b).val).time,.int AI ((Zb b).val).b_,.int AI ((Zb b).val).bj,.bs ((Zb b).val).cw],.int AI (Zb b).err],[]))
 | _,_=>Zy
def Ot:Sp
 | [.bs b],[]=>ax (Zz (b.length<=140737488355328)) (Zx (.bp [.bs (Kerb.gQ b).val,.bool (Kerb.gQ b).By,.int AI (Kerb.gQ b).err],[]))
 | _,_=>Zy
def KN:Sp
 | [.bs b],[]=>ax (Zz (b.length<=140737488355328)) (Zx (.bp [.bs (Yy b).plain,.bs (Yy b).cw,.bool (Yy b).By,.int AI (Yy b).err],[]))
 | _,_=>Zy
def KO:Sp
 | [.bs b],[]=>ax (Zz (b.length<=140737488355328)) (Zx (.bp [.agg [.int AI ((Zd b).val).op,.str ((Zd b).val).user.name,.str ((Zd b).val).user.inst,.str ((Zd b).val).user.aA,.int AI ((Zd b).val).bj,.str ((Zd b).val).aA,.bs ((Zd b).val).aB,.str ((Zd b).val).service,.str ((Zd b).val).inst,.bs ((Zd b).val).box],.int AI (Zd b).err],[]))
 | _,_=>Zy
def Ou:Sp
 | [.bs b],[]=>ax (Zz (b.length<=140737488355328)) (Zx (.bp [.agg [.int AI ((Kerb.dc b).val).op,.int AI ((Kerb.dc b).val).code,.bs ((Kerb.dc b).val).box],.int AI (Kerb.dc b).err],[]))
 | _,_=>Zy
def Ov:Sp
 | [.bs b],[]=>ax (Zz (b.length<=140737488355328)) (Zx (.bp [.agg [.int AI ((Yw b).val).op,.str ((Yw b).val).name.name,.str ((Yw b).val).name.inst,.str ((Yw b).val).name.aA,.bs ((Yw b).val).box],.int AI (Yw b).err],[]))
 | _,_=>Zy
def DT:Sp
 | [.bL 0 55 1,.int AI a,.ptr 2 0],[(0,els),(2,[.int AI s])]=>ax (Zf els&&Zz ((els.length:Int)<=1152921504606846976)&&Zz (1<=a)&&Zz (a+1<(els.length:Int))&&Zz (0<=s)&&Zz (s<=800)) (Zx (.int AI (Kerb.Hr els a s).1,[els,[.int AI (Kerb.Hr els a s).2]]))
 | _,_=>Zy
def KS:Sp
 | [.bs b,.bool By],[]=>ax (Zz (b.length<=140737488355328)) (Zx (.bp [.agg [.int AT ((Zg b By).val).ah,.str ((Zg b By).val).service.name,.str ((Zg b By).val).service.inst,.str ((Zg b By).val).service.aA,.int AI ((Zg b By).val).bK,.int AI ((Zg b By).val).bj,.bs ((Zg b By).val).aB,.int AI ((Zg b By).val).time],.int AI (Zg b By).err],[]))
 | _,_=>Zy
def Ow:Sp
 | [.bs b],[]=>ax (Zz (b.length<=140737488355328)) (Zx (.bp [.agg [.str ((Yx b).val).label,.int AI ((Yx b).val).time,.int AI ((Yx b).val).start,.int AI ((Yx b).val).stop,.int AT ((Yx b).val).new],.int AI (Yx b).err],[]))
 | _,_=>Zy
def KT:Sp
 | [.bs b],[]=>ax (Zz (b.length<=140737488355328)) (Zx (.bp [.agg [.str ((Zp b).val).label,.int AI ((Zp b).val).time,.int AT ((Zp b).val).ah,.int AI ((Zp b).val).start,.int AI ((Zp b).val).stop,.int AI ((Zp b).val).bj,.str ((Zp b).val).service.name,.str ((Zp b).val).service.inst,.str ((Zp b).val).service.aA,.bs ((Zp b).val).aB],.int AI (Zp b).err],[]))
 | _,_=>Zy
def Ox:Sp
 | [.bs b],[]=>ax (Zz (b.length<=140737488355328)) (Zx (.bp [.agg [.str ((Zq b).val).BY.name,.str ((Zq b).val).BY.inst,.str ((Zq b).val).BY.aA,.str ((Zq b).val).service.name,.str ((Zq b).val).service.inst,.str ((Zq b).val).service.aA,.int AT ((Zq b).val).ah,.int AI ((Zq b).val).start,.int AI ((Zq b).val).stop,.int AI ((Zq b).val).addr],.int AI (Zq b).err],[]))
 | _,_=>Zy
def Oy:Sp
 | [.bs b],[]=>ax (Zz (b.length<=140737488355328)) (Zx (.bp [.agg [.int AT ((Zm b).val).ah,.str ((Zm b).val).service.name,.str ((Zm b).val).service.inst,.str ((Zm b).val).service.aA,.int AI ((Zm b).val).start,.int AI ((Zm b).val).stop,.bs ((Zm b).val).record],.int AI (Zm b).err],[]))
 | _,_=>Zy
def ZH:Sp
 | [.bs s,.bool li],[]=>Zx (.bp [.bs (Kerb.dh s li).val,.int AI (Kerb.dh s li).err],[])
 | _,_=>Zy
def ZI:Sp
 | [.bs b],[]=>ax (Zz (b.length<=140737488355328)) (Zx (.bp [.int AI (Yy b).kind,.bs (Yy b).plain,.bs (Yy b).cw,.bool (Yy b).By,.int AI (Yy b).err],[]))
 | _,_=>Zy
def ZW:Sp
 | [.str s],[]=>ax (Zz (s.length<=9223372036854775807)) (Zx (.bool (Kerb.validName s),[]))
 | _,_=>Zy
def ZX:Sp
 | [.str s],[]=>ax (Zz (s.length<=9223372036854775807)) (Zx (.bool (Kerb.cO s),[]))
 | _,_=>Zy
def DX:Sp
 | [.bs b,.bs t],[]=>ax (Zz (b.length+t.length<=70368744170000)) (Zx (.bs (Kerb.jg b t),[]))
 | _,_=>Zy
def F':Sp
 | [.bs b,.bs t],[]=>ax (Zz (b.length+t.length<=70368744170000)) (Zx (.bs (Kerb.gL b t),[]))
 | _,_=>Zy
def Ur:Sp
 | [.bs b,.bs t],[]=>ax (Zz (b.length+t.length<=70368744170000)) (Zx (.bs (Kerb.gL b t),[]))
 | _,_=>Zy
def OM:Sp
 | [.ptr 0 0],[(0,[.bs B,.int AI at_,.bool bad])]=>ax (Zz (B.length<=140737488355328)) (Zx (.int AT (Kerb.xY B at_ bad).val,[[.bs B,.int AI (Kerb.xY B at_ bad).pos,.bool (Kerb.xY B at_ bad).bad]]))
 | _,_=>Zy
def Uw:Sp
 | [.agg [.str lb,.int AI t,.int AI st,.int AI en,.int AT k]],[]=>ax (Zz (0<=k)&&Zz (k<18446744073709551616)) (Zx (.bp [.bs (Kerb.aY ⟨lb,t,st,en,k⟩).val,.int AI (Kerb.aY ⟨lb,t,st,en,k⟩).err],[]))
 | _,_=>Zy
def Z4:Sp
 | [.ptr 0 0],[(0,[.bs B,.int AI at_,.bool bad])]=>ax (Zz (B.length<=140737488355328)) (Zx (.int AT (Kerb.BC B at_ bad).val,[[.bs B,.int AI (Kerb.BC B at_ bad).pos,.bool (Kerb.BC B at_ bad).bad]]))
 | _,_=>Zy
def agh:Sp
 | [.bs a,.bs b],[]=>ax (Zz (a.length<=140737488355328)&&Zz (b.length<=140737488355328)) (Zx (.bool (Kerb.zL a b),[]))
 | _,_=>Zy
def Xt:Sp
 | [.bs b],[]=>ax (Zz (b.length<=140737488355328)) (Zx (.bool (Kerb.oO b),[]))
 | _,_=>Zy
def KE:Sp
 | [.bL 0 55 1,.int AI a,.int AI b],[(0,els)]=>ax (Zf els&&Zz ((els.length:Int)<=1152921504606846976)&&Zz (0<=a)&&Zz (a<=b)&&Zz (b<=(els.length:Int))&&Zz (a+8<=b)) (Zx (.bp [.int AI (Kerb.Ke els a b).1,.int AI (Kerb.Jn (Kerb.Ke els a b).2)],[els]))
 | _,_=>Zy
def Zc:Sp
 | [.bs b],[]=>ax (Zz (b.length<=140737488355328)) (Zx (.bp [.bs (Kerb.gQ b).val,.bool (Kerb.gQ b).By,.int AI (Kerb.gQ b).err],[]))
 | _,_=>Zy
def Ze:Sp
 | [.bs b],[]=>ax (Zz (b.length<=140737488355328)) (Zx (.bp [.bs (Yy b).plain,.bs (Yy b).cw,.bool (Yy b).By,.int AI (Yy b).err],[]))
 | _,_=>Zy
def o9:Sp
 | [.sl 1 bs],[]=>ax (Kerb.rL bs) (Zx (.sl 1 (Yz (Kerb.gj (Kerb.fO bs))),[]))
 | _,_=>Zy
def KM:Sp
 | [.bs b],[]=>ax (Zz (b.length<=140737488355328)) (Zx (.bp [.agg [.bool ((Zh b).val).By,.bool ((Zh b).val).c5,.int AI ((Zh b).val).bj,.str ((Zh b).val).aA,.bs ((Zh b).val).aB,.bs ((Zh b).val).eQ],.int AI (Zh b).err],[]))
 | _,_=>Zy
def Oq:Sp
 | [.bs b],[]=>ax (Zz (b.length<=140737488355328)) (Zx (.bp [.agg [.bool ((Zj b).val).ap.By,.bool ((Zj b).val).ap.c5,.int AI ((Zj b).val).ap.bj,.str ((Zj b).val).ap.aA,.bs ((Zj b).val).ap.aB,.bs ((Zj b).val).ap.eQ,.int AI ((Zj b).val).time,.int AI ((Zj b).val).bK,.str ((Zj b).val).service,.str ((Zj b).val).inst],.int AI (Zj b).err],[]))
 | _,_=>Zy
def KR:Sp
 | [.bs b],[]=>ax (Zz (b.length<=140737488355328)) (Zx (.bp [.agg [.bool ((Zk b).val).By,.str ((Zk b).val).BY.name,.str ((Zk b).val).BY.inst,.str ((Zk b).val).BY.aA,.int AI ((Zk b).val).address,.int AT ((Zk b).val).ah,.int AI ((Zk b).val).bK,.int AI ((Zk b).val).cf,.str ((Zk b).val).service,.str ((Zk b).val).inst],.int AI (Zk b).err],[]))
 | _,_=>Zy
def ZL:Sp
 | [.agg [.int AI op,.int AI a,.bs bx]],[]=>Zx (.bp [.bs (Kerb.cj ⟨op,a,bx⟩).val,.int AI (Kerb.cj ⟨op,a,bx⟩).err],[])
 | _,_=>Zy
def ZU:Sp
 | [.str s],[]=>ax (Zz (s.length<=9223372036854775807)) (Zx (.bool (Kerb.dG s),[]))
 | _,_=>Zy
def OG:Sp
 | [.bs b],[]=>ax (Zz (b.length<=140737488355328)) (Zx (.bp [.agg [.str ((Yx b).val).label,.int AI ((Yx b).val).time,.int AI ((Yx b).val).start,.int AI ((Yx b).val).stop,.int AT ((Yx b).val).new],.int AI (Yx b).err],[]))
 | _,_=>Zy
def agj:Sp
 | [.bs b],[]=>ax (Zz (b.length<=140737488355328)) (Zx (.bp [.agg [.int AI (Kerb.qP b).1.kind,.int AT (Kerb.qP b).1.key,.bs (Kerb.qP b).1.body],.bool (Kerb.qP b).2],[]))
 | _,_=>Zy
def vQ(c:Nat):Sp
 | [.bL 0 55 1,.int AI a,.int AI b,.int AI l],[(0,els)]=>ax ((Zf els&&Zz ((els.length:Int)<=1152921504606846976)&&Kerb.nn a&&Zz (a<=b)&&Zz (b<=(els.length:Int))&&Zz (0<=l)&&Zz (l<=64))&&Zz (b-a<(c:Int))) (Zx (.bp [],[Kerb.To els a b l]))
 | _,_=>Zy
def F4:Sp
 | [.bL 0 55 1,.int AI a,.int AI b,.int AI l],[(0,els)]=>ax (Zf els&&Zz ((els.length:Int)<=1152921504606846976)&&Kerb.nn a&&Zz (a<=b)&&Zz (b<=(els.length:Int))&&Zz (0<=l)&&Zz (l<=64)) (Zx (.bp [],[Kerb.To els a b l]))
 | _,_=>Zy
def xq:Sp
 | [.sl 1 bs],[]=>ax (Kerb.rL bs) (Zx (.sl 1 (Yz (Kerb.gj (Kerb.fO bs))),[]))
 | _,_=>Zy
def T8:Sp
 | [.bs b],[]=>ax (Zz (b.length<=70368744170000)) (Zx (.sl 1 (Yz (Kerb.partsOf b)),[]))
 | _,_=>Zy
def T':Sp
 | [.agg [.int AI kd,.int AT k,.bs b]],[]=>ax (Zz (b.length<=70368744170000)) (Zx (.bp [.sl 1 (Yv (Kerb.h_ ⟨kd,k,b⟩).keys),.sl 1 (Yz (Kerb.h_ ⟨kd,k,b⟩).boxes)],[]))
 | _,_=>Zy
def Zi:Sp
 | [.bs b],[]=>ax (Zz (b.length<=140737488355328)) (Zx (.bp [.agg [.int AI ((Kerb.dc b).val).op,.int AI ((Kerb.dc b).val).code,.bs ((Kerb.dc b).val).box],.int AI (Kerb.dc b).err],[]))
 | _,_=>Zy
def ZF:Sp
 | [.agg [.bool li,.bool a,.int AI b,.str rl,.bs tk,.bs au]],[]=>ax (Zz (rl.length<=9223372036854775807)) (Zx (.bp [.bs (Kerb.aZ (Kerb.cC.mk li a b rl tk au)).val,.int AI (Kerb.aZ (Kerb.cC.mk li a b rl tk au)).err],[]))
 | _,_=>Zy
def OD:Sp
 | [.agg [.str a,.str b,.str c]],[]=>ax (Zz (a.length<=9223372036854775807)&&Zz (b.length<=9223372036854775807)&&Zz (c.length<=9223372036854775807)) (Zx (.bool (Kerb.bQ.valid ⟨a,b,c⟩),[]))
 | _,_=>Zy
def agf:Sp
 | [.bs a,.bs b],[]=>ax (Zz (a.length<=140737488355328)&&Zz (b.length<=140737488355328)) (Zx (.bool (Kerb.zL a b),[]))
 | _,_=>Zy
def UF:Sp
 | [.bL 0 55 1],[(0,els)]=>ax (Zf els&&Zz ((els.length:Int)<=1152921504606846976)) (Zx (.bp [],[Kerb.Bo els]))
 | _,_=>Zy
def F1(a:Nat):Sp
 | [.agg [.sl 1 ks,.sl 1 bs]],[]=>ax ((Yu ks bs)&&Zz ((Kerb.dz (Zu ks bs):Int)<(a:Int))) (Zx (.agg [.sl 1 (Yv (Kerb.close (Zu ks bs)).keys),.sl 1 (Yz (Kerb.close (Zu ks bs)).boxes)],[]))
 | _,_=>Zy
def Ol:Sp
 | [.agg [.sl 1 ks,.sl 1 bs]],[]=>ax (Yu ks bs) (Zx (.agg [.sl 1 (Yv (Kerb.close (Zu ks bs)).keys),.sl 1 (Yz (Kerb.close (Zu ks bs)).boxes)],[]))
 | _,_=>Zy
def F2(a:Nat):Sp
 | [.agg [.sl 1 ks,.sl 1 bs],.bs b],[]=>ax ((Yu ks bs&&Zz (b.length<=70368744170000))&&Zz ((b.length:Int)<(a:Int))) (Zx (.bool (Kerb.eN (Zu ks bs) b),[]))
 | _,_=>Zy
def On:Sp
 | [.agg [.sl 1 ks,.sl 1 bs],.bs b],[]=>ax (Yu ks bs&&Zz (b.length<=70368744170000)) (Zx (.bool (Kerb.eN (Zu ks bs) b),[]))
 | _,_=>Zy
def Y':Sp
 | [.bs b],[]=>ax (Zz (b.length<=140737488355328)) (Zx (.bp [.agg [.bool ((Zh b).val).By,.bool ((Zh b).val).c5,.int AI ((Zh b).val).bj,.str ((Zh b).val).aA,.bs ((Zh b).val).aB,.bs ((Zh b).val).eQ],.int AI (Zh b).err],[]))
 | _,_=>Zy
def zP:Sp
 | [.bs b,.int AI pos],[]=>ax (Zz (b.length<=4611686018427387904)) (Zx (.bp [.agg [.str (Kerb.fX b pos).val.name,.str (Kerb.fX b pos).val.inst,.str (Kerb.fX b pos).val.aA],.int AI (Kerb.fX b pos).next,.int AI (Kerb.fX b pos).err],[]))
 | _,_=>Zy
def OA:Sp
 | [.agg [.bool li,.str x,.str y,.str z,.int AI t,.int AI ex,.int AI b,.bs a]],[]=>ax (Zz (x.length<=9223372036854775807)&&Zz (y.length<=9223372036854775807)&&Zz (z.length<=9223372036854775807)) (Zx (.bp [.bs (Kerb.bc ⟨li,⟨x,y,z⟩,t,ex,b,a⟩).val,.int AI (Kerb.bc ⟨li,⟨x,y,z⟩,t,ex,b,a⟩).err],[]))
 | _,_=>Zy
def ZG:Sp
 | [.agg [.bool li,.bool b,.int AI d,.str rl,.bs tk,.bs au,.int AI tm,.int AI c,.str a,.str ins]],[]=>ax (Zz (rl.length<=9223372036854775807)&&Zz (a.length<=9223372036854775807)&&Zz (ins.length<=9223372036854775807)) (Zx (.bp [.bs (Kerb.dj (Kerb.eM.mk (Kerb.cC.mk li b d rl tk au) tm c a ins)).val,.int AI (Kerb.dj (Kerb.eM.mk (Kerb.cC.mk li b d rl tk au) tm c a ins)).err],[]))
 | _,_=>Zy
def ZQ:Sp
 | [.agg [.int AI op,.str c,.str b,.str a,.bs bx]],[]=>ax (Zz (c.length<=9223372036854775807)&&Zz (b.length<=9223372036854775807)&&Zz (a.length<=9223372036854775807)) (Zx (.bp [.bs (Kerb.dL ⟨op,⟨c,b,a⟩,bx⟩).val,.int AI (Kerb.dL ⟨op,⟨c,b,a⟩,bx⟩).err],[]))
 | _,_=>Zy
def OE:Sp
 | [.agg [.int AI op,.str c,.str b,.str a,.int AI e,.str rl,.bs tk,.str d,.str ins,.bs bx]],[]=>ax (Zz (c.length<=9223372036854775807)&&Zz (b.length<=9223372036854775807)&&Zz (a.length<=9223372036854775807)&&Zz (rl.length<=9223372036854775807)&&Zz (d.length<=9223372036854775807)&&Zz (ins.length<=9223372036854775807)) (Zx (.int AI (Kerb.aH ⟨op,⟨c,b,a⟩,e,rl,tk,d,ins,bx⟩).err,[]))
 | _,_=>Zy
def OL:Sp
 | [.agg [.int AT k,.str x,.str y,.str z,.int AI a,.int AI b,.bs tk,.int AI t],.bool By],[]=>ax (Zz (x.length<=9223372036854775807)&&Zz (y.length<=9223372036854775807)&&Zz (z.length<=9223372036854775807)&&Zz (0<=k)&&Zz (k<18446744073709551616)) (Zx (.bp [.bs (Kerb.bt ⟨k,⟨x,y,z⟩,a,b,tk,t⟩ By).val,.int AI (Kerb.bt ⟨k,⟨x,y,z⟩,a,b,tk,t⟩ By).err],[]))
 | _,_=>Zy
def Z6:Sp
 | [.agg [.str cx,.str cy,.str d,.str c,.str b,.str sz,.int AT k,.int AI t,.int AI e,.int AI a]],[]=>ax (Zz (cx.length<=9223372036854775807)&&Zz (cy.length<=9223372036854775807)&&Zz (d.length<=9223372036854775807)&&Zz (c.length<=9223372036854775807)&&Zz (b.length<=9223372036854775807)&&Zz (sz.length<=9223372036854775807)&&Zz (0<=k)&&Zz (k<18446744073709551616)) (Zx (.bp [.bs (Kerb.eB ⟨⟨cx,cy,d⟩,⟨c,b,sz⟩,k,t,e,a⟩).val,.int AI (Kerb.eB ⟨⟨cx,cy,d⟩,⟨c,b,sz⟩,k,t,e,a⟩).err],[]))
 | _,_=>Zy
def Z7:Sp
 | [.agg [.int AT k,.str b,.str a,.str sz,.int AI t,.int AI e,.bs rc]],[]=>ax (Zz (b.length<=9223372036854775807)&&Zz (a.length<=9223372036854775807)&&Zz (sz.length<=9223372036854775807)&&Zz (0<=k)&&Zz (k<18446744073709551616)) (Zx (.bp [.bs (Kerb.dB ⟨k,⟨b,a,sz⟩,t,e,rc⟩).val,.int AI (Kerb.dB ⟨k,⟨b,a,sz⟩,t,e,rc⟩).err],[]))
 | _,_=>Zy
def Z8:Sp
 | [.agg [.bool li,.str x,.str y,.str z,.int AI ad,.int AT k,.int AI b,.int AI c,.str a,.str ins]],[]=>ax (Zz (x.length<=9223372036854775807)&&Zz (y.length<=9223372036854775807)&&Zz (z.length<=9223372036854775807)&&Zz (a.length<=9223372036854775807)&&Zz (ins.length<=9223372036854775807)&&Zz (0<=k)&&Zz (k<18446744073709551616)) (Zx (.int AI (Kerb.dZ.mk li ⟨x,y,z⟩ ad k b c a ins).err,[]))
 | _,_=>Zy
def OO:Sp
 | [.agg [.str lb,.int AI t,.int AT k,.int AI st,.int AI en,.int AI a,.str x,.str y,.str z,.bs tk]],[]=>ax (Zz (x.length<=9223372036854775807)&&Zz (y.length<=9223372036854775807)&&Zz (z.length<=9223372036854775807)&&Zz (0<=k)&&Zz (k<18446744073709551616)) (Zx (.int AI (Kerb.a_ ⟨lb,t,k,st,en,a,⟨x,y,z⟩,tk⟩).err,[]))
 | _,_=>Zy
def acF:Sp
 | [.sl 1 l,.int AT k],[]=>ax (Zf l&&Kerb.O3 (Kerb.Ej l k)&&Zz ((l.length:Int)<=100000000)) (Zx (.ay (Kerb.Ej l k),[]))
 | _,_=>Zy
def lJ:Sp
 | [.agg [.sl 1 ks,.sl 1 bs],.int AT k],[]=>ax (Yu ks bs&&Zz (0<=k)&&Zz (k<18446744073709551616)&&Zz (Kerb.dz (Zu ks bs)+1<=1000000)) (Zx (.agg [.sl 1 (Yv (Kerb.leak (Zu ks bs) k).keys),.sl 1 (Yz (Kerb.leak (Zu ks bs) k).boxes)],[]))
 | _,_=>Zy
def gT:Sp
 | [.agg [.sl 1 ks,.sl 1 bs],.bs b],[]=>ax (Yu ks bs&&Zz (Kerb.dz (Zu ks bs)+2*b.length+2100<=1000000)) (Zx (.agg [.sl 1 (Yv (Kerb.learn (Zu ks bs) b).keys),.sl 1 (Yz (Kerb.learn (Zu ks bs) b).boxes)],[]))
 | _,_=>Zy
def ik:Sp
 | [.agg [.sl 1 ks,.sl 1 bs],.bs b],[]=>ax (Yu ks bs&&Zz (b.length<=70368744160000)) (Zx (.bool (Kerb.BM (Zu ks bs) b),[]))
 | _,_=>Zy
def Ue:Sp
 | [.bs b],[]=>ax (Zz (b.length<=140737488355328)) (Zx (.bp [.agg [.bool ((Zb b).val).By,.str ((Zb b).val).BY.name,.str ((Zb b).val).BY.inst,.str ((Zb b).val).BY.aA,.int AI ((Zb b).val).time,.int AI ((Zb b).val).b_,.int AI ((Zb b).val).bj,.bs ((Zb b).val).cw],.int AI (Zb b).err],[]))
 | _,_=>Zy
def Za:Sp
 | [.bs b],[]=>ax (Zz (b.length<=140737488355328)) (Zx (.bp [.agg [.bool ((Zj b).val).ap.By,.bool ((Zj b).val).ap.c5,.int AI ((Zj b).val).ap.bj,.str ((Zj b).val).ap.aA,.bs ((Zj b).val).ap.aB,.bs ((Zj b).val).ap.eQ,.int AI ((Zj b).val).time,.int AI ((Zj b).val).bK,.str ((Zj b).val).service,.str ((Zj b).val).inst],.int AI (Zj b).err],[]))
 | _,_=>Zy
def OB:Sp
 | [.ptr 0 0],[(0,[.bs B,.int AI at_,.bool bad])]=>ax (Zz (B.length<=140737488355328)) (Zx (.agg [.str (Kerb.lZ B at_ bad).val.name,.str (Kerb.lZ B at_ bad).val.inst,.str (Kerb.lZ B at_ bad).val.aA],[[.bs B,.int AI (Kerb.lZ B at_ bad).pos,.bool (Kerb.lZ B at_ bad).bad]]))
 | _,_=>Zy
def Ug:Sp
 | [.agg [.int AI op,.str c,.str b,.str a,.int AI e,.str rl,.bs tk,.str d,.str ins,.bs bx]],[]=>ax (Zz (c.length<=9223372036854775807)&&Zz (b.length<=9223372036854775807)&&Zz (a.length<=9223372036854775807)&&Zz (rl.length<=9223372036854775807)&&Zz (d.length<=9223372036854775807)&&Zz (ins.length<=9223372036854775807)) (Zx (.bp [.bs (Kerb.aH ⟨op,⟨c,b,a⟩,e,rl,tk,d,ins,bx⟩).val,.int AI (Kerb.aH ⟨op,⟨c,b,a⟩,e,rl,tk,d,ins,bx⟩).err],[]))
 | _,_=>Zy
def ZN:Sp
 | [.ptr 0 0],[(0,[.bs B,.int AI at_,.bool bad])]=>ax (Zz (B.length<=140737488355328)) (Zx (.agg [.str (Kerb.oN B at_ bad).val.name,.str (Kerb.oN B at_ bad).val.inst,.str (Kerb.oN B at_ bad).val.aA],[[.bs B,.int AI (Kerb.oN B at_ bad).pos,.bool (Kerb.oN B at_ bad).bad]]))
 | _,_=>Zy
def Ga:Sp
 | [.bs b,.bool By],[]=>ax (Zz (b.length<=140737488355328)) (Zx (.bp [.agg [.int AT ((Zg b By).val).ah,.str ((Zg b By).val).service.name,.str ((Zg b By).val).service.inst,.str ((Zg b By).val).service.aA,.int AI ((Zg b By).val).bK,.int AI ((Zg b By).val).bj,.bs ((Zg b By).val).aB,.int AI ((Zg b By).val).time],.int AI (Zg b By).err],[]))
 | _,_=>Zy
def OK:Sp
 | [.agg [.bool li,.str x,.str y,.str z,.int AI ad,.int AT k,.int AI b,.int AI c,.str a,.str ins]],[]=>ax (Zz (x.length<=9223372036854775807)&&Zz (y.length<=9223372036854775807)&&Zz (z.length<=9223372036854775807)&&Zz (a.length<=9223372036854775807)&&Zz (ins.length<=9223372036854775807)&&Zz (0<=k)&&Zz (k<18446744073709551616)) (Zx (.bp [.bs (Kerb.bE (Kerb.dZ.mk li ⟨x,y,z⟩ ad k b c a ins)).val,.int AI (Kerb.bE (Kerb.dZ.mk li ⟨x,y,z⟩ ad k b c a ins)).err],[]))
 | _,_=>Zy
def K2:Sp
 | [.agg [.str lb,.int AI t,.int AT k,.int AI st,.int AI en,.int AI a,.str x,.str y,.str z,.bs tk]],[]=>ax (Zz (x.length<=9223372036854775807)&&Zz (y.length<=9223372036854775807)&&Zz (z.length<=9223372036854775807)&&Zz (0<=k)&&Zz (k<18446744073709551616)) (Zx (.bp [.bs (Kerb.a_ ⟨lb,t,k,st,en,a,⟨x,y,z⟩,tk⟩).val,.int AI (Kerb.a_ ⟨lb,t,k,st,en,a,⟨x,y,z⟩,tk⟩).err],[]))
 | _,_=>Zy
def Uf:Sp
 | [.bs b],[]=>ax (Zz (b.length<=140737488355328)) (Zx (.bp [.agg [.int AI ((Zd b).val).op,.str ((Zd b).val).user.name,.str ((Zd b).val).user.inst,.str ((Zd b).val).user.aA,.int AI ((Zd b).val).bj,.str ((Zd b).val).aA,.bs ((Zd b).val).aB,.str ((Zd b).val).service,.str ((Zd b).val).inst,.bs ((Zd b).val).box],.int AI (Zd b).err],[]))
 | _,_=>Zy
def Zl:Sp
 | [.bs b],[]=>ax (Zz (b.length<=140737488355328)) (Zx (.bp [.agg [.int AI ((Yw b).val).op,.str ((Yw b).val).name.name,.str ((Yw b).val).name.inst,.str ((Yw b).val).name.aA,.bs ((Yw b).val).box],.int AI (Yw b).err],[]))
 | _,_=>Zy
def KW:Sp
 | [.bs b],[]=>ax (Zz (b.length<=140737488355328)) (Zx (.bp [.agg [.bool ((Zk b).val).By,.str ((Zk b).val).BY.name,.str ((Zk b).val).BY.inst,.str ((Zk b).val).BY.aA,.int AI ((Zk b).val).address,.int AT ((Zk b).val).ah,.int AI ((Zk b).val).bK,.int AI ((Zk b).val).cf,.str ((Zk b).val).service,.str ((Zk b).val).inst],.int AI (Zk b).err],[]))
 | _,_=>Zy
def KX:Sp
 | [.bs b],[]=>ax (Zz (b.length<=140737488355328)) (Zx (.bp [.agg [.str ((Zp b).val).label,.int AI ((Zp b).val).time,.int AT ((Zp b).val).ah,.int AI ((Zp b).val).start,.int AI ((Zp b).val).stop,.int AI ((Zp b).val).bj,.str ((Zp b).val).service.name,.str ((Zp b).val).service.inst,.str ((Zp b).val).service.aA,.bs ((Zp b).val).aB],.int AI (Zp b).err],[]))
 | _,_=>Zy
def OH:Sp
 | [.bs b],[]=>ax (Zz (b.length<=140737488355328)) (Zx (.bp [.agg [.str ((Zq b).val).BY.name,.str ((Zq b).val).BY.inst,.str ((Zq b).val).BY.aA,.str ((Zq b).val).service.name,.str ((Zq b).val).service.inst,.str ((Zq b).val).service.aA,.int AT ((Zq b).val).ah,.int AI ((Zq b).val).start,.int AI ((Zq b).val).stop,.int AI ((Zq b).val).addr],.int AI (Zq b).err],[]))
 | _,_=>Zy
def OI:Sp
 | [.bs b],[]=>ax (Zz (b.length<=140737488355328)) (Zx (.bp [.agg [.int AT ((Zm b).val).ah,.str ((Zm b).val).service.name,.str ((Zm b).val).service.inst,.str ((Zm b).val).service.aA,.int AI ((Zm b).val).start,.int AI ((Zm b).val).stop,.bs ((Zm b).val).record],.int AI (Zm b).err],[]))
 | _,_=>Zy
def Om:Sp
 | [.bs b],[]=>ax (Zz (b.length<=70368744170000)) (Zx (.sl 1 (Yz (Kerb.o7 b)),[]))
 | _,_=>Zy
def Uh:Sp
 | [.agg [.int AI kd,.int AT k,.bs b]],[]=>ax (Zz (b.length<=70368744170000)) (Zx (.bp [.sl 1 (Yv (Kerb.h_ ⟨kd,k,b⟩).keys),.sl 1 (Yz (Kerb.h_ ⟨kd,k,b⟩).boxes)],[]))
 | _,_=>Zy
def TU:Sp
 | [.bs b],[]=>ax (Zz (b.length<=70368744170000)) (Zx (.sl 1 (Yz (Kerb.partsOf b)),[]))
 | _,_=>Zy
def UC:Sp
 | [.agg [.sl 1 ks,.sl 1 bs],.bs b],[]=>ax (Yu ks bs&&Zz (Kerb.dz (Zu ks bs)+2*b.length+2100<=1000000)) (Zx (.agg [.sl 1 (Yv (Kerb.learn (Zu ks bs) b).keys),.sl 1 (Yz (Kerb.learn (Zu ks bs) b).boxes)],[]))
 | _,_=>Zy
def UD:Sp
 | [.agg [.sl 1 ks,.sl 1 bs],.int AT k],[]=>ax (Yu ks bs&&Zz (0<=k)&&Zz (k<18446744073709551616)&&Zz (Kerb.dz (Zu ks bs)+1<=1000000)) (Zx (.agg [.sl 1 (Yv (Kerb.leak (Zu ks bs) k).keys),.sl 1 (Yz (Kerb.leak (Zu ks bs) k).boxes)],[]))
 | _,_=>Zy
def K9:List (Nat×Nat×List CT×Sp):=[(25,1,[.c4,.int .u16],acC),(26,1,[.int AI],age),(36,1,[.c4,.c4],agi),(48,1,[.sl 1,.int AT],l_),(66,1,[.sl 1,.int AT],UE),(71,1,[.int AI],agk),(72,1,[.c4],MY),(74,1,[.int AI],agl),(108,1,[],YY),(117,1,[.other,.other],Ky),(152,1,[.int AI,.int AI],YZ),(154,1,[.int AI,.bool],TX),(155,1,[.c4,.str],TY),(160,1,[.int AI,.int AI],Y3),(168,1,[.int AI],Y6),(169,1,[.int AI,.int AI],Y7),(173,1,[.sl 1],T5),(174,1,[.sl 1],T6),(186,1,[.sl 1,.int AI,.int AI],KG),(192,1,[.int AT],T9),(193,1,[.int AI,.int AI],T_),(197,1,[.str,.str],DR),(204,1,[.c4],Ua),(228,1,[.int AI,.int AI],Y9),(232,1,[.c4,.int AI,.int AI,.bool],DS),(235,1,[.int AT],Uc),(236,1,[.c4],Ud),(247,1,[.int AI],Zo),(248,1,[.int AI],Zr),(260,1,[.ptr],KQ),(263,1,[.int AT],Zs),(362,1,[.int AI,.int AI],ZS),(365,1,[.int AI,.sl 1],Uk),(368,1,[.c4,.int AI,.int AI],Bs),(369,1,[.int AI,.int AI],ZT),(377,1,[.int AI,.int AI],ZV),(383,1,[.ptr,.int AI,.int AI],Up),(387,1,[.int AI],ZZ),(388,1,[.int AI,.int AI],Z0),(389,1,[.ptr,.int AI,.int AI],Uq),(401,1,[.ptr,.int AI,.int AI],Us),(404,1,[.c4,.int AI,.int AI],DY),(405,1,[.c4,.int AI],KY),(408,1,[.int AI],Z3),(410,1,[.other,.other],KZ),(411,1,[.c4,.u8],Ut),(416,1,[.str],Uv),(419,1,[.str],Ux),(428,1,[.int AT],DZ),(434,1,[.int AI,.int AI],Z'),(436,1,[.int AI,.int AI],aac),(437,1,[.str,.u8],UB),(42,2,[.other,.int AT],acE),(60,2,[.int AI],XB),(119,2,[.int AT],F5),(120,2,[.int AT],DQ),(124,2,[.str],TV),(131,2,[.other,.sl 1,.sl 1],TW),(153,2,[.c4,.int AI],Y0),(156,2,[.str],TZ),(157,2,[.str],Y1),(158,2,[.c4,.int AI,.bool],T3),(161,2,[.c4,.other],Y4),(162,2,[.c4,.int AI,.bool],T4),(179,2,[.int AT],T7),(188,2,[.int AT,.int AT],Y8),(314,2,[.c4,.int AI,.int AI],xt),(337,2,[.c4,.sl 1],Ui),(342,2,[.ptr,.int AI],nR),(344,2,[.ptr],Br),(364,2,[.c4],Uj),(367,2,[.c4,.int AI,.int AI,.bool],Ul),(370,2,[.int AI,.bool],Um),(375,2,[.sl 1],Un),(379,2,[.c4,.u8],Uo),(425,2,[.c4,.int AI,.int AI,.bool],Uy),(433,2,[.int AI,.int AI],Z_),(435,2,[.str,.u8],UA),(27,3,[.int AI],acD),(73,3,[.c4],HV),(94,3,[.other],XC),(104,3,[.other],YX),(114,3,[.int AT],F3),(132,3,[.int AT],xp),(159,3,[.other],Y2),(182,3,[.sl 1,.int AI,.int AI],Kz),(187,3,[.sl 1,.int AI,.int AI],KK),(189,3,[.sl 1,.int AI,.int AI,.int AI],F6),(190,3,[.sl 1,.int AI,.int AI,.int AI],F7),(230,3,[.int AT],Ub),(258,3,[.sl 1,.int AI,.int AI,.int AI],F8),(259,3,[.int AI],KP),(304,3,[.other],ZA),(308,3,[.c4,.bool],ZC),(309,3,[.c4,.sl 1],ZD),(311,3,[.c4,.int AI,.bool],xr),(312,3,[.c4,.int AI],uu),(313,3,[.c4,.int AI,.bool],Oz),(318,3,[.c4,.int AI],xu),(324,3,[.ptr,.int AI],KV),(331,3,[.ptr,.int AI],ZO),(338,3,[.ptr],Bq),(345,3,[.c4,.bool],ZR),(346,3,[.sl 1,.int AI,.int AI,.ptr],DV),(378,3,[.c4,.str],F_),(400,3,[.c4,.int AI,.bool],Z1),(402,3,[.c4,.int AI],OJ),(403,3,[.c4,.int AI,.bool],Z2),(409,3,[.c4,.int AI,.int AI,.bool],zR),(426,3,[.str,.u8],Uz),(429,3,[.c4],zS),(432,3,[.int AT],Z9),(50,4,[.c4],acH),(70,4,[.c4],HU),(96,4,[.other],agm),(97,4,[.other],XD),(100,4,[.other],YV),(103,4,[.other],YW),(166,4,[.other],Y5),(183,4,[.sl 1,.int AI,.int AI],KB),(184,4,[.sl 1,.int AI,.int AI],KD),(231,4,[.other],Y_),(262,4,[.sl 1,.int AI,.int AI,.int AI,.ptr],Bp),(292,4,[.other,.bool],Zt),(306,4,[.other],ZB),(316,4,[.c4],ZE),(322,4,[.ptr],KU),(323,4,[.ptr],ZJ),(326,4,[.ptr],ZK),(329,4,[.ptr],ZM),(332,4,[.ptr],ZP),(339,4,[.ptr],uv),(340,4,[.ptr],pu),(341,4,[.ptr],DU),(347,4,[.other],OC),(371,4,[.c4,.other],F9),(372,4,[.c4,.int AI,.bool],vR),(373,4,[.c4,.int AI],zQ),(374,4,[.c4,.int AI,.bool],DW),(382,4,[.c4,.int AI,.int AI,.bool],ZY),(392,4,[.sl 1],vS),(412,4,[.str,.str],Uu),(415,4,[.ptr],Gb),(422,4,[.ptr],Z5),(430,4,[.other],ON),(47,5,[.c4],acG),(49,5,[.c4],XA),(233,5,[.other],Oo),(249,5,[.c4],KL),(253,5,[.c4],Ot),(254,5,[.c4],KN),(255,5,[.c4],KO),(256,5,[.c4],Ou),(257,5,[.c4],Ov),(261,5,[.sl 1,.int AI,.ptr],DT),(270,5,[.c4,.bool],KS),(271,5,[.c4],Ow),(272,5,[.c4],KT),(273,5,[.c4],Ox),(274,5,[.c4],Oy),(320,5,[.c4,.bool],ZH),(321,5,[.c4],ZI),(380,5,[.str],ZW),(381,5,[.str],ZX),(385,5,[.c4,.c4],DX),(386,5,[.c4,.c4],F'),(390,5,[.c4,.c4],Ur),(417,5,[.ptr],OM),(418,5,[.other],Uw),(421,5,[.ptr],Z4),(32,6,[.c4,.c4],agh),(46,6,[.c4],Xt),(185,6,[.sl 1,.int AI,.int AI],KE),(241,6,[.c4],Zc),(242,6,[.c4],Ze),(250,6,[.sl 1],o9),(251,6,[.c4],KM),(252,6,[.c4],Oq),(269,6,[.c4],KR),(328,6,[.other],ZL),(376,6,[.str],ZU),(394,6,[.c4],OG)]
def Nf:List (Nat×Nat×List CT×Sp):=[(61,7,[.c4],agj),(118,7,[.sl 1,.int AI,.int AI,.int AI],F4),(175,7,[.sl 1],xq),(181,7,[.c4],T8),(203,7,[.other],T'),(244,7,[.c4],Zi),(317,7,[.other],ZF),(366,7,[.other],OD)]
def QK:List (Nat×Nat×List CT×Sp):=[(31,8,[.c4,.c4],agf),(68,8,[.sl 1],UF),(133,8,[.other],Ol),(201,8,[.other,.c4],On),(239,8,[.c4],Y'),(310,8,[.c4,.int AI],zP),(315,8,[.other],OA),(319,8,[.other],ZG),(333,8,[.other],ZQ),(384,8,[.other],OE),(414,8,[.other,.bool],OL),(423,8,[.other],Z6),(424,8,[.other],Z7),(427,8,[.other],Z8),(431,8,[.other],OO),(45,9,[.sl 1,.int AT],acF),(85,9,[.other,.int AT],lJ),(116,9,[.other,.c4],gT),(130,9,[.other,.c4],ik),(238,9,[.c4],Ue),(240,9,[.c4],Za),(325,9,[.ptr],OB),(327,9,[.other],Ug),(330,9,[.ptr],ZN),(393,9,[.c4,.bool],Ga),(413,9,[.other],OK),(420,9,[.other],K2),(243,10,[.c4],Uf),(245,10,[.c4],Zl),(391,10,[.c4],KW),(395,10,[.c4],KX),(396,10,[.c4],OH),(397,10,[.c4],OI),(176,11,[.c4],Om),(334,11,[.other],Uh),(111,12,[.c4],TU),(63,15,[.other,.c4],UC),(64,15,[.other,.int AT],UD)]
def acZ:List (Nat×Nat×List CT×Sp):=K9++Nf++QK
def aeq:List (Nat×List AV):=[]
noncomputable def abP:List (Nat×Func):=[(28,Tryz.f28),(29,Tryz.f29),(33,Tryz.f33),(34,Tryz.f34),(37,Tryz.f37),(38,Tryz.f38),(54,Tryz.f54),(69,Tryz.f69),(86,Tryz.f86),(137,Tryz.f137),(202,Tryz.f202),(237,Tryz.f237),(398,Tryz.f398),(399,Tryz.f399),(35,Tryz.f35),(67,Tryz.f67),(83,Tryz.f83),(110,Tryz.f110),(141,Tryz.f141),(172,Tryz.f172),(177,Tryz.f177),(335,Tryz.f335),(336,Tryz.f336),(109,Tryz.f109),(112,Tryz.f112),(128,Tryz.f128),(149,Tryz.f149),(62,Tryz.f62),(148,Tryz.f148),(180,Tryz.f180),(343,Tryz.f343),(135,Tryz.f135),(30,Tryz.f30),(84,Tryz.f84),(115,Tryz.f115),(139,Tryz.f139),(88,Tryz.f88),(89,Tryz.f89),(90,Tryz.f90),(91,Tryz.f91),(92,Tryz.f92),(93,Tryz.f93),(134,Tryz.f134),(136,Tryz.f136),(87,Tryz.f87),(246,Tryz.f246),(53,Tryz.f53),(178,Tryz.f178),(113,Tryz.f113)]
def look{α:Type}(k:Nat):List (Nat×α)->Option α
 | []=>Zy
 | (j,x)::r=>cond (Nat.beq j k) (Zx x) (look k r)
def JR{α:Type}(k m:Nat):List (Nat×Nat×List α)->List α
 | []=>[]
 | (j,i,x)::r=>cond (Nat.beq j k) (cond (Nat.beq i m) x (JR k m r)) (JR k m r)
noncomputable def G0:iT:={ ty:=λt=>(tbl[t]?).join,keep:=λf r=>JR f r YB,own:=λf=>akJ.contains f,qU:=λq=>look q aeq,rts:=λf=>look f akT,uw:=λf=>look f acZ,inl:=λf=>look f abP }
noncomputable def YH:List (Nat×Nat×List CT×Func):=[(11,1,[.sl 51,.int AI],Tryz.f11),(12,1,[.sl 1,.sl 1],Tryz.f12),(14,1,[.sl 51,.int AI],Tryz.f14),(55,1,[.u8,.int AI],Tryz.f55),(56,1,[.other,.other],Tryz.f56),(57,1,[.other,.other],Tryz.f57),(75,1,[.other,.int AI],Tryz.f75),(105,1,[.other,.int AI],Tryz.f105),(107,1,[.other,.other],Tryz.f107),(123,1,[.int AI],Tryz.f123),(125,1,[.sl 4,.str,.str,.int AI],Tryz.f125),(129,1,[.str,.str],Tryz.f129),(170,1,[.other,.int AI],Tryz.f170),(171,1,[.c4,.other],Tryz.f171),(195,1,[.other,.other],Tryz.f195),(196,1,[.other,.other],Tryz.f196),(213,1,[.sl 7,.other],Tryz.f213),(216,1,[.int AI,.int AI],Tryz.f216),(218,1,[.other],Tryz.f218),(222,1,[.int AI,.int AI],Tryz.f222),(229,1,[.int AI,.int AI],Tryz.f229),(264,1,[.int AI,.int AI],Tryz.f264),(266,1,[.int AI,.int AI],Tryz.f266),(267,1,[.other,.other],Tryz.f267),(268,1,[.sl 5,.other,.int AI],Tryz.f268),(275,1,[.int AI,.int AI],Tryz.f275),(282,1,[.sl 1,.int AI],Tryz.f282),(299,1,[.int AI],Tryz.f299),(300,1,[.int AI],Tryz.f300),(303,1,[.int AI],Tryz.f303),(348,1,[.other,.str,.str],Tryz.f348),(353,1,[.int AI],Tryz.f353),(354,1,[.sl 4,.str,.str],Tryz.f354),(356,1,[.other,.int AI,.other],Tryz.f356),(358,1,[.int AI],Tryz.f358),(363,1,[.int AI,.int AI],Tryz.f363),(407,1,[.other,.int AI,.other],Tryz.f407),(10,2,[.sl 51,.int AI],Tryz.f10),(79,2,[.sl 13,.sl 2],Tryz.f79),(101,2,[.other,.u8],Tryz.f101),(106,2,[.other,.int AI],Tryz.f106),(150,2,[.other],Tryz.f150),(220,2,[.other,.other],Tryz.f220),(223,2,[.int AI,.int AI],Tryz.f223),(225,2,[.sl 1,.int AI,.int AI],Tryz.f225),(281,2,[.int AI,.int AI,.sl 1],Tryz.f281),(288,2,[.other,.int AI,.int AI],Tryz.f288),(296,2,[.int AI,.int AI,.int AI],Tryz.f296),(360,2,[.other,.int AI],Tryz.f360),(13,3,[.sl 51,.int AI],Tryz.f13),(59,3,[.other,.int AI,.int AI,.u8,.int AI],Tryz.f59),(76,3,[.int AI,.int AI],Tryz.f76),(78,3,[.sl 4],Tryz.f78),(95,3,[.other,.u8,.int AI],Tryz.f95),(145,3,[.sl 1,.int AI,.int AI],Tryz.f145),(167,3,[.int AI,.int AT,.c4],Tryz.f167),(194,3,[.other],Tryz.f194),(276,3,[.other,.sl 4],Tryz.f276),(302,3,[.other,.int AI],Tryz.f302),(305,3,[.other,.str,.str,.int AI,.int AI,.int AI,.int AI],Tryz.f305),(351,3,[.int AI,.int AI,.int AI,.int AI],Tryz.f351),(7,4,[.other,.other],Tryz.f7),(51,4,[.other],Tryz.f51),(82,4,[.sl 13,.sl 4,.sl 31,.sl 10],Tryz.f82),(99,4,[.other],Tryz.f99),(121,4,[.other],Tryz.f121),(122,4,[.other],Tryz.f122),(163,4,[.other,.u8,.int AI],Tryz.f163),(199,4,[.other],Tryz.f199),(200,4,[.sl 5],Tryz.f200),(217,4,[.other],Tryz.f217),(219,4,[.other,.other,.int AI],Tryz.f219),(226,4,[.other,.str,.str,.int AI],Tryz.f226),(227,4,[.other,.str,.str,.int AI],Tryz.f227),(265,4,[.other],Tryz.f265),(286,4,[.int AI,.int AI],Tryz.f286),(307,4,[.other],Tryz.f307),(361,4,[.other,.bool],Tryz.f361),(39,5,[.other,.sl 51,.other,.sl 1],Tryz.f39),(77,5,[.sl 13],Tryz.f77),(102,5,[.other,.other,.other,.other],Tryz.f102),(127,5,[.other],Tryz.f127),(147,5,[.other,.other,.other,.int AI,.int AI,.int AI,.int AT],Tryz.f147),(151,5,[.other],Tryz.f151),(198,5,[.other,.int AI,.int AI,.bool],Tryz.f198),(224,5,[.other,.other,.int AT],Tryz.f224),(234,5,[.other,.bool],Tryz.f234),(279,5,[.other,.int AI,.int AI,.bool],Tryz.f279),(280,5,[.other,.sl 4,.str,.str,.int AI],Tryz.f280),(284,5,[.other,.other,.int AT],Tryz.f284),(287,5,[.c4,.int AI,.int AT],Tryz.f287),(291,5,[.other],Tryz.f291),(293,5,[.c4],Tryz.f293),(295,5,[.c4],Tryz.f295),(297,5,[.other,.other],Tryz.f297),(298,5,[.c4,.bool],Tryz.f298),(301,5,[.other,.bool],Tryz.f301),(352,5,[.other,.other,.int AI,.int AI],Tryz.f352),(357,5,[.int AI,.other,.int AT],Tryz.f357),(359,5,[.other,.int AI,.int AT],Tryz.f359),(81,6,[.sl 2,.sl 10],Tryz.f81),(126,6,[.other],Tryz.f126),(164,6,[.other,.int AT],Tryz.f164),(165,6,[.other,.bool,.int AT],Tryz.f165),(212,6,[.other,.int AT,.c4],Tryz.f212),(289,6,[.other,.int AI,.int AI,.int AI,.c4],Tryz.f289),(294,6,[.c4,.int AI,.bool],Tryz.f294),(355,6,[.int AI,.str,.int AI,.other,.other,.int AT],Tryz.f355),(406,6,[.c4,.bool],Tryz.f406),(9,7,[.sl 51,.int AI],Tryz.f9),(80,7,[.sl 2,.sl 31],Tryz.f80),(98,7,[.other,.other,.other,.other,.bool],Tryz.f98),(138,7,[.other,.int AI,.int AI],Tryz.f138),(143,7,[.other,.int AT,.int AI,.int AI],Tryz.f143),(144,7,[.other,.other,.int AI,.int AI],Tryz.f144),(146,7,[.other,.int AT,.int AT,.int AI],Tryz.f146),(207,7,[.other,.int AI,.c4],Tryz.f207),(209,7,[.other,.int AT,.c4,.int AI],Tryz.f209),(210,7,[.other,.c4],Tryz.f210),(211,7,[.other,.other,.int AT,.c4],Tryz.f211),(214,7,[.other,.other,.c4],Tryz.f214),(221,7,[.other,.other,.bool,.int AI,.int AI,.int AI],Tryz.f221),(283,7,[.other,.other,.other,.int AI,.bool,.int AI,.int AI,.int AT,.int AT,.int AT,.int AI],Tryz.f283),(349,7,[.c4,.int AT],Tryz.f349),(350,7,[.c4,.bool,.int AT],Tryz.f350),(52,8,[.sl 13,.sl 4,.sl 2,.sl 31,.sl 10],Tryz.f52),(58,8,[.other,.other],Tryz.f58),(140,8,[.other,.other,.int AI,.int AI,.int AI],Tryz.f140),(142,8,[.other,.other,.bool,.int AI,.int AI,.int AI],Tryz.f142),(208,8,[.other,.sl 4,.int AI,.int AI,.bool,.int AT,.c4],Tryz.f208),(277,8,[.other,.other,.int AI,.int AI],Tryz.f277),(278,8,[.other,.other,.int AI,.int AI,.bool],Tryz.f278),(285,8,[.other,.int AI,.int AI,.int AI,.int AT,.other],Tryz.f285),(290,8,[.other,.int AI,.int AI,.int AI,.int AI,.int AT,.other,.c4],Tryz.f290),(22,9,[.other],Tryz.f22),(24,9,[.other,.other],Tryz.f24),(205,9,[.other,.sl 4,.other,.int AI,.int AI,.bool,.int AT,.c4],Tryz.f205),(206,9,[.other,.int AI,.int AI,.int AI,.int AT,.c4],Tryz.f206),(215,9,[.other,.c4,.int AI,.int AI],Tryz.f215),(8,10,[.sl 51,.int AI],Tryz.f8),(65,10,[.other,.other,.sl 4],Tryz.f65),(41,11,[.sl 51,.sl 4,.int AI],Tryz.f41),(16,12,[.sl 51,.sl 4],Tryz.f16),(23,14,[.other,.other],Tryz.f23),(6,15,[.other,.sl 6],Tryz.f6),(40,16,[.other,.other,.sl 4],Tryz.f40),(15,17,[.sl 51,.sl 4],Tryz.f15),(5,18,[],Tryz.f5),(3,19,[.other,.sl 6,.other,.int AI],Tryz.f3)]
noncomputable def ow:QQ:=λf=>look f YH
@[irreducible] noncomputable def sp11:Sp:=ownSp G0 ow 1 11 Tryz.f11
@[irreducible] noncomputable def sp12:Sp:=ownSp G0 ow 1 12 Tryz.f12
@[irreducible] noncomputable def sp14:Sp:=ownSp G0 ow 1 14 Tryz.f14
@[irreducible] noncomputable def sp55:Sp:=ownSp G0 ow 1 55 Tryz.f55
@[irreducible] noncomputable def sp56:Sp:=ownSp G0 ow 1 56 Tryz.f56
@[irreducible] noncomputable def sp57:Sp:=ownSp G0 ow 1 57 Tryz.f57
@[irreducible] noncomputable def sp75:Sp:=ownSp G0 ow 1 75 Tryz.f75
@[irreducible] noncomputable def sp105:Sp:=ownSp G0 ow 1 105 Tryz.f105
@[irreducible] noncomputable def sp107:Sp:=ownSp G0 ow 1 107 Tryz.f107
@[irreducible] noncomputable def sp123:Sp:=ownSp G0 ow 1 123 Tryz.f123
@[irreducible] noncomputable def sp125:Sp:=ownSp G0 ow 1 125 Tryz.f125
@[irreducible] noncomputable def sp129:Sp:=ownSp G0 ow 1 129 Tryz.f129
@[irreducible] noncomputable def sp170:Sp:=ownSp G0 ow 1 170 Tryz.f170
@[irreducible] noncomputable def sp171:Sp:=ownSp G0 ow 1 171 Tryz.f171
@[irreducible] noncomputable def sp195:Sp:=ownSp G0 ow 1 195 Tryz.f195
@[irreducible] noncomputable def sp196:Sp:=ownSp G0 ow 1 196 Tryz.f196
@[irreducible] noncomputable def sp213:Sp:=ownSp G0 ow 1 213 Tryz.f213
@[irreducible] noncomputable def sp216:Sp:=ownSp G0 ow 1 216 Tryz.f216
@[irreducible] noncomputable def sp218:Sp:=ownSp G0 ow 1 218 Tryz.f218
@[irreducible] noncomputable def sp222:Sp:=ownSp G0 ow 1 222 Tryz.f222
@[irreducible] noncomputable def sp229:Sp:=ownSp G0 ow 1 229 Tryz.f229
@[irreducible] noncomputable def sp264:Sp:=ownSp G0 ow 1 264 Tryz.f264
@[irreducible] noncomputable def sp266:Sp:=ownSp G0 ow 1 266 Tryz.f266
@[irreducible] noncomputable def sp267:Sp:=ownSp G0 ow 1 267 Tryz.f267
@[irreducible] noncomputable def sp268:Sp:=ownSp G0 ow 1 268 Tryz.f268
@[irreducible] noncomputable def sp275:Sp:=ownSp G0 ow 1 275 Tryz.f275
@[irreducible] noncomputable def sp282:Sp:=ownSp G0 ow 1 282 Tryz.f282
@[irreducible] noncomputable def sp299:Sp:=ownSp G0 ow 1 299 Tryz.f299
@[irreducible] noncomputable def sp300:Sp:=ownSp G0 ow 1 300 Tryz.f300
@[irreducible] noncomputable def sp303:Sp:=ownSp G0 ow 1 303 Tryz.f303
@[irreducible] noncomputable def sp348:Sp:=ownSp G0 ow 1 348 Tryz.f348
@[irreducible] noncomputable def sp353:Sp:=ownSp G0 ow 1 353 Tryz.f353
@[irreducible] noncomputable def sp354:Sp:=ownSp G0 ow 1 354 Tryz.f354
@[irreducible] noncomputable def sp356:Sp:=ownSp G0 ow 1 356 Tryz.f356
@[irreducible] noncomputable def sp358:Sp:=ownSp G0 ow 1 358 Tryz.f358
@[irreducible] noncomputable def sp363:Sp:=ownSp G0 ow 1 363 Tryz.f363
@[irreducible] noncomputable def sp407:Sp:=ownSp G0 ow 1 407 Tryz.f407
@[irreducible] noncomputable def sp10:Sp:=ownSp G0 ow 2 10 Tryz.f10
@[irreducible] noncomputable def sp79:Sp:=ownSp G0 ow 2 79 Tryz.f79
@[irreducible] noncomputable def sp101:Sp:=ownSp G0 ow 2 101 Tryz.f101
@[irreducible] noncomputable def sp106:Sp:=ownSp G0 ow 2 106 Tryz.f106
@[irreducible] noncomputable def sp150:Sp:=ownSp G0 ow 2 150 Tryz.f150
@[irreducible] noncomputable def sp220:Sp:=ownSp G0 ow 2 220 Tryz.f220
@[irreducible] noncomputable def sp223:Sp:=ownSp G0 ow 2 223 Tryz.f223
@[irreducible] noncomputable def sp225:Sp:=ownSp G0 ow 2 225 Tryz.f225
@[irreducible] noncomputable def sp281:Sp:=ownSp G0 ow 2 281 Tryz.f281
@[irreducible] noncomputable def sp288:Sp:=ownSp G0 ow 2 288 Tryz.f288
@[irreducible] noncomputable def sp296:Sp:=ownSp G0 ow 2 296 Tryz.f296
@[irreducible] noncomputable def sp360:Sp:=ownSp G0 ow 2 360 Tryz.f360
@[irreducible] noncomputable def sp13:Sp:=ownSp G0 ow 3 13 Tryz.f13
@[irreducible] noncomputable def sp59:Sp:=ownSp G0 ow 3 59 Tryz.f59
@[irreducible] noncomputable def sp76:Sp:=ownSp G0 ow 3 76 Tryz.f76
@[irreducible] noncomputable def sp78:Sp:=ownSp G0 ow 3 78 Tryz.f78
@[irreducible] noncomputable def sp95:Sp:=ownSp G0 ow 3 95 Tryz.f95
@[irreducible] noncomputable def sp145:Sp:=ownSp G0 ow 3 145 Tryz.f145
@[irreducible] noncomputable def sp167:Sp:=ownSp G0 ow 3 167 Tryz.f167
@[irreducible] noncomputable def sp194:Sp:=ownSp G0 ow 3 194 Tryz.f194
@[irreducible] noncomputable def sp276:Sp:=ownSp G0 ow 3 276 Tryz.f276
@[irreducible] noncomputable def sp302:Sp:=ownSp G0 ow 3 302 Tryz.f302
@[irreducible] noncomputable def sp305:Sp:=ownSp G0 ow 3 305 Tryz.f305
@[irreducible] noncomputable def sp351:Sp:=ownSp G0 ow 3 351 Tryz.f351
@[irreducible] noncomputable def sp7:Sp:=ownSp G0 ow 4 7 Tryz.f7
@[irreducible] noncomputable def sp51:Sp:=ownSp G0 ow 4 51 Tryz.f51
@[irreducible] noncomputable def sp82:Sp:=ownSp G0 ow 4 82 Tryz.f82
@[irreducible] noncomputable def sp99:Sp:=ownSp G0 ow 4 99 Tryz.f99
@[irreducible] noncomputable def sp121:Sp:=ownSp G0 ow 4 121 Tryz.f121
@[irreducible] noncomputable def sp122:Sp:=ownSp G0 ow 4 122 Tryz.f122
@[irreducible] noncomputable def sp163:Sp:=ownSp G0 ow 4 163 Tryz.f163
@[irreducible] noncomputable def sp199:Sp:=ownSp G0 ow 4 199 Tryz.f199
@[irreducible] noncomputable def sp200:Sp:=ownSp G0 ow 4 200 Tryz.f200
@[irreducible] noncomputable def sp217:Sp:=ownSp G0 ow 4 217 Tryz.f217
@[irreducible] noncomputable def sp219:Sp:=ownSp G0 ow 4 219 Tryz.f219
@[irreducible] noncomputable def sp226:Sp:=ownSp G0 ow 4 226 Tryz.f226
@[irreducible] noncomputable def sp227:Sp:=ownSp G0 ow 4 227 Tryz.f227
@[irreducible] noncomputable def sp265:Sp:=ownSp G0 ow 4 265 Tryz.f265
@[irreducible] noncomputable def sp286:Sp:=ownSp G0 ow 4 286 Tryz.f286
@[irreducible] noncomputable def sp307:Sp:=ownSp G0 ow 4 307 Tryz.f307
@[irreducible] noncomputable def sp361:Sp:=ownSp G0 ow 4 361 Tryz.f361
@[irreducible] noncomputable def sp39:Sp:=ownSp G0 ow 5 39 Tryz.f39
@[irreducible] noncomputable def sp77:Sp:=ownSp G0 ow 5 77 Tryz.f77
@[irreducible] noncomputable def sp102:Sp:=ownSp G0 ow 5 102 Tryz.f102
@[irreducible] noncomputable def sp127:Sp:=ownSp G0 ow 5 127 Tryz.f127
@[irreducible] noncomputable def sp147:Sp:=ownSp G0 ow 5 147 Tryz.f147
@[irreducible] noncomputable def sp151:Sp:=ownSp G0 ow 5 151 Tryz.f151
@[irreducible] noncomputable def sp198:Sp:=ownSp G0 ow 5 198 Tryz.f198
@[irreducible] noncomputable def sp224:Sp:=ownSp G0 ow 5 224 Tryz.f224
@[irreducible] noncomputable def sp234:Sp:=ownSp G0 ow 5 234 Tryz.f234
@[irreducible] noncomputable def sp279:Sp:=ownSp G0 ow 5 279 Tryz.f279
@[irreducible] noncomputable def sp280:Sp:=ownSp G0 ow 5 280 Tryz.f280
@[irreducible] noncomputable def sp284:Sp:=ownSp G0 ow 5 284 Tryz.f284
@[irreducible] noncomputable def sp287:Sp:=ownSp G0 ow 5 287 Tryz.f287
@[irreducible] noncomputable def sp291:Sp:=ownSp G0 ow 5 291 Tryz.f291
@[irreducible] noncomputable def sp293:Sp:=ownSp G0 ow 5 293 Tryz.f293
@[irreducible] noncomputable def sp295:Sp:=ownSp G0 ow 5 295 Tryz.f295
@[irreducible] noncomputable def sp297:Sp:=ownSp G0 ow 5 297 Tryz.f297
@[irreducible] noncomputable def sp298:Sp:=ownSp G0 ow 5 298 Tryz.f298
@[irreducible] noncomputable def sp301:Sp:=ownSp G0 ow 5 301 Tryz.f301
@[irreducible] noncomputable def sp352:Sp:=ownSp G0 ow 5 352 Tryz.f352
@[irreducible] noncomputable def sp357:Sp:=ownSp G0 ow 5 357 Tryz.f357
@[irreducible] noncomputable def sp359:Sp:=ownSp G0 ow 5 359 Tryz.f359
@[irreducible] noncomputable def sp81:Sp:=ownSp G0 ow 6 81 Tryz.f81
@[irreducible] noncomputable def sp126:Sp:=ownSp G0 ow 6 126 Tryz.f126
@[irreducible] noncomputable def sp164:Sp:=ownSp G0 ow 6 164 Tryz.f164
@[irreducible] noncomputable def sp165:Sp:=ownSp G0 ow 6 165 Tryz.f165
@[irreducible] noncomputable def sp212:Sp:=ownSp G0 ow 6 212 Tryz.f212
@[irreducible] noncomputable def sp289:Sp:=ownSp G0 ow 6 289 Tryz.f289
@[irreducible] noncomputable def sp294:Sp:=ownSp G0 ow 6 294 Tryz.f294
@[irreducible] noncomputable def sp355:Sp:=ownSp G0 ow 6 355 Tryz.f355
@[irreducible] noncomputable def sp406:Sp:=ownSp G0 ow 6 406 Tryz.f406
@[irreducible] noncomputable def sp9:Sp:=ownSp G0 ow 7 9 Tryz.f9
@[irreducible] noncomputable def sp80:Sp:=ownSp G0 ow 7 80 Tryz.f80
@[irreducible] noncomputable def sp98:Sp:=ownSp G0 ow 7 98 Tryz.f98
@[irreducible] noncomputable def sp138:Sp:=ownSp G0 ow 7 138 Tryz.f138
@[irreducible] noncomputable def sp143:Sp:=ownSp G0 ow 7 143 Tryz.f143
@[irreducible] noncomputable def sp144:Sp:=ownSp G0 ow 7 144 Tryz.f144
@[irreducible] noncomputable def sp146:Sp:=ownSp G0 ow 7 146 Tryz.f146
@[irreducible] noncomputable def sp207:Sp:=ownSp G0 ow 7 207 Tryz.f207
@[irreducible] noncomputable def sp209:Sp:=ownSp G0 ow 7 209 Tryz.f209
@[irreducible] noncomputable def sp210:Sp:=ownSp G0 ow 7 210 Tryz.f210
@[irreducible] noncomputable def sp211:Sp:=ownSp G0 ow 7 211 Tryz.f211
@[irreducible] noncomputable def sp214:Sp:=ownSp G0 ow 7 214 Tryz.f214
@[irreducible] noncomputable def sp221:Sp:=ownSp G0 ow 7 221 Tryz.f221
@[irreducible] noncomputable def sp283:Sp:=ownSp G0 ow 7 283 Tryz.f283
@[irreducible] noncomputable def sp349:Sp:=ownSp G0 ow 7 349 Tryz.f349
@[irreducible] noncomputable def sp350:Sp:=ownSp G0 ow 7 350 Tryz.f350
@[irreducible] noncomputable def sp52:Sp:=ownSp G0 ow 8 52 Tryz.f52
@[irreducible] noncomputable def sp58:Sp:=ownSp G0 ow 8 58 Tryz.f58
@[irreducible] noncomputable def sp140:Sp:=ownSp G0 ow 8 140 Tryz.f140
@[irreducible] noncomputable def sp142:Sp:=ownSp G0 ow 8 142 Tryz.f142
@[irreducible] noncomputable def sp208:Sp:=ownSp G0 ow 8 208 Tryz.f208
@[irreducible] noncomputable def sp277:Sp:=ownSp G0 ow 8 277 Tryz.f277
@[irreducible] noncomputable def sp278:Sp:=ownSp G0 ow 8 278 Tryz.f278
@[irreducible] noncomputable def sp285:Sp:=ownSp G0 ow 8 285 Tryz.f285
@[irreducible] noncomputable def sp290:Sp:=ownSp G0 ow 8 290 Tryz.f290
@[irreducible] noncomputable def sp22:Sp:=ownSp G0 ow 9 22 Tryz.f22
@[irreducible] noncomputable def sp24:Sp:=ownSp G0 ow 9 24 Tryz.f24
@[irreducible] noncomputable def sp205:Sp:=ownSp G0 ow 9 205 Tryz.f205
@[irreducible] noncomputable def sp206:Sp:=ownSp G0 ow 9 206 Tryz.f206
@[irreducible] noncomputable def sp215:Sp:=ownSp G0 ow 9 215 Tryz.f215
@[irreducible] noncomputable def sp8:Sp:=ownSp G0 ow 10 8 Tryz.f8
@[irreducible] noncomputable def sp65:Sp:=ownSp G0 ow 10 65 Tryz.f65
@[irreducible] noncomputable def sp41:Sp:=ownSp G0 ow 11 41 Tryz.f41
@[irreducible] noncomputable def sp16:Sp:=ownSp G0 ow 12 16 Tryz.f16
@[irreducible] noncomputable def sp23:Sp:=ownSp G0 ow 14 23 Tryz.f23
@[irreducible] noncomputable def sp6:Sp:=ownSp G0 ow 15 6 Tryz.f6
@[irreducible] noncomputable def sp40:Sp:=ownSp G0 ow 16 40 Tryz.f40
@[irreducible] noncomputable def sp15:Sp:=ownSp G0 ow 17 15 Tryz.f15
@[irreducible] noncomputable def sp5:Sp:=ownSp G0 ow 18 5 Tryz.f5
@[irreducible] noncomputable def sp3:Sp:=ownSp G0 ow 19 3 Tryz.f3
noncomputable def K_:List (Nat×Nat×List CT×Sp):=[(11,1,[.sl 51,.int AI],sp11),(12,1,[.sl 1,.sl 1],sp12),(14,1,[.sl 51,.int AI],sp14),(55,1,[.u8,.int AI],sp55),(56,1,[.other,.other],sp56),(57,1,[.other,.other],sp57),(75,1,[.other,.int AI],sp75),(105,1,[.other,.int AI],sp105),(107,1,[.other,.other],sp107),(123,1,[.int AI],sp123),(125,1,[.sl 4,.str,.str,.int AI],sp125),(129,1,[.str,.str],sp129),(170,1,[.other,.int AI],sp170),(171,1,[.c4,.other],sp171),(195,1,[.other,.other],sp195),(196,1,[.other,.other],sp196),(213,1,[.sl 7,.other],sp213),(216,1,[.int AI,.int AI],sp216),(218,1,[.other],sp218),(222,1,[.int AI,.int AI],sp222),(229,1,[.int AI,.int AI],sp229),(264,1,[.int AI,.int AI],sp264),(266,1,[.int AI,.int AI],sp266),(267,1,[.other,.other],sp267),(268,1,[.sl 5,.other,.int AI],sp268),(275,1,[.int AI,.int AI],sp275),(282,1,[.sl 1,.int AI],sp282),(299,1,[.int AI],sp299),(300,1,[.int AI],sp300),(303,1,[.int AI],sp303),(348,1,[.other,.str,.str],sp348),(353,1,[.int AI],sp353),(354,1,[.sl 4,.str,.str],sp354),(356,1,[.other,.int AI,.other],sp356),(358,1,[.int AI],sp358),(363,1,[.int AI,.int AI],sp363),(407,1,[.other,.int AI,.other],sp407),(10,2,[.sl 51,.int AI],sp10),(79,2,[.sl 13,.sl 2],sp79),(101,2,[.other,.u8],sp101),(106,2,[.other,.int AI],sp106),(150,2,[.other],sp150),(220,2,[.other,.other],sp220),(223,2,[.int AI,.int AI],sp223),(225,2,[.sl 1,.int AI,.int AI],sp225),(281,2,[.int AI,.int AI,.sl 1],sp281),(288,2,[.other,.int AI,.int AI],sp288),(296,2,[.int AI,.int AI,.int AI],sp296),(360,2,[.other,.int AI],sp360),(13,3,[.sl 51,.int AI],sp13),(59,3,[.other,.int AI,.int AI,.u8,.int AI],sp59),(76,3,[.int AI,.int AI],sp76),(78,3,[.sl 4],sp78),(95,3,[.other,.u8,.int AI],sp95),(145,3,[.sl 1,.int AI,.int AI],sp145),(167,3,[.int AI,.int AT,.c4],sp167),(194,3,[.other],sp194),(276,3,[.other,.sl 4],sp276),(302,3,[.other,.int AI],sp302),(305,3,[.other,.str,.str,.int AI,.int AI,.int AI,.int AI],sp305),(351,3,[.int AI,.int AI,.int AI,.int AI],sp351),(7,4,[.other,.other],sp7),(51,4,[.other],sp51),(82,4,[.sl 13,.sl 4,.sl 31,.sl 10],sp82),(99,4,[.other],sp99),(121,4,[.other],sp121),(122,4,[.other],sp122),(163,4,[.other,.u8,.int AI],sp163),(199,4,[.other],sp199),(200,4,[.sl 5],sp200),(217,4,[.other],sp217),(219,4,[.other,.other,.int AI],sp219),(226,4,[.other,.str,.str,.int AI],sp226),(227,4,[.other,.str,.str,.int AI],sp227),(265,4,[.other],sp265),(286,4,[.int AI,.int AI],sp286),(307,4,[.other],sp307),(361,4,[.other,.bool],sp361),(39,5,[.other,.sl 51,.other,.sl 1],sp39),(77,5,[.sl 13],sp77),(102,5,[.other,.other,.other,.other],sp102),(127,5,[.other],sp127),(147,5,[.other,.other,.other,.int AI,.int AI,.int AI,.int AT],sp147),(151,5,[.other],sp151),(198,5,[.other,.int AI,.int AI,.bool],sp198),(224,5,[.other,.other,.int AT],sp224),(234,5,[.other,.bool],sp234),(279,5,[.other,.int AI,.int AI,.bool],sp279),(280,5,[.other,.sl 4,.str,.str,.int AI],sp280),(284,5,[.other,.other,.int AT],sp284),(287,5,[.c4,.int AI,.int AT],sp287),(291,5,[.other],sp291),(293,5,[.c4],sp293),(295,5,[.c4],sp295),(297,5,[.other,.other],sp297),(298,5,[.c4,.bool],sp298),(301,5,[.other,.bool],sp301),(352,5,[.other,.other,.int AI,.int AI],sp352),(357,5,[.int AI,.other,.int AT],sp357),(359,5,[.other,.int AI,.int AT],sp359),(81,6,[.sl 2,.sl 10],sp81),(126,6,[.other],sp126),(164,6,[.other,.int AT],sp164),(165,6,[.other,.bool,.int AT],sp165),(212,6,[.other,.int AT,.c4],sp212),(289,6,[.other,.int AI,.int AI,.int AI,.c4],sp289),(294,6,[.c4,.int AI,.bool],sp294),(355,6,[.int AI,.str,.int AI,.other,.other,.int AT],sp355),(406,6,[.c4,.bool],sp406),(9,7,[.sl 51,.int AI],sp9),(80,7,[.sl 2,.sl 31],sp80),(98,7,[.other,.other,.other,.other,.bool],sp98),(138,7,[.other,.int AI,.int AI],sp138),(143,7,[.other,.int AT,.int AI,.int AI],sp143),(144,7,[.other,.other,.int AI,.int AI],sp144),(146,7,[.other,.int AT,.int AT,.int AI],sp146),(207,7,[.other,.int AI,.c4],sp207),(209,7,[.other,.int AT,.c4,.int AI],sp209),(210,7,[.other,.c4],sp210),(211,7,[.other,.other,.int AT,.c4],sp211),(214,7,[.other,.other,.c4],sp214),(221,7,[.other,.other,.bool,.int AI,.int AI,.int AI],sp221),(283,7,[.other,.other,.other,.int AI,.bool,.int AI,.int AI,.int AT,.int AT,.int AT,.int AI],sp283),(349,7,[.c4,.int AT],sp349),(350,7,[.c4,.bool,.int AT],sp350),(52,8,[.sl 13,.sl 4,.sl 2,.sl 31,.sl 10],sp52),(58,8,[.other,.other],sp58),(140,8,[.other,.other,.int AI,.int AI,.int AI],sp140),(142,8,[.other,.other,.bool,.int AI,.int AI,.int AI],sp142),(208,8,[.other,.sl 4,.int AI,.int AI,.bool,.int AT,.c4],sp208),(277,8,[.other,.other,.int AI,.int AI],sp277),(278,8,[.other,.other,.int AI,.int AI,.bool],sp278),(285,8,[.other,.int AI,.int AI,.int AI,.int AT,.other],sp285),(290,8,[.other,.int AI,.int AI,.int AI,.int AI,.int AT,.other,.c4],sp290),(22,9,[.other],sp22),(24,9,[.other,.other],sp24),(205,9,[.other,.sl 4,.other,.int AI,.int AI,.bool,.int AT,.c4],sp205),(206,9,[.other,.int AI,.int AI,.int AI,.int AT,.c4],sp206),(215,9,[.other,.c4,.int AI,.int AI],sp215),(8,10,[.sl 51,.int AI],sp8),(65,10,[.other,.other,.sl 4],sp65),(41,11,[.sl 51,.sl 4,.int AI],sp41),(16,12,[.sl 51,.sl 4],sp16),(23,14,[.other,.other],sp23),(6,15,[.other,.sl 6],sp6),(40,16,[.other,.other,.sl 4],sp40),(15,17,[.sl 51,.sl 4],sp15),(5,18,[],sp5),(3,19,[.other,.sl 6,.other,.int AI],sp3)]++acZ
noncomputable def G:iT:={ G0 with uw:=λf=>look f K_ }
set_option maxRecDepth 100000
theorem JS{G:iT}{o:QQ}{f:Nat}{B:List (Nat×Nat×List CT×Sp)}:∀ L:List (Nat×Nat×List CT×Func),look f (L.map (λe=>(e.1,e.2.1,e.2.2.1,ownSp G o e.2.1 e.1 e.2.2.2))++B)=match look f L with | some x=>Zx (x.1,x.2.1,ownSp G o x.1 f x.2.2) | none=>look f B
 | []=>rfl
 | (j,k,c,fn)::r=>by
  simp only[List.map_cons,List.cons_append,look];cases h:Nat.beq j f with
  | false=>simp only[Qa7];exact JS r
  | true =>
   have e:j=f:=Nat.eq_of_beq_eq_true h;subst e;simp only[Qa6]
theorem UT:K_=YH.map (λe=>(e.1,e.2.1,e.2.2.1,ownSp G0 ow e.2.1 e.1 e.2.2.2))++acZ:=by kernel_rfl
theorem eK:G=G0.full ow:=by
 have h:(λf=>look f K_)=λf=>match ow f with | some x=>Zx (x.1,x.2.1,ownSp G0 ow x.1 f x.2.2) | none=>G0.uw f:=by
  funext f;rw[UT];exact JS YH
 show({ G0 with uw:=λf=>look f K_ }:iT)=_;rw[h];rfl
end
abbrev Wk(f k:Nat)(s:Sp):Prop:=z9 Tryz.prog G f k s
abbrev Rb:=Option (AV×aO)
theorem jI{a c:Rb}(b:Rb)(g:b=c)(h:a=b:=by kernel_rfl):a=c:=h.trans g
theorem Fh{E:Env}{rts:Nat->Option (List Nat)}{own:Bool}{fn:Func}{xs:List AV}{bl:List (Nat×List AV)}{c:Rb}(hand:List Nat)(b:Rb)(g:b=c)(e:bl.map (·.1)=hand:=by rfl)(h:rV E rts own fn xs bl hand=b:=by kernel_rfl):sX E rts own fn xs bl=c:=by
 subst e;exact h.trans g
theorem ja{b:Bool}{v r:AV×aO}(h:ax b (Zx v)=Zx r):b=Yj/\v=r:=by
 cases b
 .cases h
 .cases h;exact⟨rfl,rfl⟩
theorem YE : (Tryz.prog.funcs.all λfn => fn.name != "runtime.NumGoroutine") = Yj := by kernel_rfl
theorem g8{f k:Nat}{s:Sp}{fn:Func}(h1:Tryz.prog.funcs[f]? = Option.some fn)(h:∀ xs bl r,s xs bl=Option.some r->sX (G.env f k) G.rts (G.own f) fn xs bl=Option.some r)(h2:G.rts f=Option.some fn.resultTypes.toList:=by rfl):Wk f k s :=
 ⟨fn,h1,λe=>by
  have h0:=YE;rw[Array.all_eq_true_iff_forall_mem] at h0;have:=h0 fn (Array.mem_of_getElem? h1);rw[e] at this;simp at this,h2,h⟩
end Go.Proofs.YtpelamlfpffacaaGreat
