/- The table of functions of this seat. -/
import Derived.Test.YtledffmjoegdeaaGreatAbsFinW
import Derived.Test.YtledffmjoegdeaaGreatProg
set_option linter.all false
open Go.IntKind renaming i64->AI,u64->AT
open Decidable renaming decide->Zz
open Option renaming none->Zy,some->Zx
open Bool renaming false->Zw,true->Yp
open Kerb renaming get->Zv,cM->Zu,kn->Zq,bz->Zj,bH->Zk,aW->Zp,aV->Zd,aG->Zf,aX->Zg,aQ->Zb,within->Zn,toB->Zm,bA->Zh,toK->Yz,c7->Yy,fW->Yx,ck->Yw,cT->Yv,cu->Yu,fO->Yq,cK->Yj,aN->Yk
namespace Go.Proofs.YtledffmjoegdeaaGreat
open Go Go.Abs
noncomputable section
abbrev Sp:=Abs.Spec
def bT:Option TI:=Zx ⟨1,8,.other,[.sJ],[.other],[]⟩
def UH:Option TI:=Zx ⟨1,8,.int AI,[.int AI 0],[.int AI],[.int AI]⟩
def UI:Option TI:=Zx ⟨1,1,.u8,[.u8 0],[.u8],[.u8]⟩
def RD:Option TI:=Zx ⟨1,8,.int AT,[.int AT 0],[.int AT],[.int AT]⟩
def ti4:Option TI:=Zx ⟨1,8,.struct [(0,17)],[.mr],[.ptr],[]⟩
def ZM:Option TI:=Zx ⟨1,4,.int .i32,[.int .i32 0],[.int .i32],[.int .i32]⟩
def ti6:Option TI:=Zx ⟨10,10,.struct [(0,22),(5,5),(6,5),(7,5),(8,5),(9,5)],[.u8 0,.u8 0,.u8 0,.u8 0,.u8 0,.u8 0,.u8 0,.u8 0,.u8 0,.u8 0],[.u8,.u8,.u8,.u8,.u8,.u8,.u8,.u8,.u8,.u8],[]⟩
def ti7:Option TI:=Zx ⟨5,8,.struct [(0,5),(1,5),(2,5),(3,26),(4,27)],[.u8 0,.u8 0,.u8 0,.int .i16 0,.int .u16 0],[.u8,.u8,.u8,.int .i16,.int .u16],[.u8,.u8,.u8,.int .i16,.int .u16]⟩
def ti8:Option TI:=Zx ⟨2,48,.struct [(0,37),(1,38)],[.bJ,.bJ],[.sl 1,.sl 1],[]⟩
def ti9:Option TI:=Zx ⟨12,256,.struct [(0,31),(1,32),(2,33),(3,34),(4,35),(5,36),(6,40),(8,37),(9,3),(10,41),(11,3)],[.bJ,.bJ,.bJ,.bJ,.bJ,.bJ,.bJ,.bJ,.bJ,.int AI 0,.bJ,.int AI 0],[.sl 13,.sl 4,.sl 2,.sl 31,.sl 10,.sl 4,.sl 1,.sl 1,.sl 1,.int AI,.sl 51,.int AI],[]⟩
def agq:Option TI:=Zx ⟨3,48,.struct [(0,9),(1,9),(2,9)],[.str [],.str [],.str []],[.str,.str,.str],[.str,.str,.str]⟩
def agr:Option TI:=Zx ⟨16,216,.struct [(0,3),(1,59),(4,59),(7,59),(10,61),(11,61),(12,61),(13,62),(14,3),(15,3)],[.int AI 0,.str [],.str [],.str [],.str [],.str [],.str [],.str [],.str [],.str [],.int AT 0,.int AT 0,.int AT 0,.bJ,.int AI 0,.int AI 0],[.int AI,.str,.str,.str,.str,.str,.str,.str,.str,.str,.int AT,.int AT,.int AT,.c4,.int AI,.int AI],[]⟩
def ags:Option TI:=Zx ⟨8,104,.struct [(0,59),(3,61),(4,3),(5,3),(6,3),(7,62)],[.str [],.str [],.str [],.int AT 0,.int AI 0,.int AI 0,.int AI 0,.bJ],[.str,.str,.str,.int AT,.int AI,.int AI,.int AI,.c4],[]⟩
def agt:Option TI:=Zx ⟨6,72,.struct [(0,59),(3,3),(4,3),(5,3)],[.str [],.str [],.str [],.int AI 0,.int AI 0,.int AI 0],[.str,.str,.str,.int AI,.int AI,.int AI],[.str,.str,.str,.int AI,.int AI,.int AI]⟩
def agu:Option TI:=Zx ⟨12,152,.struct [(0,59),(3,61),(4,3),(5,3),(6,3),(7,3),(8,3),(9,3),(10,62),(11,62)],[.str [],.str [],.str [],.int AT 0,.int AI 0,.int AI 0,.int AI 0,.int AI 0,.int AI 0,.int AI 0,.bJ,.bJ],[.str,.str,.str,.int AT,.int AI,.int AI,.int AI,.int AI,.int AI,.int AI,.c4,.c4],[]⟩
def agv:Option TI:=Zx ⟨51,656,.struct [(0,3),(1,3),(2,59),(5,3),(6,3),(7,64),(23,66),(31,68),(37,62),(38,70),(50,61)],[.int AI 0,.int AI 0,.str [],.str [],.str [],.int AI 0,.int AI 0,.int AI 0,.str [],.str [],.str [],.str [],.str [],.str [],.str [],.str [],.str [],.int AT 0,.int AT 0,.int AT 0,.bJ,.int AI 0,.int AI 0,.str [],.str [],.str [],.int AT 0,.int AI 0,.int AI 0,.int AI 0,.bJ,.str [],.str [],.str [],.int AI 0,.int AI 0,.int AI 0,.bJ,.str [],.str [],.str [],.int AT 0,.int AI 0,.int AI 0,.int AI 0,.int AI 0,.int AI 0,.int AI 0,.bJ,.bJ,.int AT 0],[.int AI,.int AI,.str,.str,.str,.int AI,.int AI,.int AI,.str,.str,.str,.str,.str,.str,.str,.str,.str,.int AT,.int AT,.int AT,.c4,.int AI,.int AI,.str,.str,.str,.int AT,.int AI,.int AI,.int AI,.c4,.str,.str,.str,.int AI,.int AI,.int AI,.c4,.str,.str,.str,.int AT,.int AI,.int AI,.int AI,.int AI,.int AI,.int AI,.c4,.c4,.int AT],[]⟩
def agw:Option TI:=Zx ⟨6,64,.struct [(0,3),(1,3),(2,3),(3,3),(4,3),(5,62)],[.int AI 0,.int AI 0,.int AI 0,.int AI 0,.int AI 0,.bJ],[.int AI,.int AI,.int AI,.int AI,.int AI,.c4],[]⟩
def agx:Option TI:=Zx ⟨6,8,.struct [(0,5),(1,5),(2,5),(3,5),(4,5),(5,27)],[.u8 0,.u8 0,.u8 0,.u8 0,.u8 0,.int .u16 0],[.u8,.u8,.u8,.u8,.u8,.int .u16],[.u8,.u8,.u8,.u8,.u8,.int .u16]⟩
def agy:Option TI:=Zx ⟨4,48,.struct [(0,3),(1,3),(2,62),(3,4)],[.int AI 0,.int AI 0,.bJ,.bool Zw],[.int AI,.int AI,.c4,.bool],[]⟩
def agz:Option TI:=Zx ⟨57,768,.struct [(0,36),(1,3),(2,41),(3,72),(54,3),(55,40)],[.bJ,.int AI 0,.bJ,.int AI 0,.int AI 0,.str [],.str [],.str [],.int AI 0,.int AI 0,.int AI 0,.str [],.str [],.str [],.str [],.str [],.str [],.str [],.str [],.str [],.int AT 0,.int AT 0,.int AT 0,.bJ,.int AI 0,.int AI 0,.str [],.str [],.str [],.int AT 0,.int AI 0,.int AI 0,.int AI 0,.bJ,.str [],.str [],.str [],.int AI 0,.int AI 0,.int AI 0,.bJ,.str [],.str [],.str [],.int AT 0,.int AI 0,.int AI 0,.int AI 0,.int AI 0,.int AI 0,.int AI 0,.bJ,.bJ,.int AT 0,.int AI 0,.bJ,.bJ],[.sl 4,.int AI,.sl 51,.int AI,.int AI,.str,.str,.str,.int AI,.int AI,.int AI,.str,.str,.str,.str,.str,.str,.str,.str,.str,.int AT,.int AT,.int AT,.c4,.int AI,.int AI,.str,.str,.str,.int AT,.int AI,.int AI,.int AI,.c4,.str,.str,.str,.int AI,.int AI,.int AI,.c4,.str,.str,.str,.int AT,.int AI,.int AI,.int AI,.int AI,.int AI,.int AI,.c4,.c4,.int AT,.int AI,.sl 1,.sl 1],[]⟩
def agA:Option TI:=Zx ⟨6,112,.struct [(0,41),(1,36),(2,40),(4,3),(5,3)],[.bJ,.bJ,.bJ,.bJ,.int AI 0,.int AI 0],[.sl 51,.sl 4,.sl 1,.sl 1,.int AI,.int AI],[]⟩
def agB:Option TI:=Zx ⟨3,40,.struct [(0,3),(1,61),(2,62)],[.int AI 0,.int AT 0,.bJ],[.int AI,.int AT,.c4],[]⟩
def agC:Option TI:=Zx ⟨5,120,.struct [(0,31),(1,32),(2,33),(3,34),(4,35)],[.bJ,.bJ,.bJ,.bJ,.bJ],[.sl 13,.sl 4,.sl 2,.sl 31,.sl 10],[]⟩
def agD:Option TI:=Zx ⟨2,40,.struct [(0,9),(1,125)],[.str [],.bJ],[.str,.sl 9],[]⟩
def agE:Option TI:=Zx ⟨9,88,.struct [(0,9),(1,9),(2,61),(3,3),(4,3),(5,3),(6,3),(7,3),(8,3)],[.str [],.str [],.int AT 0,.int AI 0,.int AI 0,.int AI 0,.int AI 0,.int AI 0,.int AI 0],[.str,.str,.int AT,.int AI,.int AI,.int AI,.int AI,.int AI,.int AI],[.str,.str,.int AT,.int AI,.int AI,.int AI,.int AI,.int AI,.int AI]⟩
def agF:Option TI:=Zx ⟨3,40,.struct [(0,3),(1,3),(2,133)],[.int AI 0,.int AI 0,.bJ],[.int AI,.int AI,.sl 5],[]⟩
def agG:Option TI:=Zx ⟨8,120,.struct [(0,59),(3,132),(4,135),(7,3)],[.str [],.str [],.str [],.bJ,.int AI 0,.int AI 0,.bJ,.int AI 0],[.str,.str,.str,.sl 5,.int AI,.int AI,.sl 5,.int AI],[]⟩
def agH:Option TI:=Zx ⟨13,184,.struct [(0,127),(2,137),(10,3),(11,3),(12,4)],[.str [],.bJ,.str [],.str [],.str [],.bJ,.int AI 0,.int AI 0,.bJ,.int AI 0,.int AI 0,.int AI 0,.bool Zw],[.str,.sl 9,.str,.str,.str,.sl 5,.int AI,.int AI,.sl 5,.int AI,.int AI,.int AI,.bool],[]⟩
def agI:Option TI:=Zx ⟨4,48,.struct [(0,9),(1,9),(2,3),(3,61)],[.str [],.str [],.int AI 0,.int AT 0],[.str,.str,.int AI,.int AT],[.str,.str,.int AI,.int AT]⟩
def agJ:Option TI:=Zx ⟨2,16,.struct [(0,3),(1,3)],[.int AI 0,.int AI 0],[.int AI,.int AI],[.int AI,.int AI]⟩
def agL:Option TI:=Zx ⟨4,72,.struct [(0,59),(3,145)],[.str [],.str [],.str [],.bJ],[.str,.str,.str,.sl 8],[]⟩
def agM:Option TI:=Zx ⟨19,240,.struct [(0,59),(3,3),(4,3),(5,4),(6,147),(10,3),(11,59),(14,61),(15,3),(16,3),(17,3),(18,3)],[.str [],.str [],.str [],.int AI 0,.int AI 0,.bool Zw,.str [],.str [],.str [],.bJ,.int AI 0,.str [],.str [],.str [],.int AT 0,.int AI 0,.int AI 0,.int AI 0,.int AI 0],[.str,.str,.str,.int AI,.int AI,.bool,.str,.str,.str,.sl 8,.int AI,.str,.str,.str,.int AT,.int AI,.int AI,.int AI,.int AI],[]⟩
def agN:Option TI:=Zx ⟨9,96,.struct [(0,3),(1,3),(2,3),(3,3),(4,59),(7,61),(8,61)],[.int AI 0,.int AI 0,.int AI 0,.int AI 0,.str [],.str [],.str [],.int AT 0,.int AT 0],[.int AI,.int AI,.int AI,.int AI,.str,.str,.str,.int AT,.int AT],[.int AI,.int AI,.int AI,.int AI,.str,.str,.str,.int AT,.int AT]⟩
def agO:Option TI:=Zx ⟨31,376,.struct [(0,3),(1,61),(2,149),(21,151),(30,152)],[.int AI 0,.int AT 0,.str [],.str [],.str [],.int AI 0,.int AI 0,.bool Zw,.str [],.str [],.str [],.bJ,.int AI 0,.str [],.str [],.str [],.int AT 0,.int AI 0,.int AI 0,.int AI 0,.int AI 0,.int AI 0,.int AI 0,.int AI 0,.int AI 0,.str [],.str [],.str [],.int AT 0,.int AT 0,.bJ],[.int AI,.int AT,.str,.str,.str,.int AI,.int AI,.bool,.str,.str,.str,.sl 8,.int AI,.str,.str,.str,.int AT,.int AI,.int AI,.int AI,.int AI,.int AI,.int AI,.int AI,.int AI,.str,.str,.str,.int AT,.int AT,.sl 7],[]⟩
def agP:Option TI:=Zx ⟨5,64,.struct [(0,59),(3,3),(4,61)],[.str [],.str [],.str [],.int AI 0,.int AT 0],[.str,.str,.str,.int AI,.int AT],[.str,.str,.str,.int AI,.int AT]⟩
def agQ:Option TI:=Zx ⟨10,152,.struct [(0,3),(1,137),(9,157)],[.int AI 0,.str [],.str [],.str [],.bJ,.int AI 0,.int AI 0,.bJ,.int AI 0,.bJ],[.int AI,.str,.str,.str,.sl 5,.int AI,.int AI,.sl 5,.int AI,.sl 12],[]⟩
def agR:Option TI:=Zx ⟨4,56,.struct [(0,61),(1,59)],[.int AT 0,.str [],.str [],.str []],[.int AT,.str,.str,.str],[.int AT,.str,.str,.str]⟩
def agS:Option TI:=Zx ⟨6,80,.struct [(0,4),(1,4),(2,3),(3,9),(4,62),(5,62)],[.bool Zw,.bool Zw,.int AI 0,.str [],.bJ,.bJ],[.bool,.bool,.int AI,.str,.c4,.c4],[]⟩
def agT:Option TI:=Zx ⟨10,128,.struct [(0,175),(6,3),(7,3),(8,9),(9,9)],[.bool Zw,.bool Zw,.int AI 0,.str [],.bJ,.bJ,.int AI 0,.int AI 0,.str [],.str []],[.bool,.bool,.int AI,.str,.c4,.c4,.int AI,.int AI,.str,.str],[]⟩
def agU:Option TI:=Zx ⟨8,104,.struct [(0,4),(1,59),(4,3),(5,3),(6,3),(7,62)],[.bool Zw,.str [],.str [],.str [],.int AI 0,.int AI 0,.int AI 0,.bJ],[.bool,.str,.str,.str,.int AI,.int AI,.int AI,.c4],[]⟩
def agV:Option TI:=Zx ⟨7,88,.struct [(0,4),(1,59),(4,3),(5,49),(6,9)],[.bool Zw,.str [],.str [],.str [],.int AI 0,.int AI 0,.str []],[.bool,.str,.str,.str,.int AI,.int AI,.str],[.bool,.str,.str,.str,.int AI,.int AI,.str]⟩
def agW:Option TI:=Zx ⟨5,80,.struct [(0,3),(1,59),(4,62)],[.int AI 0,.str [],.str [],.str [],.bJ],[.int AI,.str,.str,.str,.c4],[]⟩
def agX:Option TI:=Zx ⟨10,160,.struct [(0,3),(1,59),(4,3),(5,9),(6,62),(7,9),(8,9),(9,62)],[.int AI 0,.str [],.str [],.str [],.int AI 0,.str [],.bJ,.str [],.str [],.bJ],[.int AI,.str,.str,.str,.int AI,.str,.c4,.str,.str,.c4],[]⟩
def agY:Option TI:=Zx ⟨3,40,.struct [(0,3),(1,49),(2,62)],[.int AI 0,.int AI 0,.bJ],[.int AI,.int AI,.c4],[]⟩
def agZ:Option TI:=Zx ⟨2,48,.struct [(0,40)],[.bJ,.bJ],[.sl 1,.sl 1],[]⟩
def ag0:Option TI:=Zx ⟨3,56,.struct [(0,224),(2,225)],[.bJ,.bJ,.Az],[.sl 1,.sl 1,.other],[]⟩
def ag1:Option TI:=Zx ⟨10,120,.struct [(0,4),(1,59),(4,3),(5,61),(6,3),(7,3),(8,9),(9,9)],[.bool Zw,.str [],.str [],.str [],.int AI 0,.int AT 0,.int AI 0,.int AI 0,.str [],.str []],[.bool,.str,.str,.str,.int AI,.int AT,.int AI,.int AI,.str,.str],[.bool,.str,.str,.str,.int AI,.int AT,.int AI,.int AI,.str,.str]⟩
def ag2:Option TI:=Zx ⟨7,96,.struct [(0,59),(3,61),(4,3),(5,3),(6,62)],[.str [],.str [],.str [],.int AT 0,.int AI 0,.int AI 0,.bJ],[.str,.str,.str,.int AT,.int AI,.int AI,.c4],[]⟩
def ag3:Option TI:=Zx ⟨10,128,.struct [(0,59),(3,59),(6,61),(7,3),(8,3),(9,3)],[.str [],.str [],.str [],.str [],.str [],.str [],.int AT 0,.int AI 0,.int AI 0,.int AI 0],[.str,.str,.str,.str,.str,.str,.int AT,.int AI,.int AI,.int AI],[.str,.str,.str,.str,.str,.str,.int AT,.int AI,.int AI,.int AI]⟩
def ag4:Option TI:=Zx ⟨4,40,.struct [(0,62),(1,3),(2,4),(3,4)],[.bJ,.int AI 0,.bool Zw,.bool Zw],[.c4,.int AI,.bool,.bool],[]⟩
def ag5:Option TI:=Zx ⟨5,64,.struct [(0,59),(3,3),(4,3)],[.str [],.str [],.str [],.int AI 0,.int AI 0],[.str,.str,.str,.int AI,.int AI],[.str,.str,.str,.int AI,.int AI]⟩
def ag6:Option TI:=Zx ⟨8,104,.struct [(0,4),(1,59),(4,3),(5,3),(6,9),(7,9)],[.bool Zw,.str [],.str [],.str [],.int AI 0,.int AI 0,.str [],.str []],[.bool,.str,.str,.str,.int AI,.int AI,.str,.str],[.bool,.str,.str,.str,.int AI,.int AI,.str,.str]⟩
def ag7:Option TI:=Zx ⟨5,48,.struct [(0,9),(1,3),(2,3),(3,3),(4,61)],[.str [],.int AI 0,.int AI 0,.int AI 0,.int AT 0],[.str,.int AI,.int AI,.int AI,.int AT],[.str,.int AI,.int AI,.int AI,.int AT]⟩
def ag8:Option TI:=Zx ⟨7,96,.struct [(0,61),(1,59),(4,3),(5,3),(6,62)],[.int AT 0,.str [],.str [],.str [],.int AI 0,.int AI 0,.bJ],[.int AT,.str,.str,.str,.int AI,.int AI,.c4],[]⟩
def ag9:Option TI:=Zx ⟨8,104,.struct [(0,61),(1,59),(4,3),(5,3),(6,62),(7,3)],[.int AT 0,.str [],.str [],.str [],.int AI 0,.int AI 0,.bJ,.int AI 0],[.int AT,.str,.str,.str,.int AI,.int AI,.c4,.int AI],[]⟩
def XQ:Option TI:=Zx ⟨10,128,.struct [(0,9),(1,3),(2,61),(3,3),(4,3),(5,3),(6,59),(9,62)],[.str [],.int AI 0,.int AT 0,.int AI 0,.int AI 0,.int AI 0,.str [],.str [],.str [],.bJ],[.str,.int AI,.int AT,.int AI,.int AI,.int AI,.str,.str,.str,.c4],[]⟩
def ag_:Option TI:=Zx ⟨3,24,.struct [(0,3),(1,3),(2,3)],[.int AI 0,.int AI 0,.int AI 0],[.int AI,.int AI,.int AI],[.int AI,.int AI,.int AI]⟩
def ajd:Option TI:=Zx ⟨3,40,.struct [(0,62),(1,3),(2,4)],[.bJ,.int AI 0,.bool Zw],[.c4,.int AI,.bool],[]⟩
def Fe:List (Option TI):=[
 Zy,bT,UH,UH,Zx ⟨1,1,.bool,[.bool Zw],[.bool],[.bool]⟩,UI,UI,Zx ⟨4,24,.struct [(0,2),(1,3),(2,4),(3,6)],[.int AI 0,.int AI 0,.bool Zw,.u8 0],[.int AI,.int AI,.bool,.u8],[.int AI,.int AI,.bool,.u8]⟩,Zy,Zx ⟨1,16,.str,[.str []],[.str],[.str]⟩,Zy,Zy,RD,Zy,Zy,Zx ⟨1,8,.ptr 517,[.mr],[.ptr],[]⟩,Zx ⟨1,8,.ptr 520,[.mr],[.ptr],[]⟩,Zx ⟨1,8,.ptr 528,[.mr],[.ptr],[]⟩,ti4,ti4,Zy,ZM,Zx ⟨5,5,.c8 5 5 Yp,[.u8 0,.u8 0,.u8 0,.u8 0,.u8 0],[.u8,.u8,.u8,.u8,.u8],[]⟩,ti6,ti6,Zx ⟨1,24,.slice 80 Zw,[.bJ],[.sl 6],[]⟩,Zx ⟨1,2,.int .i16,[.int .i16 0],[.int .i16],[.int .i16]⟩,Zx ⟨1,2,.int .u16,[.int .u16 0],[.int .u16],[.int .u16]⟩,ti7,ti7,bT,Zx ⟨1,24,.slice 139 Zw,[.bJ],[.sl 13],[]⟩,Zx ⟨1,24,.slice 142 Zw,[.bJ],[.sl 4],[]⟩,Zx ⟨1,24,.slice 144 Zw,[.bJ],[.sl 2],[]⟩,Zx ⟨1,24,.slice 154 Zw,[.bJ],[.sl 31],[]⟩,Zx ⟨1,24,.slice 159 Zw,[.bJ],[.sl 10],[]⟩,Zx ⟨1,24,.slice 87 Zw,[.bJ],[.sl 4],[]⟩,Zx ⟨1,24,.slice 61 Zw,[.bJ],[.sl 1],[]⟩,Zx ⟨1,24,.slice 62 Zw,[.bJ],[.sl 1],[]⟩,ti8,ti8,Zx ⟨1,24,.slice 72 Zw,[.bJ],[.sl 51],[]⟩,ti9,ti9,bT,Zy,bT,bT,Zx ⟨1,24,.slice 3 Zw,[.bJ],[.sl 1],[]⟩,UH,Zy,bT,bT,bT,bT,bT,bT,bT,agq,agq,RD,RD,Zx ⟨1,24,.slice 5 Yp,[.bJ],[.c4],[]⟩,agr,agr,ags,ags,agt,agt,agu,agu,agv,agv,bT,bT,Zy,bT,agw,agw,agx,agx,bT,bT,bT,bT,bT,agy,agy,Zx ⟨1,8,.ptr 90,[.mr],[.ptr],[]⟩,agz,agz,bT,bT,Zx ⟨1,8,.ptr 95,[.mr],[.ptr],[]⟩,agA,agA,bT,bT,bT,agB,agB,Zy,bT,agC,agC,bT,Zy,bT,bT,bT,bT,bT,Zx ⟨1,24,.slice 9 Zw,[.bJ],[.sl 1],[]⟩,bT,RD,bT,Zy,bT,bT,bT,bT,bT,bT,Zy,bT,Zx ⟨1,24,.slice 130 Zw,[.bJ],[.sl 9],[]⟩,agD,agD,Zx ⟨1,24,.slice 59 Zw,[.bJ],[.sl 3],[]⟩,agE,agE,bT,Zx ⟨1,24,.slice 156 Zw,[.bJ],[.sl 5],[]⟩,Zx ⟨1,24,.slice 334 Zw,[.bJ],[.sl 5],[]⟩,agF,agF,agG,agG,agH,agH,bT,agI,agI,agJ,agJ,Zx ⟨1,24,.slice 66 Zw,[.bJ],[.sl 8],[]⟩,agL,agL,agM,agM,agN,agN,Zx ⟨1,24,.slice 271 Zw,[.bJ],[.sl 7],[]⟩,agO,agO,agP,agP,Zx ⟨1,24,.slice 70 Zw,[.bJ],[.sl 12],[]⟩,agQ,agQ,bT,bT,bT,bT,bT,Zx ⟨1,24,.slice 168 Zw,[.bJ],[.sl 4],[]⟩,bT,agR,agR,bT,bT,Zy,bT,bT,agS,agS,bT,agT,agT,bT,agU,agU,bT,bT,agV,agV,bT,bT,agW,agW,bT,bT,agX,agX,bT,agY,agY,bT,bT,bT,bT,bT,bT,bT,bT,bT,bT,bT,bT,bT,Zy,bT,bT,Zy,bT,bT,bT,Zy,bT,Zx ⟨1,8,.ptr 227,[.mr],[.ptr],[]⟩,bT,bT,bT,agZ,agZ,Zx ⟨1,8,.map 3 4,[.Az],[.other],[]⟩,ag0,ag0,bT,bT,ag1,ag1,Zy,bT,bT,Zy,bT,bT,bT,Zy,bT,bT,bT,bT,bT,bT,bT,bT,bT,bT,bT,Zy,bT,Zy,bT,bT,Zy,bT,bT,bT,Zy,bT,bT,bT,bT,Zy,bT,bT,bT,bT,ag2,ag2,bT,bT,bT,bT,bT,bT,bT,bT,bT,bT,ag3,ag3,bT,bT,bT,bT,Zx ⟨1,8,.ptr 224,[.mr],[.ptr],[]⟩,bT,Zx ⟨1,24,.slice 4 Zw,[.bJ],[.sl 1],[]⟩,Zy,bT,Zy,bT,Zy,bT,bT,bT,bT,bT,bT,bT,Zy,bT,Zx ⟨1,8,.ptr 309,[.mr],[.ptr],[]⟩,Zy,bT,ag4,ag4,bT,bT,bT,bT,bT,Zy,bT,Zy,bT,Zy,bT,Zy,bT,Zy,bT,Zy,bT,Zy,bT,Zy,bT,bT,bT,ag5,ag5,bT,bT,Zy,bT,bT,bT,Zy,bT,Zy,bT,Zy,bT,bT,Zy,bT,bT,Zy,bT,Zy,bT,bT,bT,Zy,bT,bT,ag6,ag6,bT,Zy,bT,bT,bT,bT,ag7,ag7,bT,bT,bT,ag8,ag8,bT,bT,bT,bT,bT,bT,Zy,bT,Zy,bT,Zy,bT,bT,Zy,bT,bT,bT,bT,bT,bT,bT,ag9,ag9,Zy,bT,Zy,bT,XQ,XQ,Zy,bT,Zy,bT,Zy,bT,Zy,bT,Zy,bT,bT,bT,Zy,bT,bT,bT,Zy,bT,bT,bT,Zy,bT,bT,bT,bT,bT,bT,bT,Zy,bT,bT,Zy,bT,Zy,bT,bT,ag_,ag_,Zy,bT,bT,bT,bT,bT,bT,bT,bT,bT,bT,bT,bT,bT,Zx ⟨1,8,.ptr 9,[.mr],[.ptr],[]⟩,Zx ⟨1,24,.slice 456 Zw,[.bJ],[.sl 1],[]⟩,Zy,bT,ajd,ajd,ajd,ajd,Zx ⟨1,24,.slice 37 Zw,[.bJ],[.sl 1],[]⟩,bT,bT,bT,bT,bT,bT,Zy,bT,bT,bT,bT,bT,bT,bT,Zy,bT,bT,bT,bT,bT,Zx ⟨4,4,.c8 4 5 Yp,[.u8 0,.u8 0,.u8 0,.u8 0],[.u8,.u8,.u8,.u8],[]⟩,Zy,bT,Zx ⟨1,8,.ptr 461,[.mr],[.ptr],[]⟩,bT,bT,bT,Zx ⟨1,8,.ptr 463,[.mr],[.ptr],[]⟩,bT,UH,Zy,bT,bT,bT,bT,bT,bT,Zx ⟨1,4,.int .u32,[.int .u32 0],[.int .u32],[.int .u32]⟩,bT,bT,bT,bT,RD,bT,bT,bT,Zx ⟨1,8,.ptr 3,[.mr],[.ptr],[]⟩,bT,Zx ⟨1,8,.ptr 507,[.mr],[.ptr],[]⟩,Zy,bT,Zx ⟨4,40,.struct [(0,17),(1,17),(2,17),(3,9)],[.mr,.mr,.mr,.str []],[.ptr,.ptr,.ptr,.str],[]⟩,Zy,Zx ⟨0,0,.c8 0 16 Zw,[],[],[]⟩,Zy,Zy,UI,UI,bT,Zx ⟨1,8,.ptr 5,[.mr],[.ptr],[]⟩,ZM,ZM,Zy,Zx ⟨11,48,.struct [(0,12),(1,12),(2,502),(3,521),(4,5),(5,5),(6,522),(7,523),(8,524),(9,525),(10,526)],[.int AT 0,.int AT 0,.int .u32 0,.u8 0,.u8 0,.u8 0,.u8 0,.sJ,.mr,.int .i32 0,.int .i32 0],[.int AT,.int AT,.int .u32,.u8,.u8,.u8,.u8,.other,.ptr,.int .i32,.int .i32],[]⟩,Zy]
def YB:List (Nat×Nat×List i_):=[(5,8,[.val 3 3,.val 4 5,.val 10 4,.cells 11 [.sl 13,.sl 4,.sl 2,.sl 31,.sl 10,.sl 4,.sl 1,.sl 1,.sl 1,.int AI,.sl 51,.int AI],.ptr 11 11 0,.val 12 41,.val 13 36,.val 14 3]),
 (8,3,[.val 1 25,.cells 4 [.sl 13,.sl 4,.sl 2,.sl 31,.sl 10,.sl 4,.sl 1,.sl 1,.sl 1,.int AI,.sl 51,.int AI],.ptr 4 4 0,.cells 5 [.sl 13,.sl 4,.sl 2,.sl 31,.sl 10,.sl 4,.sl 1,.sl 1,.sl 1,.int AI,.sl 51,.int AI],.ptr 5 5 0,.val 6 3]),
 (9,1000301,[.val 0 3]),
 (9,1000305,[.val 0 3]),
 (11,3,[.val 0 41,.val 1 36,.val 6 3,.val 7 49,.cells 15 [.sl 4,.int AI,.sl 51,.int AI,.int AI,.str,.str,.str,.int AI,.int AI,.int AI,.str,.str,.str,.str,.str,.str,.str,.str,.str,.int AT,.int AT,.int AT,.c4,.int AI,.int AI,.str,.str,.str,.int AT,.int AI,.int AI,.int AI,.c4,.str,.str,.str,.int AI,.int AI,.int AI,.c4,.str,.str,.str,.int AT,.int AI,.int AI,.int AI,.int AI,.int AI,.int AI,.c4,.c4,.int AT,.int AI,.sl 1,.sl 1],.ptr 8 15 0,.val 16 41,.val 17 3,.val 18 3]),
 (11,9999999,[.val 0 0]),
 (14,3,[.val 0 41,.val 1 36,.val 2 3,.cells 6 [.sl 1,.sl 1],.ptr 6 6 0,.cells 7 [.sl 1,.sl 1],.ptr 7 7 0,.val 8 3]),
 (15,3,[.val 0 41,.val 1 36,.val 2 3,.cells 6 [.sl 1,.sl 1],.ptr 6 6 0,.cells 7 [.sl 1,.sl 1],.ptr 7 7 0,.val 8 3]),
 (23,1000038,[.val 0 3]),
 (23,1000042,[.val 0 3]),
 (24,9999999,[.val 0 0]),
 (28,4,[.val 0 37,.val 1 37,.val 4 4,.val 5 3]),
 (29,4,[.val 0 38,.val 1 38,.val 4 4,.val 5 3]),
 (32,5,[.cells 1 [.u8,.u8,.u8,.u8,.u8,.u8,.u8,.u8,.u8,.u8],.ptr 1 1 0,.cells 2 [.sl 13,.sl 4,.sl 2,.sl 31,.sl 10],.ptr 2 2 0,.val 3 3,.val 4 3,.gw 5 [.own 20500 139 13 Zw,.js (.sl 4),.own 20502 144 2 Zw,.own 20503 154 31 Zw,.own 20504 159 10 Zw],.ptr 5 5 0,.val 6 3]),
 (32,10,[.cells 1 [.u8,.u8,.u8,.u8,.u8,.u8,.u8,.u8,.u8,.u8],.ptr 1 1 0,.cells 2 [.sl 13,.sl 4,.sl 2,.sl 31,.sl 10],.ptr 2 2 0,.val 3 3,.val 4 3,.gw 5 [.own 20500 139 13 Zw,.js (.sl 4),.own 20502 144 2 Zw,.own 20503 154 31 Zw,.own 20504 159 10 Zw],.ptr 5 5 0,.val 6 3,.gw 7 [.js (.str),.own 20701 130 9 Zw],.ptr 7 7 0,.val 8 128,.val 9 3]),
 (32,18,[.cells 1 [.u8,.u8,.u8,.u8,.u8,.u8,.u8,.u8,.u8,.u8],.ptr 1 1 0,.cells 2 [.sl 13,.sl 4,.sl 2,.sl 31,.sl 10],.ptr 2 2 0,.val 3 3,.val 4 3,.gw 5 [.own 20500 139 13 Zw,.js (.sl 4),.own 20502 144 2 Zw,.own 20503 154 31 Zw,.own 20504 159 10 Zw],.ptr 5 5 0,.val 11 3]),
 (32,23,[.cells 1 [.u8,.u8,.u8,.u8,.u8,.u8,.u8,.u8,.u8,.u8],.ptr 1 1 0,.cells 2 [.sl 13,.sl 4,.sl 2,.sl 31,.sl 10],.ptr 2 2 0,.val 3 3,.val 4 3,.gw 5 [.own 20500 139 13 Zw,.js (.sl 4),.own 20502 144 2 Zw,.own 20503 154 31 Zw,.own 20504 159 10 Zw],.ptr 5 5 0,.val 12 48,.val 13 3]),
 (32,30,[.cells 2 [.sl 13,.sl 4,.sl 2,.sl 31,.sl 10],.ptr 2 2 0,.val 3 3,.val 4 3,.gw 5 [.own 20500 139 13 Zw,.js (.sl 4),.own 20502 144 2 Zw,.own 20503 154 31 Zw,.own 20504 159 10 Zw],.ptr 5 5 0,.val 17 3]),
 (33,17,[.val 0 31,.val 1 32,.val 2 33,.val 3 34,.val 4 35,.cells 10 [.sl 13,.sl 4,.sl 2,.sl 31,.sl 10,.sl 4,.sl 1,.sl 1,.sl 1,.int AI,.sl 51,.int AI],.ptr 10 10 0,.val 11 49,.gw 12 [.own 21200 139 13 Zw,.own 21201 142 4 Zw,.own 21202 144 2 Zw,.own 21203 154 31 Zw,.own 21204 159 10 Zw,.js (.sl 4),.js (.sl 1),.js (.sl 1),.js (.sl 1),.js (.int AI),.js (.sl 51),.js (.int AI)],.ptr 12 12 0,.val 14 165,.val 15 3]),
 (33,20,[.val 0 31,.val 1 32,.val 2 33,.val 3 34,.val 4 35,.cells 10 [.sl 13,.sl 4,.sl 2,.sl 31,.sl 10,.sl 4,.sl 1,.sl 1,.sl 1,.int AI,.sl 51,.int AI],.ptr 10 10 0,.val 11 49,.gw 12 [.own 21200 139 13 Zw,.own 21201 142 4 Zw,.own 21202 144 2 Zw,.own 21203 154 31 Zw,.own 21204 159 10 Zw,.js (.sl 4),.js (.sl 1),.js (.sl 1),.js (.sl 1),.js (.int AI),.js (.sl 51),.js (.int AI)],.ptr 12 12 0,.val 14 165,.val 15 3,.val 16 3]),
 (34,9999999,[.val 0 0]),
 (35,9999999,[.val 0 0]),
 (40,2,[.val 1 3,.val 2 3,.val 3 5,.val 4 3,.cells 5 [.sl 13,.sl 4,.sl 2,.sl 31,.sl 10,.sl 4,.sl 1,.sl 1,.sl 1,.int AI,.sl 51,.int AI],.ptr 5 5 0,.cells 10 [.int AI,.int AI,.int AI,.int AI,.int AI,.c4],.ptr 10 10 0,.val 11 3]),
 (40,13,[.val 1 3,.val 2 3,.val 3 5,.val 4 3,.cells 5 [.sl 13,.sl 4,.sl 2,.sl 31,.sl 10,.sl 4,.sl 1,.sl 1,.sl 1,.int AI,.sl 51,.int AI],.ptr 5 5 0,.cells 10 [.int AI,.int AI,.int AI,.int AI,.int AI,.c4],.ptr 10 10 0,.cells 12 [.str,.str,.str,.int AI,.int AI,.bool,.str,.str,.str,.sl 8,.int AI,.str,.str,.str,.int AT,.int AI,.int AI,.int AI,.int AI],.ptr 12 12 0,.cells 13 [.str,.str,.str],.ptr 13 13 0,.val 15 3]),
 (49,9999999,[.val 0 0]),
 (50,3,[.cells 4 [.sl 1,.sl 1],.ptr 4 4 0,.gw 1000015 [.own 4001 61 1 Zw,.own 4002 62 1 Zw,.tS 4003 Zw AI],.ptr 5 1000015 0,.val 11 38,.val 12 3,.val 13 3]),
 (51,3000003,[.cells 4 [.sl 1,.sl 1],.ptr 4 4 0,.gw 800015 [.own 4021 61 1 Zw,.own 4022 62 1 Zw,.tS 4023 Zw AI],.ptr 5 800015 0]),
 (66,2,[.val 0 31,.val 2 49,.val 3 3]),
 (67,4,[.val 0 32,.val 2 49,.val 3 3]),
 (68,3,[.val 0 31,.val 1 33,.val 4 49,.cF 5 3 1 Zw,.val 6 3]),
 (68,9,[.val 0 31,.val 4 49,.cF 5 3 1 Zw,.val 7 3]),
 (68,12,[.val 0 31,.val 4 49,.cF 5 3 1 Zw,.val 7 3,.val 8 3]),
 (68,18,[.val 4 49,.cF 5 3 1 Zw,.val 9 3]),
 (68,21,[.val 4 49,.cF 5 3 1 Zw,.val 9 3,.val 10 3]),
 (69,2,[.val 0 33,.val 1 34,.val 4 49,.val 5 3]),
 (70,2,[.val 0 33,.val 1 35,.val 4 49,.val 5 3]),
 (70,13,[.val 0 33,.val 1 35,.val 4 49,.val 5 3,.cells 6 [.int AI,.str,.str,.str,.sl 5,.int AI,.int AI,.sl 5,.int AI,.sl 12],.ptr 6 6 0,.val 8 3]),
 (71,3,[.val 0 31,.val 1 32,.val 2 34,.val 3 35,.cF 9 168 4 Zw,.val 10 3]),
 (71,7,[.val 0 31,.val 1 32,.val 2 34,.val 3 35,.cF 9 168 4 Zw,.val 10 3,.cells 11 [.str,.sl 9],.ptr 11 11 0,.val 12 3]),
 (71,12,[.val 1 32,.val 2 34,.val 3 35,.cF 9 168 4 Zw,.val 14 3]),
 (71,16,[.val 2 34,.val 3 35,.cF 9 168 4 Zw,.val 15 3]),
 (71,19,[.val 2 34,.val 3 35,.cF 9 168 4 Zw,.val 15 3,.val 16 3]),
 (71,24,[.val 2 34,.cF 9 168 4 Zw,.val 18 3]),
 (72,2,[.val 0 37,.val 1 61,.val 5 3]),
 (73,9999999,[.val 0 0]),
 (74,9999999,[.val 0 0]),
 (75,9999999,[.val 0 0]),
 (76,5,[.cells 2 [.sl 13,.sl 4,.sl 2,.sl 31,.sl 10,.sl 4,.sl 1,.sl 1,.sl 1,.int AI,.sl 51,.int AI],.ptr 2 2 0,.cells 3 [.int AI,.int AI,.int AI,.int AI,.int AI,.c4],.ptr 3 3 0,.cells 4 [.sl 13,.sl 4,.sl 2,.sl 31,.sl 10,.sl 4,.sl 1,.sl 1,.sl 1,.int AI,.sl 51,.int AI],.ptr 4 4 0,.val 5 4,.cells 6 [.int AI,.int AI,.c4,.bool],.ptr 6 6 0,.val 7 3]),
 (76,9999999,[.val 0 0]),
 (77,9999999,[.val 0 0]),
 (78,9999999,[.val 0 0]),
 (79,9999999,[.val 0 0]),
 (80,9999999,[.val 0 0]),
 (81,9999999,[.val 0 0]),
 (82,9999999,[.val 0 0]),
 (84,3,[.val 1 5,.val 2 3,.cells 3 [.sl 13,.sl 4,.sl 2,.sl 31,.sl 10,.sl 4,.sl 1,.sl 1,.sl 1,.int AI,.sl 51,.int AI],.ptr 3 3 0,.cF 7 62 1 Zw,.val 8 3]),
 (88,8,[.cells 1 [.bool,.str,.str,.str,.int AI,.int AI,.str],.ptr 1 1 0,.val 2 62,.val 3 49,.val 4 3]),
 (92,2000001,[.cells 1 [.int AI,.str,.str,.str,.int AI,.str,.c4,.str,.str,.c4],.ptr 1 1 0,.val 13 4,.val 3 49]),
 (92,2000003,[.cells 1 [.int AI,.str,.str,.str,.int AI,.str,.c4,.str,.str,.c4],.ptr 1 1 0,.val 46 4,.val 3 49]),
 (92,2000005,[.cells 1 [.int AI,.str,.str,.str,.int AI,.str,.c4,.str,.str,.c4],.ptr 1 1 0,.val 56 4,.val 3 49]),
 (92,2000007,[.cells 1 [.int AI,.str,.str,.str,.int AI,.str,.c4,.str,.str,.c4],.ptr 1 1 0,.val 72 4,.val 3 49]),
 (92,2000009,[.cells 1 [.int AI,.str,.str,.str,.int AI,.str,.c4,.str,.str,.c4],.ptr 1 1 0,.val 113 4,.val 3 49]),
 (94,2,[.val 1 3,.cells 2 [.sl 13,.sl 4,.sl 2,.sl 31,.sl 10,.sl 4,.sl 1,.sl 1,.sl 1,.int AI,.sl 51,.int AI],.ptr 2 2 0,.val 4 4,.val 5 3]),
 (95,3,[.val 1 3,.cells 2 [.sl 13,.sl 4,.sl 2,.sl 31,.sl 10,.sl 4,.sl 1,.sl 1,.sl 1,.int AI,.sl 51,.int AI],.ptr 2 2 0,.val 4 3,.cells 5 [.str,.str,.str],.ptr 5 5 0,.val 6 3]),
 (95,10,[.cells 2 [.sl 13,.sl 4,.sl 2,.sl 31,.sl 10,.sl 4,.sl 1,.sl 1,.sl 1,.int AI,.sl 51,.int AI],.ptr 2 2 0,.val 4 3,.cells 7 [.int AI,.int AI,.c4,.bool],.ptr 7 7 0,.val 8 3,.val 9 3]),
 (95,18,[.cells 2 [.sl 13,.sl 4,.sl 2,.sl 31,.sl 10,.sl 4,.sl 1,.sl 1,.sl 1,.int AI,.sl 51,.int AI],.ptr 2 2 0,.val 4 3,.cells 7 [.int AI,.int AI,.c4,.bool],.ptr 7 7 0,.val 8 3,.val 11 3]),
 (96,2,[.cells 2 [.str,.str,.str,.int AI,.int AI,.bool,.str,.str,.str,.sl 8,.int AI,.str,.str,.str,.int AT,.int AI,.int AI,.int AI,.int AI],.ptr 2 2 0,.cells 3 [.str,.str,.str],.ptr 3 3 0,.val 4 4,.val 5 3]),
 (121,8000210,[.cells 0 [.bool],.bY 12 2 [19]]),
 (122,1,[.val 2 30]),
 (122,5000001,[.gw 9000000 [.own 4001 61 1 Zw,.own 4002 62 1 Zw,.tS 4003 Zw AI]]),
 (122,6000001,[.bY 6 1 [10],.bY 6 1 [24],.bY 6 1 [24,24],.bY 6 1 [24,5],.bY 6 1 [24,36],.bY 6 1 [24,36,10],.bY 6 1 [24,36,10,2],.bY 6 1 [24,36,10,8],.bY 6 1 [24,36,10,8,7],.bY 6 1 [24,36,10,8,7,7],.bY 6 1 [24,36,10,8,7,7,7],.bY 6 1 [24,45],.bY 6 1 [24,53],.bY 6 1 [24,53,7],.bY 6 1 [24,53,7,7],.bY 6 1 [24,53,7,16],.bY 6 1 [24,53,7,16,10],.bY 6 1 [24,53,7,16,10,2],.bY 6 1 [24,53,7,16,10,8],.bY 6 1 [24,53,7,16,10,8,7],.bY 6 1 [24,53,7,16,10,8,7,7],.bY 6 1 [24,53,7,16,10,8,7,7,7],.bY 6 1 [24,61],.bY 6 1 [24,61,7],.bY 6 1 [24,61,7,7],.bY 6 1 [24,61,7,16],.bY 6 1 [24,61,7,16,12],.bY 6 1 [24,61,7,16,19],.bY 6 1 [24,65],.bY 6 1 [24,74],.bY 6 1 [24,74,6],.bY 6 1 [24,74,6,10],.bY 6 1 [24,74,6,10,2],.bY 6 1 [24,74,6,10,8],.bY 6 1 [24,74,6,10,8,7],.bY 6 1 [24,74,6,10,8,7,7],.bY 6 1 [24,74,6,10,8,7,7,7],.bY 6 1 [24,74,14],.bY 6 1 [24,77],.bY 6 1 [24,86],.bY 6 1 [24,86,6],.bY 6 1 [24,86,6,12],.bY 6 1 [24,86,6,19],.bY 6 1 [24,86,14],.bY 6 1 [24,86,15],.bY 6 1 [24,4001],.bY 6 1 [24,4002],.bY 6 1 [24,4003],.bY 6 1 [24,4011],.bY 6 1 [24,4012],.bY 6 1 [24,4013],.bY 6 1 [4001],.bY 6 1 [4002],.bY 6 1 [4003]]),
 (123,8000212,[.cells 0 [.bool],.bY 10 2 [],.bY 10 1 [2],.bY 10 1 [8],.bY 10 1 [8,7],.bY 10 1 [8,7,7],.bY 10 1 [8,7,7,7]]),
 (124,3,[.cells 2 [.sl 1,.sl 1],.ptr 2 2 0,.val 4 4,.val 5 38,.val 6 3]),
 (137,4,[.val 1 37,.val 2 38,.cells 6 [.sl 1,.sl 1],.ptr 6 6 0,.gw 8 [.js (.sl 1),.own 20801 62 1 Zw],.ptr 8 8 0,.val 9 4,.val 10 3]),
 (137,9,[.val 2 38,.cells 6 [.sl 1,.sl 1],.ptr 6 6 0,.gw 8 [.js (.sl 1),.own 20801 62 1 Zw],.ptr 8 8 0,.val 9 4,.val 11 3]),
 (137,8000230,[.cells 0 [.bool],.bY 8 2 []]),
 (139,2,[.cells 1 [.sl 1,.sl 1],.ptr 1 1 0,.cells 2 [.sl 1,.sl 1],.ptr 2 2 0,.val 3 3]),
 (141,5,[.val 4 61,.val 10 62,.val 11 3,.val 12 3]),
 (144,6,[.cells 1 [.str,.sl 9],.ptr 1 1 0,.val 2 49,.val 3 3]),
 (145,6,[.cells 1 [.int AI,.int AI,.sl 5],.ptr 1 1 0,.val 2 49,.val 3 3]),
 (148,2,[.val 0 32,.val 1 9,.val 2 9,.val 3 3,.val 8 61,.val 9 4,.val 10 3]),
 (151,9999999,[.val 0 0]),
 (153,9999999,[.val 0 0]),
 (154,29,[.val 1 3,.cells 3 [.sl 13,.sl 4,.sl 2,.sl 31,.sl 10,.sl 4,.sl 1,.sl 1,.sl 1,.int AI,.sl 51,.int AI],.ptr 3 3 0,.cells 6 [.sl 13,.sl 4,.sl 2,.sl 31,.sl 10,.sl 4,.sl 1,.sl 1,.sl 1,.int AI,.sl 51,.int AI],.ptr 6 6 0,.cells 7 [.int AI,.int AT,.str,.str,.str,.int AI,.int AI,.bool,.str,.str,.str,.sl 8,.int AI,.str,.str,.str,.int AT,.int AI,.int AI,.int AI,.int AI,.int AI,.int AI,.int AI,.int AI,.str,.str,.str,.int AT,.int AT,.sl 7],.ptr 7 7 0,.cells 8 [.int AI,.int AI,.c4,.bool],.ptr 8 8 0,.cells 9 [.int AI,.int AI],.ptr 9 9 0,.cells 10 [.str,.str,.str],.ptr 10 10 0,.cells 11 [.str,.str,.str,.int AT,.int AI,.int AI,.int AI,.c4],.ptr 11 11 0,.val 12 49,.val 20 3]),
 (154,9999999,[.val 0 0]),
 (155,9999999,[.val 0 0]),
 (156,2,[.val 1 9,.cells 2 [.sl 13,.sl 4,.sl 2,.sl 31,.sl 10,.sl 4,.sl 1,.sl 1,.sl 1,.int AI,.sl 51,.int AI],.ptr 2 2 0,.val 4 3,.val 5 4,.val 6 3]),
 (156,9999999,[.val 0 0]),
 (158,9999999,[.val 0 0]),
 (160,9999999,[.val 0 0]),
 (167,9999999,[.val 0 0]),
 (168,9999999,[.val 0 0]),
 (182,3,[.val 1 5,.val 2 3,.cells 3 [.sl 13,.sl 4,.sl 2,.sl 31,.sl 10,.sl 4,.sl 1,.sl 1,.sl 1,.int AI,.sl 51,.int AI],.ptr 3 3 0,.cF 7 61 1 Zw,.val 8 3]),
 (186,1000023,[.val 0 3]),
 (189,2,[.val 1 3,.cells 2 [.sl 13,.sl 4,.sl 2,.sl 31,.sl 10,.sl 4,.sl 1,.sl 1,.sl 1,.int AI,.sl 51,.int AI],.ptr 2 2 0,.cells 4 [.str,.str,.str],.ptr 4 4 0,.val 5 3]),
 (190,3,[.val 0 62,.val 4 4,.val 5 9,.val 6 3]),
 (208,3,[.cF 3 62 1 Zw,.val 6 38,.val 7 3,.val 8 3]),
 (210,2,[.val 1 62,.val 4 4,.val 11 38,.val 12 3,.val 13 3]),
 (210,5000002,[.val 4 4,.val 13 3]),
 (211,2,[.cells 0 [.sl 1,.sl 1,.other],.ptr 0 0 0,.val 2 4,.val 10 3,.val 11 3]),
 (211,5000002,[.val 2 4,.val 11 3,.gw 9000000 [.own 4001 61 1 Zw,.own 4002 62 1 Zw,.tS 4003 Zw AI]]),
 (211,6000002,[.bY 24 1 [24],.bY 24 1 [5],.bY 24 1 [36],.bY 24 1 [36,10],.bY 24 1 [36,10,2],.bY 24 1 [36,10,8],.bY 24 1 [36,10,8,7],.bY 24 1 [36,10,8,7,7],.bY 24 1 [36,10,8,7,7,7],.bY 24 1 [45],.bY 24 1 [53],.bY 24 1 [53,7],.bY 24 1 [53,7,7],.bY 24 1 [53,7,16],.bY 24 1 [53,7,16,10],.bY 24 1 [53,7,16,10,2],.bY 24 1 [53,7,16,10,8],.bY 24 1 [53,7,16,10,8,7],.bY 24 1 [53,7,16,10,8,7,7],.bY 24 1 [53,7,16,10,8,7,7,7],.bY 24 1 [61],.bY 24 1 [61,7],.bY 24 1 [61,7,7],.bY 24 1 [61,7,16],.bY 24 1 [61,7,16,12],.bY 24 1 [61,7,16,19],.bY 24 1 [65],.bY 24 1 [74],.bY 24 1 [74,6],.bY 24 1 [74,6,10],.bY 24 1 [74,6,10,2],.bY 24 1 [74,6,10,8],.bY 24 1 [74,6,10,8,7],.bY 24 1 [74,6,10,8,7,7],.bY 24 1 [74,6,10,8,7,7,7],.bY 24 1 [74,14],.bY 24 1 [77],.bY 24 1 [86],.bY 24 1 [86,6],.bY 24 1 [86,6,12],.bY 24 1 [86,6,19],.bY 24 1 [86,14],.bY 24 1 [86,15],.bY 24 1 [4001],.bY 24 1 [4002],.bY 24 1 [4003],.bY 24 1 [4011],.bY 24 1 [4012],.bY 24 1 [4013]]),
 (212,8000194,[.cells 0 [.bool],.bY 2 2 [8],.bY 8 1 [7],.bY 8 1 [7,7],.bY 8 1 [7,7,7]]),
 (214,8,[.cells 2 [.sl 1,.sl 1],.ptr 2 2 0,.val 4 4,.val 8 37,.val 9 38,.val 10 3]),
 (214,13,[.cells 2 [.sl 1,.sl 1],.ptr 2 2 0,.val 4 4,.val 9 38,.val 11 3]),
 (214,8000230,[.cells 0 [.bool],.bY 8 2 []]),
 (215,2,[.val 0 37,.val 1 61,.val 4 4,.val 5 3]),
 (218,5,[.val 1 48,.val 4 4,.val 5 49,.val 6 3,.val 7 4,.val 9 3]),
 (221,5,[.val 0 62,.val 4 61,.val 5 3]),
 (230,2,[.val 0 38,.val 1 62,.val 4 4,.val 5 3]),
 (230,5000002,[.val 4 4,.val 5 3]),
 (232,3,[.val 0 38,.cF 3 62 1 Zw,.val 4 3]),
 (242,2,[.cells 2 [.int AI,.int AI,.sl 5],.ptr 2 2 0,.cells 3 [.str,.str,.str,.int AI,.int AI],.ptr 3 3 0,.val 4 4,.val 5 3]),
 (243,2,[.val 0 9,.val 1 9,.val 4 4,.val 5 3]),
 (243,7,[.val 0 9,.val 1 9,.val 4 4,.val 5 3,.val 6 3]),
 (245,6,[.cells 1 [.str,.str,.str,.sl 8],.ptr 1 1 0,.val 2 49,.val 3 3]),
 (246,4,[.val 0 132,.val 2 49,.val 3 3]),
 (266,1,[.val 0 37,.val 1 3,.val 2 3]),
 (272,3,[.val 1 3,.val 2 3,.val 3 4,.fm 9 5 Zw,.val 10 3]),
 (274,3,[.val 0 61,.fm 3 5 Zw,.val 4 3]),
 (275,2,[.fm 3 5 Zw]),
 (276,2,[.val 0 38,.val 1 122,.val 4 3,.val 7 3,.val 8 3]),
 (276,5000002,[.val 4 3,.val 8 3]),
 (276,6000002,[.bY 16 1 [12],.bY 16 1 [19]]),
 (276,8000210,[.cells 0 [.bool],.bY 12 2 [19]]),
 (281,2,[.val 0 3,.val 4 4,.val 7 48,.val 8 3,.val 9 3]),
 (290,3,[.val 0 38,.val 3 3,.val 9 38,.val 10 3,.val 11 3]),
 (290,11,[.fm 6 5 Zw,.val 25 38,.val 26 3,.val 27 3]),
 (291,4,[.val 0 62,.val 1 3,.cells 4 [.str,.str,.str],.ptr 4 4 0,.val 5 3,.val 6 49,.cells 7 [.str,.str,.str],.ptr 7 7 0,.bY 14 7 [0,1,2],.val 15 3,.val 16 3]),
 (302,9,[.cells 0 [.sl 1,.sl 1,.other],.ptr 0 0 0,.val 9 38,.val 64 37,.val 65 3,.val 66 3]),
 (302,14,[.cells 0 [.sl 1,.sl 1,.other],.ptr 0 0 0,.val 76 38,.val 77 3,.val 78 3]),
 (302,5000009,[.val 66 3,.gw 9000000 [.own 4001 61 1 Zw,.own 4002 62 1 Zw,.tS 4003 Zw AI]]),
 (302,5000014,[.val 78 3,.gw 9000000 [.own 4011 61 1 Zw,.own 4012 62 1 Zw,.tS 4013 Zw AI]]),
 (302,6000009,[.bY 36 1 [10],.bY 36 1 [10,2],.bY 36 1 [10,8],.bY 36 1 [10,8,7],.bY 36 1 [10,8,7,7],.bY 36 1 [10,8,7,7,7],.bY 53 1 [7],.bY 53 1 [7,7],.bY 53 1 [7,16],.bY 53 1 [7,16,10],.bY 53 1 [7,16,10,2],.bY 53 1 [7,16,10,8],.bY 53 1 [7,16,10,8,7],.bY 53 1 [7,16,10,8,7,7],.bY 53 1 [7,16,10,8,7,7,7],.bY 61 1 [7],.bY 61 1 [7,7],.bY 61 1 [7,16],.bY 61 1 [7,16,12],.bY 61 1 [7,16,19],.bY 74 1 [6],.bY 74 1 [6,10],.bY 74 1 [6,10,2],.bY 74 1 [6,10,8],.bY 74 1 [6,10,8,7],.bY 74 1 [6,10,8,7,7],.bY 74 1 [6,10,8,7,7,7],.bY 74 1 [14],.bY 86 1 [6],.bY 86 1 [6,12],.bY 86 1 [6,19],.bY 86 1 [14],.bY 86 1 [15]]),
 (302,6000014,[.bY 36 1 [10],.bY 36 1 [10,2],.bY 36 1 [10,8],.bY 36 1 [10,8,7],.bY 36 1 [10,8,7,7],.bY 36 1 [10,8,7,7,7],.bY 53 1 [7],.bY 53 1 [7,7],.bY 53 1 [7,16],.bY 53 1 [7,16,10],.bY 53 1 [7,16,10,2],.bY 53 1 [7,16,10,8],.bY 53 1 [7,16,10,8,7],.bY 53 1 [7,16,10,8,7,7],.bY 53 1 [7,16,10,8,7,7,7],.bY 61 1 [7],.bY 61 1 [7,7],.bY 61 1 [7,16],.bY 61 1 [7,16,12],.bY 61 1 [7,16,19],.bY 74 1 [6],.bY 74 1 [6,10],.bY 74 1 [6,10,2],.bY 74 1 [6,10,8],.bY 74 1 [6,10,8,7],.bY 74 1 [6,10,8,7,7],.bY 74 1 [6,10,8,7,7,7],.bY 74 1 [14],.bY 86 1 [6],.bY 86 1 [6,12],.bY 86 1 [6,19],.bY 86 1 [14],.bY 86 1 [15]]),
 (302,8000191,[.cells 0 [.bool],.bY 7 2 [],.bY 7 1 [7],.bY 7 1 [16],.bY 7 1 [16,12],.bY 7 1 [16,19]]),
 (302,8000210,[.cells 0 [.bool],.bY 12 2 [19]]),
 (302,8000212,[.cells 0 [.bool],.bY 10 2 [],.bY 10 1 [2],.bY 10 1 [8],.bY 10 1 [8,7],.bY 10 1 [8,7,7],.bY 10 1 [8,7,7,7]]),
 (302,8000278,[.cells 0 [.bool],.bY 7 2 [],.bY 7 1 [7],.bY 7 1 [16],.bY 7 1 [16,10],.bY 7 1 [16,10,2],.bY 7 1 [16,10,8],.bY 7 1 [16,10,8,7],.bY 7 1 [16,10,8,7,7],.bY 7 1 [16,10,8,7,7,7]]),
 (303,3,[.val 0 464,.val 3 3,.val 9 464,.val 10 3,.val 11 3]),
 (303,11,[.cF 6 61 1 Zw,.val 25 464,.val 26 3,.val 27 3]),
 (305,4,[.val 0 37,.val 2 37,.val 3 3]),
 (305,9,[.val 0 37,.val 3 3,.val 4 37,.val 5 3]),
 (305,5000004,[.val 3 3]),
 (305,5000009,[.cells 99999 []]),
 (310,4,[.val 0 62,.val 1 3,.val 4 9,.val 5 3,.val 6 49,.val 7 3]),
 (323,2,[.cells 2 [.str,.str,.str,.sl 8],.ptr 2 2 0,.cells 3 [.str,.str,.str],.ptr 3 3 0,.cells 4 [.str,.str,.str,.int AT,.int AI,.int AI,.int AI,.c4],.ptr 4 4 0,.val 5 4,.val 6 3]),
 (324,2,[.val 0 132,.val 2 3,.cells 4 [.str,.str,.str],.ptr 4 4 0,.val 6 61,.val 7 4,.val 8 3]),
 (326,6,[.val 1 32,.cells 2 [.str,.sl 9],.ptr 2 2 0,.cF 5 156 5 Zw,.val 8 3]),
 (331,5,[.val 0 3,.val 2 48,.val 8 3,.val 9 3]),
 (331,7,[.val 0 3,.val 2 48,.val 8 3,.val 9 3]),
 (345,8,[.cells 2 [.str,.str,.str,.sl 8],.ptr 2 2 0,.cells 3 [.str,.str,.str,.int AT,.int AI,.int AI,.int AI,.c4],.ptr 3 3 0,.cells 4 [.str,.str,.str,.sl 8],.ptr 4 4 0,.cF 7 66 8 Zw,.val 8 3]),
 (355,3,[.cF 3 61 1 Zw,.val 6 37,.val 7 3,.val 8 3]),
 (361,2,[.val 0 37,.val 1 115,.val 4 3,.val 7 3,.val 8 3]),
 (361,5000002,[.val 4 3,.val 8 3]),
 (361,6000002,[.bY 16 1 [10],.bY 16 1 [10,2],.bY 16 1 [10,8],.bY 16 1 [10,8,7],.bY 16 1 [10,8,7,7],.bY 16 1 [10,8,7,7,7]]),
 (361,8000212,[.cells 0 [.bool],.bY 10 2 [],.bY 10 1 [2],.bY 10 1 [8],.bY 10 1 [8,7],.bY 10 1 [8,7,7],.bY 10 1 [8,7,7,7]]),
 (364,6,[.val 0 62,.val 1 3,.val 2 3,.val 3 4,.val 12 3,.val 22 3,.val 23 3]),
 (368,3,[.val 0 62,.val 1 3,.val 2 3,.val 3 4,.jG 9 Zw,.ptr 9 9 0,.val 12 3,.val 13 3]),
 (374,3,[.val 0 61,.fm 3 5 Zw,.val 7 3,.val 8 3]),
 (395,2,[.rowAt 0 Yp 61 1,.ij 0 0 61 1,.val 1 3,.val 2 3,.val 3 3,.val 8 4,.val 9 4]),
 (395,2000014,[.rowAt 0 Yp 61 1,.ij 0 0 61 1,.val 1 3,.val 2 3,.val 3 3,.val 8 4,.val 9 4,.val 10 3,.val 11 3,.val 12 494]),
 (395,2000015,[.rowAt 0 Yp 61 1,.ij 0 0 61 1,.val 1 3,.val 2 3,.val 3 3,.val 8 4,.val 9 4,.val 10 3,.val 11 3,.val 68 4]),
 (395,2000016,[.rowAt 0 Yp 61 1,.ij 0 0 61 1,.val 1 3,.val 2 3,.val 3 3,.val 8 4,.val 9 4,.val 10 3,.val 11 3,.val 72 4]),
 (395,2000017,[.rowAt 0 Yp 61 1,.ij 0 0 61 1,.val 1 3,.val 2 3,.val 3 3,.val 8 4,.val 9 4,.val 10 3,.val 11 3,.val 87 4]),
 (395,3000008,[.rowAt 0 Yp 61 1,.ij 0 0 61 1,.val 1 3,.val 2 3,.val 3 3,.val 8 4,.val 9 4,.val 10 3]),
 (395,3000012,[.rowAt 0 Yp 61 1,.ij 0 0 61 1,.val 1 3,.val 2 3,.val 3 3,.val 8 4,.val 9 4,.val 10 3,.val 11 3,.val 12 494]),
 (397,6,[.val 2 3,.val 3 4,.val 11 62,.val 12 3,.val 14 3,.val 15 3]),
 (401,3,[.val 1 9,.val 2 9,.cells 3 [.str,.sl 9],.ptr 3 3 0,.val 8 3,.val 9 3,.val 10 3]),
 (403,13,[.cells 4 [.int AI,.int AI,.sl 5],.ptr 4 4 0,.cells 5 [.str,.str,.str,.int AI,.int AI],.ptr 5 5 0,.cells 8 [.int AI,.int AI,.sl 5],.ptr 8 8 0,.gw 10 [.js (.int AI),.js (.int AI),.own 21002 334 5 Zw],.ptr 10 10 0,.val 11 3]),
 (405,3,[.val 0 32,.val 1 9,.val 2 9,.val 8 3,.val 9 3]),
 (425,2,[.val 0 37,.val 1 61,.val 4 3,.val 7 3,.val 8 3]),
 (425,5000002,[.val 4 3,.val 8 3]),
 (427,2,[.val 0 9,.val 1 9,.val 4 4,.val 7 3,.val 8 3]),
 (442,1,[.rowAt 0 Yp 61 1,.ij 0 0 61 1,.val 1 3,.val 2 3,.val 6 3]),
 (442,4,[.rowAt 0 Yp 61 1,.ij 0 0 61 1,.val 1 3,.val 2 3,.val 6 3,.val 7 3]),
 (443,4,[.rowAt 0 Yp 61 1,.ij 0 0 61 1,.val 6 3,.val 7 3,.val 8 3,.val 9 3]),
 (443,8,[.rowAt 0 Yp 61 1,.ij 0 0 61 1,.val 6 3,.val 7 3,.val 10 3]),
 (444,5,[.rowAt 0 Yp 61 1,.ij 0 0 61 1,.val 1 3,.val 6 3,.cells 7 [.int AT],.ptr 7 7 0,.val 8 114,.val 9 3]),
 (446,2,[.rowAt 0 Yp 61 1,.ij 0 0 61 1,.val 6 3,.val 7 3]),
 (447,3,[.rowAt 0 Yp 61 1,.ij 0 0 61 1,.val 1 3,.val 2 3,.val 6 4,.val 7 3,.val 8 3]),
 (447,5,[.rowAt 0 Yp 61 1,.ij 0 0 61 1,.val 1 3,.val 2 3,.val 7 3,.val 8 3,.val 6 4]),
 (447,14,[.rowAt 0 Yp 61 1,.ij 0 0 61 1,.val 1 3,.val 2 3,.val 7 3,.val 8 3,.val 9 3,.val 6 4]),
 (447,20,[.rowAt 0 Yp 61 1,.ij 0 0 61 1,.val 1 3,.val 2 3,.val 7 3,.val 8 3,.val 10 3,.val 6 4]),
 (449,3,[.rowAt 0 Yp 61 1,.ij 0 0 61 1,.val 1 3,.val 9 3,.val 10 3]),
 (449,5,[.rowAt 0 Yp 61 1,.ij 0 0 61 1,.val 1 3,.val 9 3,.val 10 3]),
 (450,3,[.rowAt 0 Yp 61 1,.ij 0 0 61 1,.val 1 3,.val 10 3,.val 11 3]),
 (450,5,[.rowAt 0 Yp 61 1,.ij 0 0 61 1,.val 1 3,.val 10 3,.val 11 3]),
 (450,13,[.rowAt 0 Yp 61 1,.ij 0 0 61 1,.val 1 3,.val 10 3,.val 11 3]),
 (450,15,[.rowAt 0 Yp 61 1,.ij 0 0 61 1,.val 1 3,.val 10 3,.val 11 3]),
 (459,1,[.rowAt 0 Yp 61 1,.ij 0 0 61 1,.val 2 3,.val 3 3,.val 8 3])]
def akJ:List Nat:=[174,206,207,272,275,369,394,172,177,180,181,290,289,351,354,368,71,288,372,373,432,213,1028544,1028288,1028608,1028736,1028800,1029376,1029824,1028352,1028416,1029632,1029568,1028480,1025280,1019456]
def akT:List (Nat×List Nat):=[(20,[3]),(22,[61]),(23,[62]),(28,[4]),(29,[4]),(30,[4]),(36,[3]),(37,[3]),(38,[3]),(63,[61]),(64,[4]),(72,[37]),(94,[4]),(96,[4]),(97,[112]),(136,[61]),(142,[4]),(143,[62]),(146,[4]),(148,[61,4]),(152,[59]),(171,[4]),(173,[62]),(174,[62]),(179,[4]),(187,[4]),(188,[4]),(189,[59]),(190,[4]),(204,[4]),(205,[4]),(206,[37]),(207,[38]),(215,[4]),(219,[3,4,49]),(228,[4]),(241,[4]),(242,[4]),(243,[4]),(255,[152]),(258,[4]),(260,[149]),(264,[4]),(269,[4]),(270,[3]),(272,[62]),(274,[62]),(275,[62]),(281,[4]),(286,[4]),(307,[]),(309,[62,3,49]),(310,[9,3,49]),(320,[4]),(322,[4]),(323,[66,4]),(324,[61,4]),(325,[4]),(332,[48]),(347,[9]),(348,[3,4]),(363,[4]),(365,[49]),(369,[62]),(374,[62]),(394,[37]),(398,[4]),(401,[3,49]),(404,[9]),(405,[3,4]),(407,[127]),(409,[3]),(413,[4]),(416,[4]),(419,[4]),(426,[3]),(429,[4]),(431,[4]),(434,[4]),(438,[4]),(439,[4]),(440,[]),(446,[]),(452,[3]),(453,[127]),(457,[4]),(461,[60]),(464,[4]),(467,[3]),(13,[4]),(41,[9]),(58,[4]),(68,[49]),(90,[62]),(95,[3]),(118,[3,3,4]),(127,[4]),(134,[4]),(137,[40,4]),(147,[4]),(169,[59]),(172,[62]),(175,[4]),(176,[4]),(177,[62]),(180,[62]),(181,[62]),(218,[4,49]),(225,[62]),(226,[9]),(229,[3]),(262,[59]),(266,[3]),(280,[3,4,49]),(284,[62,3,49]),(287,[62]),(290,[62]),(331,[3,4]),(337,[127]),(364,[3,3,49]),(366,[3]),(396,[3]),(397,[3,3,49]),(411,[127]),(448,[4]),(456,[4]),(465,[3]),(21,[59]),(40,[78]),(48,[4]),(65,[59]),(67,[49]),(83,[62,49]),(84,[62]),(93,[62,49]),(99,[3]),(125,[3]),(135,[49]),(140,[37]),(164,[61,4]),(178,[4]),(186,[62,49]),(195,[4,49]),(221,[61,4]),(223,[59]),(240,[49]),(282,[3,3,49]),(283,[9,3,49]),(289,[62]),(292,[3,3,49]),(306,[3,3,49]),(308,[3,3,49]),(314,[62,49]),(326,[132]),(350,[4]),(351,[62,49]),(352,[3,49]),(354,[62]),(368,[62]),(375,[62]),(377,[3,3,49]),(384,[62]),(391,[62]),(399,[3,3,49]),(442,[]),(447,[4]),(449,[3]),(450,[3,4]),(458,[3]),(459,[]),(460,[114]),(466,[3,3]),(9,[41,36]),(32,[104]),(71,[165]),(85,[62,49]),(86,[62,49]),(88,[62,49]),(89,[62,49]),(92,[62,49]),(132,[100,3,49]),(141,[61,4]),(144,[49]),(145,[49]),(182,[61]),(185,[62,49]),(196,[175,3]),(222,[3]),(224,[3]),(245,[49]),(246,[49]),(259,[62,49]),(261,[66,49]),(267,[3,49]),(268,[3,49]),(271,[62,49]),(288,[62]),(311,[49]),(312,[3]),(321,[147,49]),(336,[62]),(341,[62,49]),(353,[49]),(355,[37]),(372,[62]),(373,[62]),(382,[3]),(383,[9]),(386,[3]),(389,[3]),(392,[3]),(400,[62,49]),(412,[62,49]),(415,[3]),(422,[3]),(427,[4]),(432,[62]),(433,[62,3,4]),(443,[]),(444,[]),(454,[49]),(463,[3]),(62,[100,3,49]),(66,[49]),(91,[62]),(150,[49]),(166,[62,64,49]),(170,[62,49]),(216,[62,4]),(227,[62,49]),(231,[181,49]),(234,[62,4,49]),(235,[62,62,4,49]),(236,[193,49]),(237,[196,49]),(238,[189,49]),(244,[149,49]),(265,[62,49]),(273,[62,49]),(313,[4]),(315,[397,49]),(316,[369,49]),(317,[403,49]),(318,[283,49]),(319,[374,49]),(329,[62]),(330,[61,3,3,3,49]),(334,[62,4]),(340,[231,4]),(342,[361,49]),(344,[185,49]),(345,[147,49]),(346,[441,49]),(349,[62,49]),(367,[4]),(380,[62,49]),(381,[3,62,62,4,49]),(403,[135,49]),(408,[62,4]),(410,[127,49]),(417,[61]),(418,[62,49]),(421,[61]),(428,[4]),(436,[62]),(437,[62]),(441,[62]),(462,[3]),(61,[4]),(70,[49]),(131,[175,49]),(133,[231,49]),(149,[49]),(183,[62,49]),(184,[62,49]),(217,[68,49]),(232,[38]),(233,[178,49]),(254,[271,49]),(285,[4]),(297,[62,4,49]),(298,[62,62,4,49]),(338,[127,62,64,4]),(343,[62]),(357,[369,49]),(388,[62,49]),(406,[62,4]),(445,[3,494]),(31,[100,4]),(69,[49]),(87,[62]),(130,[68,49]),(138,[38]),(157,[149,62,49]),(162,[151,62,49]),(163,[151,62,49]),(165,[151,62,49]),(197,[62,49]),(208,[38]),(239,[37,38]),(249,[62,64,4]),(251,[149,66,49]),(252,[149,49]),(253,[149,151,66,49]),(256,[149,66,49]),(263,[175,49]),(300,[196,49]),(333,[64,397,49]),(370,[4]),(395,[]),(402,[231,49]),(16,[4]),(33,[43,49]),(39,[62]),(112,[175,49]),(139,[40]),(159,[149,62,66,62,49]),(161,[149,62,66,62,49]),(214,[4]),(250,[62,64,4]),(291,[59,3,49]),(304,[]),(327,[137,70,49]),(328,[62]),(335,[62,64,4]),(339,[127,62,64,4]),(371,[49]),(378,[62,49]),(379,[62,49]),(393,[62,49]),(414,[62,49]),(423,[62,49]),(424,[62,49]),(435,[49]),(455,[49]),(17,[43]),(19,[78]),(59,[40]),(60,[40]),(124,[4]),(213,[37]),(247,[137,62,64,4]),(248,[127,62,64,4]),(257,[137,70,62,49]),(293,[62,49]),(295,[181,49]),(296,[178,49]),(356,[397,49]),(385,[59]),(387,[62,49]),(390,[59]),(420,[62,49]),(27,[40]),(198,[231,49]),(299,[193,49]),(301,[189,49]),(358,[403,49]),(359,[283,49]),(360,[374,49]),(15,[40]),(209,[38]),(277,[37,38]),(120,[38]),(18,[43,4]),(8,[43]),(50,[40]),(51,[40]),(25,[40]),(14,[40]),(7,[4]),(5,[4])]
def aqQ:Sp
 | [.int AI n],[]=>ax (Zz (0<=n)&&Zz (n<=1000)) (Zx (.int AT (Kerb.ah n),[]))
 | _,_=>Zy
def ao':Sp
 | [.bs b,.int .u16 how],[]=>ax (Zz (b.length<=1000000)&&Zz (0<=how)&&Zz (how<=65535)) (Zx (.bs (Kerb.xv b how),[]))
 | _,_=>Zy
def ahu:Sp
 | [.sl 1 ks,.sl 1 a],[]=>ax (Zu ks&&Zu a&&Zz (ks.length<=1000000000)) (Zx (.bool (Yu ks==Yu a),[]))
 | _,_=>Zy
def ahy:Sp
 | [.sl 1 bs,.sl 1 cs],[]=>ax (Kerb.ua bs&&Kerb.ua cs&&Zz (bs.length<=1000000000)) (Zx (.bool (Yq bs==Yq cs),[]))
 | _,_=>Zy
def aqR:Sp
 | [.bs a,.bs b],[]=>Zx (.bool (a==b),[])
 | _,_=>Zy
def UC:Sp
 | [.int AI n],[]=>ax (Zz (0<=n)&&Zz (n<=1000)) (Zx (.int AT (Kerb.tM n),[]))
 | _,_=>Zy
def MY:Sp
 | [.sl 1 ks,.int AT k],[]=>ax (Zu ks&&Zz (ks.length<=1000000000)) (Zx (.sl 1 (Yz (Kerb.jH (Yu ks) k)),[]))
 | _,_=>Zy
def XD:Sp
 | [],[]=>Zx (.sl 1 [.str [65,84,72],.str [66,79,83],.str [67,65,77]],[])
 | _,_=>Zy
def agK:Sp
 | [.int AI c,.int AI n],[]=>Zx (.int AT (cond (Kerb.dX c&&Kerb.dd n) (c*72057594037927936+n) 0),[])
 | _,_=>Zy
def ajA:Sp
 | [.int AI k],[]=>Zx (.bool (Kerb.isKind k),[])
 | _,_=>Zy
def ac9:Sp
 | [.bs b],[]=>ax (Zz (b.length<=140737488355328)) (Zx (.bs b,[]))
 | _,_=>Zy
def ajB:Sp
 | [.int AI n,.int AI m],[]=>Zx (.bool (Zn n m),[])
 | _,_=>Zy
def T5:Sp
 | [.int AI k,.bool By],[]=>Zx (.bs (Kerb.header k By),[])
 | _,_=>Zy
def T6:Sp
 | [.bs b,.str s],[]=>ax (Zz (b.length+s.length<=70368744177664)) (Zx (.eG (Kerb.cX b s),[]))
 | _,_=>Zy
def T7:Sp
 | [.int AI n,.int AI m],[]=>Zx (.bool (Zn n m),[])
 | _,_=>Zy
def KK:Sp
 | [.int AI n],[]=>Zx (.bool (n==1||n==3),[])
 | _,_=>Zy
def Y8:Sp
 | [.int AI n,.int AI m],[]=>Zx (.bool (Zn n m),[])
 | _,_=>Zy
def Ua:Sp
 | [.int AI k],[]=>Zx (.bool (Kerb.dX k),[])
 | _,_=>Zy
def ajV:Sp
 | [.int AI k],[]=>Zx (.bool (Kerb.dd k),[])
 | _,_=>Zy
def ahg:Sp
 | [.sl 1 ks],[]=>ax (Zu ks&&Zz (ks.length<=1000000)) (Zx (.ay ks,[]))
 | _,_=>Zy
def ahn:Sp
 | [.sl 1 bs],[]=>ax (Kerb.ua bs&&Zz (bs.length<=1000000)) (Zx (.ay bs,[]))
 | _,_=>Zy
def adx:Sp
 | [.sl 1 ks,.int AT k],[]=>ax (Zu ks&&Zz (ks.length<=1000000000)) (Zx (.bool ((Yu ks).contains k),[]))
 | _,_=>Zy
def ahr:Sp
 | [.bs b],[]=>Zx (.bp [.int AI (Kerb.bm b).kind,.bool (Kerb.bm b).By,.int AI (Kerb.bm b).err],[])
 | _,_=>Zy
def Uf:Sp
 | [.str s,.str bad],[]=>ax (Zz (s.length<=9223372036854775807)&&Zz (bad.length<=100)) (Zx (.bool (Kerb.dO s bad&&Zz (s.length<=39)),[]))
 | _,_=>Zy
def KR:Sp
 | [.int AI n,.int AI m],[]=>Zx (.bool (Zn n m),[])
 | _,_=>Zy
def KT:Sp
 | [.bs b,.int AI n,.int AI k,.bool By],[]=>ax (Zz (k=1\/k=2\/k=4)&&Zz (b.length<=70368744177664)) (Zx (.eG (b++Kerb.aD n k.toNat By),[]))
 | _,_=>Zy
def Oy:Sp
 | [.int AT k],[]=>ax (Zz (0<=k)&&Zz (k<18446744073709551616)) (Zx (.bs (Kerb.keyBytes k),[]))
 | _,_=>Zy
def ahs:Sp
 | [.bs b],[]=>ax (Zz (b.length<=70368744177664)) (Zx (.eG (Kerb.pad b),[]))
 | _,_=>Zy
def ahw:Sp
 | [.int AI k,.sl 1 els],[]=>ax (oz els&&Zz (els.length<=1000)) (Zx (.bool ((gf els).contains k),[]))
 | _,_=>Zy
def ajY:Sp
 | [.int AI n,.int AI m],[]=>Zx (.bool (Zn n m),[])
 | _,_=>Zy
def ahD:Sp
 | [.ptr 0 0,.int AI a,.int AI e],[(0,[.bs B,.int AI at_,.bool li,.bool bad])]=>Zx (.bp [],[[.bs B,.int AI (cond (bad || !(e==0)) at_ a),.bool li,.bool (bad || !(e==0))]])
 | _,_=>Zy
def ZD:Sp
 | [.bs b,.int AI pos,.int AI n],[]=>ax (Zz (b.length<=140737488355328)) (Zx (.bp [.bs (Kerb.bytes b pos n).val,.int AI (Kerb.bytes b pos n).next,.int AI (Kerb.bytes b pos n).err],[]))
 | _,_=>Zy
def zP:Sp
 | [.bs b,.int AI pos],[]=>ax (Zz (b.length<=140737488355328)) (Zx (.bp [.str (Kerb.text b pos).val,.int AI (Kerb.text b pos).next,.int AI (Kerb.text b pos).err],[]))
 | _,_=>Zy
def aj':Sp
 | [.int AI k],[]=>Zx (.bool (Kerb.isKind k),[])
 | _,_=>Zy
def Uk:Sp
 | [.bs b,.int AI pos,.int AI n],[]=>ax (Zz (b.length<=4611686018427387904)) (Zx (.int AI (Kerb.room b pos n),[]))
 | _,_=>Zy
def ZT:Sp
 | [.bJ,.int AI n],[]=>ax (Zz (0<=n)&&Zz (n<=140737488355328)) (Zx (.eG [],[]))
 | _,_=>Zy
def DW:Sp
 | [.int AT k],[]=>ax (Zz (0<=k)&&Zz (k<18446744073709551616)) (Zx (.bs (Kerb.keyBytes k),[]))
 | _,_=>Zy
def OG:Sp
 | [.bJ,.int AI n],[]=>ax (Zz (0<=n)&&Zz (n<=1000000000000)) (Zx (.ay [],[]))
 | _,_=>Zy
def akb:Sp
 | [.int AI n,.int AI m],[]=>Zx (.bool (Zn n m),[])
 | _,_=>Zy
def Uv:Sp
 | [.str l],[]=>Zx (.bool (Kerb.lQ l),[])
 | _,_=>Zy
def Ux:Sp
 | [.str l],[]=>Zx (.bool (Kerb.fh l),[])
 | _,_=>Zy
def Uz:Sp
 | [.bs s,.u8 c],[]=>Zx (.int AI (Kerb.indexOf c s),[])
 | _,_=>Zy
def zS:Sp
 | [.int AI n,.int AI m],[]=>Zx (.bool (Zn n m),[])
 | _,_=>Zy
def OO:Sp
 | [.int AI n,.int AI m],[]=>Zx (.bool (Zn n m),[])
 | _,_=>Zy
def Z':Sp
 | [.ptr 0 0,.int AI a,.int AI e],[(0,[.bs B,.int AI at_,.bool bad])]=>Zx (.bool (!(bad || !(e==0))),[[.bs B,.int AI (cond (bad || !(e==0)) at_ a),.bool (bad || !(e==0))]])
 | _,_=>Zy
def ake:Sp
 | [.int AI n],[]=>Zx (.bool (Kerb.tJ n),[])
 | _,_=>Zy
def aki:Sp
 | [.int AI n,.int AI m],[]=>Zx (.bool (Zn n m),[])
 | _,_=>Zy
def ahE:Sp
 | [.ptr 0 0,.int AI a,.int AI e],[(0,[.bs B,.int AI at_,.bool bad])]=>Zx (.bp [],[[.bs B,.int AI (cond (e==0) a at_),.bool (bad || !(e==0))]])
 | _,_=>Zy
def aeo:Sp
 | [.bL 0 61 1,.int AI a,.int AI b],[(0,els)]=>ax (Zu els&&Zz ((els.length:Int)<=1152921504606846976)&&Zz (0<=a)&&Zz (a<=b)&&Zz (b<=(els.length:Int))) (Zx (.bp [],[Kerb.W9 els a b]))
 | _,_=>Zy
def ahG:Sp
 | [.int AT x],[]=>ax (Zz (0<=x)&&Zz (x<18446744073709551616)) (Zx (.int AI (Kerb.S4 x),[]))
 | _,_=>Zy
def akm:Sp
 | [.int AI n,.int AI m],[]=>Zx (.bool (Zn n m),[])
 | _,_=>Zy
def aev:Sp
 | [.ptr 0 0],[(0,[.int AT x])]=>ax (Zz (0<=x)&&Zz (x<18446744073709551616)) (Zx (.int AT (Kerb.Nk x),[[.int AT (Kerb.Nk x)]]))
 | _,_=>Zy
def akn:Sp
 | [.int AT x],[]=>Zx (.bool Zw,[])
 | _,_=>Zy
def ahJ:Sp
 | [.str s,.u8 c],[]=>Zx (.int AI (Kerb.indexOf c s),[])
 | _,_=>Zy
def aeF:Sp
 | [.agg [.sl 1 ks,.sl 1 bs],.agg [.sl 1 a,.sl 1 cs]],[]=>ax (Zu ks&&Zu a&&Kerb.ua bs&&Kerb.ua cs&&Zz (ks.length<=1000000000)&&Zz (bs.length<=1000000000)) (Zx (.bool (Yu ks==Yu a&&Yq bs==Yq cs),[]))
 | _,_=>Zy
def ah9:Sp
 | [.int AI n],[]=>ax (Zz (0<=n)) (Zx (.str (Kerb.aA n),[]))
 | _,_=>Zy
def aeN:Sp
 | [.int AT k],[]=>ax (Zz (0<=k)&&Zz (k<18446744073709551616)) (Zx (.bool (Kerb.bf k),[]))
 | _,_=>Zy
def F4:Sp
 | [.int AT k],[]=>ax (Zz (0<=k)&&Zz (k<18446744073709551616)) (Zx (.bp [.int AI (cond (Kerb.bf k) (Kerb.dI k) 0),.int AI (cond (Kerb.bf k) (Kerb.dk k) 0),.bool (Kerb.bf k)],[]))
 | _,_=>Zy
def afS:Sp
 | [.agg [.sl 1 ks,.sl 1 bs],.int AT k],[]=>ax (Zu ks&&Zz (ks.length<=1000000000)) (Zx (.bool ((Yu ks).contains k),[]))
 | _,_=>Zy
def ahc:Sp
 | [.agg [.sl 1 ks,.sl 1 bs],.sl 1 l,.sl 1 m],[]=>ax (Yj ks bs&&Zu l&&Kerb.ua m&&Zz (l.length<=1000)&&Zz (m.length<=1000)&&(Yq m).all λb=>Zz (b.length<=140737488355328)) (Zx (.bp [.agg [.sl 1 (Yz ((Zq ks bs).add ⟨Yu l,Yq m⟩).keys),.sl 1 (Zm ((Zq ks bs).add ⟨Yu l,Yq m⟩).boxes)],.bool !((Zq ks bs).has ⟨Yu l,Yq m⟩)],[]))
 | _,_=>Zy
def ahe:Sp
 | [.str s],[]=>ax (Zz (s.length<=9223372036854775807)) (Zx (.bool (Kerb.dG s),[]))
 | _,_=>Zy
def ajD:Sp
 | [.bs b,.int AI n],[]=>ax (Zz (b.length<=70368744177664)) (Zx (.eG (b++Kerb.aD n 1 Zw),[]))
 | _,_=>Zy
def xq:Sp
 | [.str s],[]=>ax (Zz (s.length<=9223372036854775807)) (Zx (.bool (Kerb.validName s),[]))
 | _,_=>Zy
def Om:Sp
 | [.str s],[]=>ax (Zz (s.length<=9223372036854775807)) (Zx (.bool (Kerb.cO s),[]))
 | _,_=>Zy
def ahf:Sp
 | [.bs b,.int AI n,.bool By],[]=>ax (Zz (b.length<=70368744177664)) (Zx (.eG (b++Kerb.aD n 4 By),[]))
 | _,_=>Zy
def ajM:Sp
 | [.bs b,.agg [.str x,.str y,.str z]],[]=>ax (Zz (b.length+x.length+y.length+z.length<=70368744170000)) (Zx (.eG (Kerb.cV b ⟨x,y,z⟩),[]))
 | _,_=>Zy
def T8:Sp
 | [.bs b,.int AI n,.bool By],[]=>ax (Zz (b.length<=70368744177664)) (Zx (.eG (b++Kerb.aD n 2 By),[]))
 | _,_=>Zy
def ahq:Sp
 | [.bs b,.sl 1 els],[]=>ax (oz els&&Zz (els.length<=1000)) (Zx (.bp [.bool (Kerb.aR b (gf els)).1,.int AI (Kerb.aR b (gf els)).2],[]))
 | _,_=>Zy
def aa2:Sp
 | [.ptr 0 0,.int AI n],[(0,[.bs B,.int AI at_,.bool li,.bool bad])]=>ax (Zz (B.length<=140737488355328)) (Zx (.bs (Kerb.cq B n at_ bad).val,[[.bs B,.int AI (Kerb.cq B n at_ bad).pos,.bool li,.bool (Kerb.cq B n at_ bad).bad]]))
 | _,_=>Zy
def abN:Sp
 | [.ptr 0 0],[(0,[.bs B,.int AI at_,.bool li,.bool bad])]=>ax (Zz (B.length<=140737488355328)) (Zx (.str (Kerb.gi B at_ bad).val,[[.bs B,.int AI (Kerb.gi B at_ bad).pos,.bool li,.bool (Kerb.gi B at_ bad).bad]]))
 | _,_=>Zy
def ahv:Sp
 | [.bs b],[]=>Zx (.bp [.int AI (Kerb.bm b).kind,.bool (Kerb.bm b).By,.int AI (Kerb.bm b).err],[])
 | _,_=>Zy
def abE:Sp
 | [.bs b,.int AI pos,.int AI n],[]=>ax (Zz (b.length<=140737488355328)) (Zx (.bp [.bs (Kerb.bytes b pos n).val,.int AI (Kerb.bytes b pos n).next,.int AI (Kerb.bytes b pos n).err],[]))
 | _,_=>Zy
def ahx:Sp
 | [.int AI k,.bool By],[]=>Zx (.bs (Kerb.header k By),[])
 | _,_=>Zy
def ahA:Sp
 | [.sl 1 els],[]=>ax (VH els&&Zz ((tj els).length<=140737488355328)&&Zz (els.length<=1000)) (Zx (.eG (tj els),[]))
 | _,_=>Zy
def Uj:Sp
 | [.bs b,.int AI pos,.int AI k,.bool By],[]=>ax (Zz (b.length<=4611686018427387904)&&Zz (0<=k)&&Zz (k<=4)) (Zx (.bp [.int AI (Zv b pos k By).val,.int AI (Zv b pos k By).next,.int AI (Zv b pos k By).err],[]))
 | _,_=>Zy
def OD:Sp
 | [.bs s,.u8 c],[]=>Zx (.int AI (Kerb.indexOf c s),[])
 | _,_=>Zy
def OH:Sp
 | [.int AT x],[]=>ax (Kerb.ok x&&Zz (0<=x)&&Zz (x<18446744073709551616)) (Zx (.int AI (Kerb.S4 x),[]))
 | _,_=>Zy
def OI:Sp
 | [.bs b,.int AI pos,.int AI k,.bool By],[]=>ax (Zz (b.length<=140737488355328)&&Zz (0<=k)&&Zz (k<=4)) (Zx (.bp [.int AI (Zv b pos k By).val,.int AI (Zv b pos k By).next,.int AI (Zv b pos k By).err],[]))
 | _,_=>Zy
def akk:Sp
 | [.int AT x,.int AT y],[]=>Zx (.bool (Zz (x<y)),[])
 | _,_=>Zy
def akl:Sp
 | [.int AI a,.int AI b],[]=>Zx (.bool (Kerb.period a b),[])
 | _,_=>Zy
def ahI:Sp
 | [.str s,.u8 c],[]=>Zx (.int AI (Kerb.indexOf c s),[])
 | _,_=>Zy
def ao9:Sp
 | [.int AI n],[]=>ax (Zz (0<=n)&&Zz (n<=4611686018427387904)) (Zx (.agg [.str (Kerb.user n).name,.str (Kerb.user n).inst,.str (Kerb.user n).aA],[]))
 | _,_=>Zy
def l_:Sp
 | [.int AT k],[]=>ax (Zz (0<=k)&&Zz (k<18446744073709551616)) (Zx (.bool (Kerb.bf k),[]))
 | _,_=>Zy
def ah':Sp
 | [.agg [.bool li,.bool a,.int AI b,.str rl,.bs tk,.bs au]],[]=>ax (Zz (rl.length<=9223372036854775807)) (Zx (.bp [.bs (Kerb.aZ (Kerb.cC.mk li a b rl tk au)).val,.int AI (Kerb.aZ (Kerb.cC.mk li a b rl tk au)).err],[]))
 | _,_=>Zy
def aqU:Sp
 | [.agg [.int AI op,.int AI a,.bs bx]],[]=>Zx (.bp [.bs (Kerb.cj ⟨op,a,bx⟩).val,.int AI (Kerb.cj ⟨op,a,bx⟩).err],[])
 | _,_=>Zy
def aqV:Sp
 | [.int AT k],[]=>ax (Zz (0<=k)&&Zz (k<18446744073709551616)) (Zx (.int AI (Kerb.hY k),[]))
 | _,_=>Zy
def afR:Sp
 | [.int AT k],[]=>ax (Zz (0<=k)&&Zz (k<18446744073709551616)) (Zx (.int AI (Kerb.hY k),[]))
 | _,_=>Zy
def abv:Sp
 | [.int AT k],[]=>ax (Zz (0<=k)&&Zz (k<18446744073709551616)) (Zx (.sl 1 (Yz (Kerb.dK [k])),[]))
 | _,_=>Zy
def ajL:Sp
 | [.agg [.str a,.str b,.str c]],[]=>ax (Zz (a.length<=9223372036854775807)&&Zz (b.length<=9223372036854775807)&&Zz (c.length<=9223372036854775807)) (Zx (.bool (Kerb.bQ.valid ⟨a,b,c⟩),[]))
 | _,_=>Zy
def ajO:Sp
 | [.bs b,.sl 1 els],[]=>ax (oz els&&Zz (els.length<=1000)) (Zx (.bp [.bool (Kerb.aR b (gf els)).1,.int AI (Kerb.aR b (gf els)).2],[]))
 | _,_=>Zy
def abI:Sp
 | [.bs b],[]=>ax (Zz (b.length<=4611686018427387904)) (Zx (.bp [.int AT (Kerb.dm b).1,.bool (Kerb.dm b).2],[]))
 | _,_=>Zy
def abM:Sp
 | [.ptr 0 0],[(0,[.bs B,.int AI at_,.bool li,.bool bad])]=>ax (Zz (B.length<=140737488355328)) (Zx (.agg [.str (Kerb.fA B at_ bad).p.name,.str (Kerb.fA B at_ bad).p.inst,.str (Kerb.fA B at_ bad).p.aA],[[.bs B,.int AI (Kerb.fA B at_ bad).pos,.bool li,.bool (Kerb.fA B at_ bad).bad]]))
 | _,_=>Zy
def abj:Sp
 | [.bs b,.int AI pos],[]=>ax (Zz (b.length<=4611686018427387904)) (Zx (.bp [.int AI (Zv b pos 1 Zw).val,.int AI (Zv b pos 1 Zw).next,.int AI (Zv b pos 1 Zw).err],[]))
 | _,_=>Zy
def abD:Sp
 | [.bs b,.int AI pos],[]=>ax (Zz (b.length<=4611686018427387904)) (Zx (.bp [.str (Kerb.text b pos).val,.int AI (Kerb.text b pos).next,.int AI (Kerb.text b pos).err],[]))
 | _,_=>Zy
def adk:Sp
 | [.bs b,.str s],[]=>ax (Zz (b.length+s.length<=70368744177664)) (Zx (.eG (Kerb.cX b s),[]))
 | _,_=>Zy
def Zt:Sp
 | [.bs b,.int AI pos,.bool By],[]=>ax (Zz (b.length<=4611686018427387904)) (Zx (.bp [.int AI (Zv b pos 4 By).val,.int AI (Zv b pos 4 By).next,.int AI (Zv b pos 4 By).err],[]))
 | _,_=>Zy
def ZB:Sp
 | [.bs b,.int AI pos],[]=>ax (Zz (b.length<=140737488355328)) (Zx (.bp [.int AI (Zv b pos 1 Zw).val,.int AI (Zv b pos 1 Zw).next,.int AI (Zv b pos 1 Zw).err],[]))
 | _,_=>Zy
def ZC:Sp
 | [.bs b,.int AI pos,.bool By],[]=>ax (Zz (b.length<=140737488355328)) (Zx (.bp [.int AI (Zv b pos 4 By).val,.int AI (Zv b pos 4 By).next,.int AI (Zv b pos 4 By).err],[]))
 | _,_=>Zy
def xt:Sp
 | [.bs s,.bool li],[]=>Zx (.bp [.bs (Kerb.dh s li).val,.int AI (Kerb.dh s li).err],[])
 | _,_=>Zy
def aj8:Sp
 | [.agg [.str lb,.int AI t,.int AI st,.int AI a,.int AT k]],[]=>ax (Zz (0<=k)&&Zz (k<18446744073709551616)) (Zx (.bp [.eG (Kerb.aY ⟨lb,t,st,a,k⟩).val,.int AI (Kerb.aY ⟨lb,t,st,a,k⟩).err],[]))
 | _,_=>Zy
def aj9:Sp
 | [.bs b,.bool By],[]=>ax (Zz (b.length<=70368744177664)) (Zx (.eG (b++Kerb.aD (cond By 1 0) 1 Zw),[]))
 | _,_=>Zy
def Bs:Sp
 | [.bs b,.int AI n,.int AI k,.bool By],[]=>ax (Zz (k=1\/k=2\/k=4)&&Zz (b.length<=70368744177664)) (Zx (.eG (b++Kerb.aD n k.toNat By),[]))
 | _,_=>Zy
def Un:Sp
 | [.bs b],[]=>ax (Zz (b.length<=70368744177664)) (Zx (.bs (Kerb.pad b),[]))
 | _,_=>Zy
def ZV:Sp
 | [.bs b,.int AI pos,.bool By],[]=>ax (Zz (b.length<=4611686018427387904)) (Zx (.bp [.int AI (Zv b pos 2 By).val,.int AI (Zv b pos 2 By).next,.int AI (Zv b pos 2 By).err],[]))
 | _,_=>Zy
def OE:Sp
 | [.ptr 0 0,.int AI n],[(0,[.bs B,.int AI at_,.bool bad])]=>ax (Zz (B.length<=140737488355328)) (Zx (.bs (Kerb.eH B n at_ bad).val,[[.bs B,.int AI (Kerb.eH B n at_ bad).pos,.bool (Kerb.eH B n at_ bad).bad]]))
 | _,_=>Zy
def KW:Sp
 | [.ptr 0 0,.int AI n],[(0,[.bs B,.int AI at_,.bool bad])]=>ax (Zz (B.length<=140737488355328)) (Zx (.bs (Kerb.mj B n at_ bad).val,[[.bs B,.int AI (Kerb.mj B n at_ bad).pos,.bool (Kerb.mj B n at_ bad).bad]]))
 | _,_=>Zy
def akd:Sp
 | [.bs b,.int AI pos,.bool By],[]=>ax (Zz (b.length<=140737488355328)) (Zx (.bp [.int AI (Zv b pos 2 By).val,.int AI (Zv b pos 2 By).next,.int AI (Zv b pos 2 By).err],[]))
 | _,_=>Zy
def adz:Sp
 | [.bL 0 61 1,.int AI a,.int AI b],[(0,els)]=>ax (Zu els&&Zz ((els.length:Int)<=1152921504606846976)&&Zz (0<=a)&&Zz (a<=b)&&Zz (b<=(els.length:Int))) (Zx (.bp [],[Kerb.BS els a b]))
 | _,_=>Zy
def aet:Sp
 | [.bL 0 61 1,.int AI a,.int AI b],[(0,els)]=>ax (Zu els&&Zz ((els.length:Int)<=1152921504606846976)&&Zz (0<=a)&&Zz (a<=b)&&Zz (b<=(els.length:Int))&&Zz (a<b)) (Zx (.bool (Kerb.zC els a b).2,[(Kerb.zC els a b).1]))
 | _,_=>Zy
def adn:Sp
 | [.bL 0 61 1,.int AI a,.int AI b,.int AI p],[(0,els)]=>ax (Zu els&&Zz ((els.length:Int)<=1152921504606846976)&&Zz (0<=a)&&Zz (a<=b)&&Zz (b<=(els.length:Int))&&Zz (a<=p)&&Zz (p<b)) (Zx (.int AI (Kerb.HB els a b p).1,[(Kerb.HB els a b p).2]))
 | _,_=>Zy
def ado:Sp
 | [.bL 0 61 1,.int AI a,.int AI b,.int AI p],[(0,els)]=>ax (Zu els&&Zz ((els.length:Int)<=1152921504606846976)&&Zz (0<=a)&&Zz (a<=b)&&Zz (b<=(els.length:Int))&&Zz (a<=p)&&Zz (p<b)) (Zx (.bp [.int AI (Kerb.part els a b p).1,.bool (Kerb.part els a b p).2.1],[(Kerb.part els a b p).2.2]))
 | _,_=>Zy
def ahH:Sp
 | [.str s,.u8 c],[]=>Zx (.int AI (Kerb.indexOf c s),[])
 | _,_=>Zy
def adp:Sp
 | [.bL 0 61 1,.int AI a,.int AI hi,.int AI first],[(0,els)]=>ax (Zu els&&Zz ((els.length:Int)<=1152921504606846976)&&Zz (0<=a)&&Zz (0<=hi)&&Zz (0<=first)&&Zz (first+hi<=(els.length:Int))&&Zz (a<=(els.length:Int))) (Zx (.bp [],[Kerb.sift els a hi first]))
 | _,_=>Zy
def aeu:Sp
 | [.int AI n],[]=>ax (Zz (0<=n)&&Zz (n<=4611686018427387904)) (Zx (.int AT (Kerb.Tp n),[]))
 | _,_=>Zy
def adb:Sp
 | [.bL 0 61 1,.int AI a,.int AI b,.ptr 3 0],[(0,els),(3,[.int AI s])]=>ax (Zu els&&Zz ((els.length:Int)<=1152921504606846976)&&Zz (0<=a)&&Zz (a<(els.length:Int))&&Zz (0<=b)&&Zz (b<(els.length:Int))&&Zz (0<=s)&&Zz (s<=1000)) (Zx (.bp [.int AI (Kerb.order2 els a b s).1,.int AI (Kerb.order2 els a b s).2.1],[els,[.int AI (Kerb.order2 els a b s).2.2]]))
 | _,_=>Zy
def lJ:Sp
 | [.agg [.bool li,.bool b,.int AI d,.str rl,.bs tk,.bs au,.int AI tm,.int AI c,.str a,.str ins]],[]=>ax (Zz (rl.length<=9223372036854775807)&&Zz (a.length<=9223372036854775807)&&Zz (ins.length<=9223372036854775807)) (Zx (.bp [.bs (Kerb.dj (Kerb.eM.mk (Kerb.cC.mk li b d rl tk au) tm c a ins)).val,.int AI (Kerb.dj (Kerb.eM.mk (Kerb.cC.mk li b d rl tk au) tm c a ins)).err],[]))
 | _,_=>Zy
def aib:Sp
 | [.agg [.bool li,.str x,.str y,.str z,.int AI t,.int AI ex,.int AI b,.bs a]],[]=>ax (Zz (x.length<=9223372036854775807)&&Zz (y.length<=9223372036854775807)&&Zz (z.length<=9223372036854775807)) (Zx (.bp [.bs (Kerb.bc ⟨li,⟨x,y,z⟩,t,ex,b,a⟩).val,.int AI (Kerb.bc ⟨li,⟨x,y,z⟩,t,ex,b,a⟩).err],[]))
 | _,_=>Zy
def aqS:Sp
 | [.agg [.int AI op,.str c,.str b,.str a,.bs bx]],[]=>ax (Zz (c.length<=9223372036854775807)&&Zz (b.length<=9223372036854775807)&&Zz (a.length<=9223372036854775807)) (Zx (.bp [.bs (Kerb.dL ⟨op,⟨c,b,a⟩,bx⟩).val,.int AI (Kerb.dL ⟨op,⟨c,b,a⟩,bx⟩).err],[]))
 | _,_=>Zy
def aqT:Sp
 | [.agg [.int AI op,.str c,.str b,.str a,.int AI e,.str rl,.bs tk,.str d,.str ins,.bs bx]],[]=>ax (Zz (c.length<=9223372036854775807)&&Zz (b.length<=9223372036854775807)&&Zz (a.length<=9223372036854775807)&&Zz (rl.length<=9223372036854775807)&&Zz (d.length<=9223372036854775807)&&Zz (ins.length<=9223372036854775807)) (Zx (.bp [.bs (Kerb.aH ⟨op,⟨c,b,a⟩,e,rl,tk,d,ins,bx⟩).val,.int AI (Kerb.aH ⟨op,⟨c,b,a⟩,e,rl,tk,d,ins,bx⟩).err],[]))
 | _,_=>Zy
def xp:Sp
 | [.bs b],[]=>ax (Zz (b.length<=140737488355328)) (Zx (.bp [.agg [.int AI (Yk b).box.kind,.int AT (Yk b).box.key,.bs (Yk b).box.body],.int AI (Yk b).n,.int AI (Yk b).err],[]))
 | _,_=>Zy
def abF:Sp
 | [.bs b],[]=>ax (Zz (b.length<=4611686018427387904)) (Zx (.bp [.int AT (Kerb.dm b).1,.bool (Kerb.dm b).2],[]))
 | _,_=>Zy
def KE:Sp
 | [.agg [.str g,.str f,.str d,.str c,.str b,.str sz,.int AT k,.int AI t,.int AI e,.int AI a]],[]=>ax (Zz (g.length<=9223372036854775807)&&Zz (f.length<=9223372036854775807)&&Zz (d.length<=9223372036854775807)&&Zz (c.length<=9223372036854775807)&&Zz (b.length<=9223372036854775807)&&Zz (sz.length<=9223372036854775807)&&Zz (0<=k)&&Zz (k<18446744073709551616)) (Zx (.bp [.bs (Kerb.eB ⟨⟨g,f,d⟩,⟨c,b,sz⟩,k,t,e,a⟩).val,.int AI (Kerb.eB ⟨⟨g,f,d⟩,⟨c,b,sz⟩,k,t,e,a⟩).err],[]))
 | _,_=>Zy
def ajS:Sp
 | [.bs b],[]=>ax (Zz (b.length<=140737488355328)) (Zx (.bp [.agg [.bool ((Kerb.jB b).val).By,.bool ((Kerb.jB b).val).c5,.int AI ((Kerb.jB b).val).bj,.str ((Kerb.jB b).val).aA,.bs ((Kerb.jB b).val).aB,.bs ((Kerb.jB b).val).eQ],.int AI (Kerb.jB b).next],[]))
 | _,_=>Zy
def aa4:Sp
 | [.ptr 0 0],[(0,[.bs B,.int AI at_,.bool li,.bool bad])]=>ax (Zz (B.length<=140737488355328)) (Zx (.int AI (Kerb.bV B 1 Zw at_ bad).val,[[.bs B,.int AI (Kerb.bV B 1 Zw at_ bad).pos,.bool li,.bool (Kerb.bV B 1 Zw at_ bad).bad]]))
 | _,_=>Zy
def abf:Sp
 | [.ptr 0 0],[(0,[.bs B,.int AI at_,.bool li,.bool bad])]=>ax (Zz (B.length<=140737488355328)) (Zx (.int AI (Kerb.bV B 4 li at_ bad).val,[[.bs B,.int AI (Kerb.bV B 4 li at_ bad).pos,.bool li,.bool (Kerb.bV B 4 li at_ bad).bad]]))
 | _,_=>Zy
def Ow:Sp
 | [.agg [.int AT k,.str b,.str a,.str sz,.int AI t,.int AI e,.bs rc]],[]=>ax (Zz (b.length<=9223372036854775807)&&Zz (a.length<=9223372036854775807)&&Zz (sz.length<=9223372036854775807)&&Zz (0<=k)&&Zz (k<18446744073709551616)) (Zx (.bp [.bs (Kerb.dB ⟨k,⟨b,a,sz⟩,t,e,rc⟩).val,.int AI (Kerb.dB ⟨k,⟨b,a,sz⟩,t,e,rc⟩).err],[]))
 | _,_=>Zy
def abK:Sp
 | [.bs b,.int AI n],[]=>ax (Zz (b.length<=70368744177664)) (Zx (.eG (b++Kerb.aD n 1 Zw),[]))
 | _,_=>Zy
def xr:Sp
 | [.agg [.bool li,.str x,.str y,.str z,.int AI ad,.int AT k,.int AI b,.int AI c,.str a,.str ins]],[]=>ax (Zz (x.length<=9223372036854775807)&&Zz (y.length<=9223372036854775807)&&Zz (z.length<=9223372036854775807)&&Zz (a.length<=9223372036854775807)&&Zz (ins.length<=9223372036854775807)&&Zz (0<=k)&&Zz (k<18446744073709551616)) (Zx (.int AI (Kerb.dZ.mk li ⟨x,y,z⟩ ad k b c a ins).err,[]))
 | _,_=>Zy
def uu:Sp
 | [.ptr 0 0],[(0,[.bs B,.int AI at_,.bool li,.bool bad])]=>ax (Zz (B.length<=140737488355328)) (Zx (.int AI (Kerb.bV B 2 li at_ bad).val,[[.bs B,.int AI (Kerb.bV B 2 li at_ bad).pos,.bool li,.bool (Kerb.bV B 2 li at_ bad).bad]]))
 | _,_=>Zy
def DU:Sp
 | [.agg [.int AT k,.str x,.str y,.str z,.int AI a,.int AI b,.bs tk,.int AI t],.bool By],[]=>ax (Zz (x.length<=9223372036854775807)&&Zz (y.length<=9223372036854775807)&&Zz (z.length<=9223372036854775807)&&Zz (0<=k)&&Zz (k<18446744073709551616)) (Zx (.bp [.bs (Kerb.bt ⟨k,⟨x,y,z⟩,a,b,tk,t⟩ By).val,.int AI (Kerb.bt ⟨k,⟨x,y,z⟩,a,b,tk,t⟩ By).err],[]))
 | _,_=>Zy
def abm:Sp
 | [.sl 1 ks],[]=>ax (Kerb.Au ks) (Zx (.sl 1 (Yz (Kerb.dK (Yu ks))),[]))
 | _,_=>Zy
def vR:Sp
 | [.bs b,.agg [.str x,.str y,.str z]],[]=>ax (Zz (b.length+x.length+y.length+z.length<=70368744170000)) (Zx (.eG (Kerb.cV b ⟨x,y,z⟩),[]))
 | _,_=>Zy
def zQ:Sp
 | [.bs b,.int AI n,.bool By],[]=>ax (Zz (b.length<=70368744177664)) (Zx (.eG (b++Kerb.aD n 4 By),[]))
 | _,_=>Zy
def ZY:Sp
 | [.ptr 0 0],[(0,[.bs B,.int AI at_,.bool bad])]=>ax (Zz (B.length<=140737488355328)) (Zx (.int AI (Kerb.fV B 1 at_ bad).val,[[.bs B,.int AI (Kerb.fV B 1 at_ bad).pos,.bool (Kerb.fV B 1 at_ bad).bad]]))
 | _,_=>Zy
def Up:Sp
 | [.ptr 0 0],[(0,[.bs B,.int AI at_,.bool bad])]=>ax (Zz (B.length<=140737488355328)) (Zx (.str (Kerb.lO B at_ bad).val,[[.bs B,.int AI (Kerb.lO B at_ bad).pos,.bool (Kerb.lO B at_ bad).bad]]))
 | _,_=>Zy
def F':Sp
 | [.ptr 0 0],[(0,[.bs B,.int AI at_,.bool bad])]=>ax (Zz (B.length<=140737488355328)) (Zx (.int AI (Kerb.fV B 2 at_ bad).val,[[.bs B,.int AI (Kerb.fV B 2 at_ bad).pos,.bool (Kerb.fV B 2 at_ bad).bad]]))
 | _,_=>Zy
def Uq:Sp
 | [.ptr 0 0],[(0,[.bs B,.int AI at_,.bool bad])]=>ax (Zz (B.length<=140737488355328)) (Zx (.int AI (Kerb.pH B 1 at_ bad).val,[[.bs B,.int AI (Kerb.pH B 1 at_ bad).pos,.bool (Kerb.pH B 1 at_ bad).bad]]))
 | _,_=>Zy
def vS:Sp
 | [.ptr 0 0],[(0,[.bs B,.int AI at_,.bool bad])]=>ax (Zz (B.length<=140737488355328)) (Zx (.int AI (Kerb.pH B 2 at_ bad).val,[[.bs B,.int AI (Kerb.pH B 2 at_ bad).pos,.bool (Kerb.pH B 2 at_ bad).bad]]))
 | _,_=>Zy
def Z1:Sp
 | [.agg [.str lb,.int AI t,.int AT k,.int AI st,.int AI b,.int AI a,.str x,.str y,.str z,.bs tk]],[]=>ax (Zz (x.length<=9223372036854775807)&&Zz (y.length<=9223372036854775807)&&Zz (z.length<=9223372036854775807)&&Zz (0<=k)&&Zz (k<18446744073709551616)) (Zx (.bp [.bs (Kerb.a_ ⟨lb,t,k,st,b,a,⟨x,y,z⟩,tk⟩).val,.int AI (Kerb.a_ ⟨lb,t,k,st,b,a,⟨x,y,z⟩,tk⟩).err],[]))
 | _,_=>Zy
def Gb:Sp
 | [.ptr 0 0],[(0,[.bs B,.int AI at_,.bool bad])]=>ax (Zz (B.length<=140737488355328)) (Zx (.int AI (Kerb.fV B 4 at_ bad).val,[[.bs B,.int AI (Kerb.fV B 4 at_ bad).pos,.bool (Kerb.fV B 4 at_ bad).bad]]))
 | _,_=>Zy
def Z5:Sp
 | [.ptr 0 0],[(0,[.bs B,.int AI at_,.bool bad])]=>ax (Zz (B.length<=140737488355328)) (Zx (.int AI (Kerb.pH B 4 at_ bad).val,[[.bs B,.int AI (Kerb.pH B 4 at_ bad).pos,.bool (Kerb.pH B 4 at_ bad).bad]]))
 | _,_=>Zy
def Z8:Sp
 | [.str s,.str bad],[]=>ax (Zz (s.length<=9223372036854775807)) (Zx (.bool (Kerb.dO s bad),[]))
 | _,_=>Zy
def Z9:Sp
 | [.bs b,.int AI n,.bool By],[]=>ax (Zz (b.length<=70368744177664)) (Zx (.eG (b++Kerb.aD n 2 By),[]))
 | _,_=>Zy
def Z_:Sp
 | [.bs b,.int AI at_,.int AI most,.bool li],[]=>ax (Zz (b.length<=140737488355328)) (Zx (.bp [.bs (Kerb.fz b at_ most li).val,.int AI (Kerb.fz b at_ most li).next,.bool (Kerb.fz b at_ most li).ok],[]))
 | _,_=>Zy
def adT:Sp
 | [.bL 0 61 1,.int AI a,.int AI b],[(0,els)]=>ax (Zu els&&Zz ((els.length:Int)<=1152921504606846976)&&Zz (0<=a)&&Zz (a<=b)&&Zz (b<=(els.length:Int))) (Zx (.bp [],[Kerb.NN els a b]))
 | _,_=>Zy
def adU:Sp
 | [.bL 0 61 1,.int AI a,.int AI b],[(0,els)]=>ax (Zu els&&Zz ((els.length:Int)<=1152921504606846976)&&Zz (0<=a)&&Zz (a<=b)&&Zz (b<=(els.length:Int))) (Zx (.bp [],[Kerb.Gy els a b]))
 | _,_=>Zy
def ae7:Sp
 | [.agg [.str lb,.int AI t,.int AI st,.int AI a,.int AT k]],[]=>ax (Zz (0<=k)&&Zz (k<18446744073709551616)) (Zx (.int AI (Kerb.aY ⟨lb,t,st,a,k⟩).err,[]))
 | _,_=>Zy
def abO:Sp
 | [.bL 0 61 1,.int AI a,.int AI b,.int AI c,.ptr 4 0],[(0,els),(4,[.int AI s])]=>ax (Zu els&&Zz ((els.length:Int)<=1152921504606846976)&&Zz (0<=a)&&Zz (a<(els.length:Int))&&Zz (0<=b)&&Zz (b<(els.length:Int))&&Zz (0<=c)&&Zz (c<(els.length:Int))&&Zz (0<=s)&&Zz (s<=900)) (Zx (.int AI (Kerb.median els a b c s).1,[els,[.int AI (Kerb.median els a b c s).2]]))
 | _,_=>Zy
def apa:Sp
 | [.bs b],[]=>ax (Zz (b.length<=140737488355328)) (Zx (.bp [.agg [.int AI (Yk b).box.kind,.int AT (Yk b).box.key,.bs (Yk b).box.body],.int AI (Yk b).n,.int AI (Yk b).err],[]))
 | _,_=>Zy
def aeU:Sp
 | [.agg [.bool li,.str x,.str y,.str z,.int AI ad,.int AT k,.int AI b,.int AI c,.str a,.str ins]],[]=>ax (Zz (x.length<=9223372036854775807)&&Zz (y.length<=9223372036854775807)&&Zz (z.length<=9223372036854775807)&&Zz (a.length<=9223372036854775807)&&Zz (ins.length<=9223372036854775807)&&Zz (0<=k)&&Zz (k<18446744073709551616)) (Zx (.bp [.bs (Kerb.bE (Kerb.dZ.mk li ⟨x,y,z⟩ ad k b c a ins)).val,.int AI (Kerb.bE (Kerb.dZ.mk li ⟨x,y,z⟩ ad k b c a ins)).err],[]))
 | _,_=>Zy
def Y_:Sp
 | [.bs b],[]=>ax (Zz (b.length<=140737488355328)) (Zx (.bp [.agg [.bool ((Zb b).val).By,.str ((Zb b).val).BY.name,.str ((Zb b).val).BY.inst,.str ((Zb b).val).BY.aA,.int AI ((Zb b).val).time,.int AI ((Zb b).val).b_,.int AI ((Zb b).val).bj,.bs ((Zb b).val).cw],.int AI (Zb b).err],[]))
 | _,_=>Zy
def aeW:Sp
 | [.bs b],[]=>ax (Zz (b.length<=140737488355328)) (Zx (.bp [.bs (Kerb.gQ b).val,.bool (Kerb.gQ b).By,.int AI (Kerb.gQ b).err],[]))
 | _,_=>Zy
def Uc:Sp
 | [.bs b],[]=>ax (Zz (b.length<=140737488355328)) (Zx (.bp [.bs (Yx b).plain,.bs (Yx b).cw,.bool (Yx b).By,.int AI (Yx b).err],[]))
 | _,_=>Zy
def Ud:Sp
 | [.bs b],[]=>ax (Zz (b.length<=140737488355328)) (Zx (.bp [.agg [.int AI ((Zf b).val).op,.str ((Zf b).val).user.name,.str ((Zf b).val).user.inst,.str ((Zf b).val).user.aA,.int AI ((Zf b).val).bj,.str ((Zf b).val).aA,.bs ((Zf b).val).aB,.str ((Zf b).val).service,.str ((Zf b).val).inst,.bs ((Zf b).val).box],.int AI (Zf b).err],[]))
 | _,_=>Zy
def aeX:Sp
 | [.bs b],[]=>ax (Zz (b.length<=140737488355328)) (Zx (.bp [.agg [.int AI ((Kerb.dc b).val).op,.int AI ((Kerb.dc b).val).code,.bs ((Kerb.dc b).val).box],.int AI (Kerb.dc b).err],[]))
 | _,_=>Zy
def Ue:Sp
 | [.bs b],[]=>ax (Zz (b.length<=140737488355328)) (Zx (.bp [.agg [.int AI ((Yv b).val).op,.str ((Yv b).val).name.name,.str ((Yv b).val).name.inst,.str ((Yv b).val).name.aA,.bs ((Yv b).val).box],.int AI (Yv b).err],[]))
 | _,_=>Zy
def Oz:Sp
 | [.bs b],[]=>ax (Zz (b.length<=140737488355328)) (Zx (.bool (Kerb.oO b),[]))
 | _,_=>Zy
def OA:Sp
 | [.bs b,.bool By],[]=>ax (Zz (b.length<=140737488355328)) (Zx (.bp [.agg [.int AT ((Zg b By).val).ah,.str ((Zg b By).val).service.name,.str ((Zg b By).val).service.inst,.str ((Zg b By).val).service.aA,.int AI ((Zg b By).val).bK,.int AI ((Zg b By).val).bj,.bs ((Zg b By).val).aB,.int AI ((Zg b By).val).time],.int AI (Zg b By).err],[]))
 | _,_=>Zy
def ZE:Sp
 | [.bs b],[]=>ax (Zz (b.length<=140737488355328)) (Zx (.bp [.agg [.str ((Yw b).val).label,.int AI ((Yw b).val).time,.int AI ((Yw b).val).start,.int AI ((Yw b).val).stop,.int AT ((Yw b).val).new],.int AI (Yw b).err],[]))
 | _,_=>Zy
def ZF:Sp
 | [.bs b],[]=>ax (Zz (b.length<=140737488355328)) (Zx (.bp [.agg [.str ((Zd b).val).label,.int AI ((Zd b).val).time,.int AT ((Zd b).val).ah,.int AI ((Zd b).val).start,.int AI ((Zd b).val).stop,.int AI ((Zd b).val).bj,.str ((Zd b).val).service.name,.str ((Zd b).val).service.inst,.str ((Zd b).val).service.aA,.bs ((Zd b).val).aB],.int AI (Zd b).err],[]))
 | _,_=>Zy
def xu:Sp
 | [.bs b],[]=>ax (Zz (b.length<=140737488355328)) (Zx (.bp [.agg [.str ((Zj b).val).BY.name,.str ((Zj b).val).BY.inst,.str ((Zj b).val).BY.aA,.str ((Zj b).val).service.name,.str ((Zj b).val).service.inst,.str ((Zj b).val).service.aA,.int AT ((Zj b).val).ah,.int AI ((Zj b).val).start,.int AI ((Zj b).val).stop,.int AI ((Zj b).val).addr],.int AI (Zj b).err],[]))
 | _,_=>Zy
def ZG:Sp
 | [.bs b],[]=>ax (Zz (b.length<=140737488355328)) (Zx (.bp [.agg [.int AT ((Zh b).val).ah,.str ((Zh b).val).service.name,.str ((Zh b).val).service.inst,.str ((Zh b).val).service.aA,.int AI ((Zh b).val).start,.int AI ((Zh b).val).stop,.bs ((Zh b).val).record],.int AI (Zh b).err],[]))
 | _,_=>Zy
def Ul:Sp
 | [.str s],[]=>ax (Zz (s.length<=9223372036854775807)) (Zx (.bool (Kerb.cO s),[]))
 | _,_=>Zy
def ZW:Sp
 | [.bs s,.bool li],[]=>Zx (.bp [.bs (Kerb.dh s li).val,.int AI (Kerb.dh s li).err],[])
 | _,_=>Zy
def ZX:Sp
 | [.bs b],[]=>ax (Zz (b.length<=140737488355328)) (Zx (.bp [.int AI (Yx b).kind,.bs (Yx b).plain,.bs (Yx b).cw,.bool (Yx b).By,.int AI (Yx b).err],[]))
 | _,_=>Zy
def OM:Sp
 | [.ptr 0 0],[(0,[.bs B,.int AI at_,.bool bad])]=>ax (Zz (B.length<=140737488355328)) (Zx (.int AT (Kerb.xY B at_ bad).val,[[.bs B,.int AI (Kerb.xY B at_ bad).pos,.bool (Kerb.xY B at_ bad).bad]]))
 | _,_=>Zy
def Uw:Sp
 | [.agg [.str lb,.int AI t,.int AI st,.int AI a,.int AT k]],[]=>ax (Zz (0<=k)&&Zz (k<18446744073709551616)) (Zx (.bp [.bs (Kerb.aY ⟨lb,t,st,a,k⟩).val,.int AI (Kerb.aY ⟨lb,t,st,a,k⟩).err],[]))
 | _,_=>Zy
def Z4:Sp
 | [.ptr 0 0],[(0,[.bs B,.int AI at_,.bool bad])]=>ax (Zz (B.length<=140737488355328)) (Zx (.int AT (Kerb.BC B at_ bad).val,[[.bs B,.int AI (Kerb.BC B at_ bad).pos,.bool (Kerb.BC B at_ bad).bad]]))
 | _,_=>Zy
def DZ:Sp
 | [.str s],[]=>ax (Zz (s.length<=9223372036854775807)) (Zx (.bool (Kerb.validName s),[]))
 | _,_=>Zy
def aac:Sp
 | [.bs b,.bs t],[]=>ax (Zz (b.length+t.length<=70368744170000)) (Zx (.bs (Kerb.jg b t),[]))
 | _,_=>Zy
def UB:Sp
 | [.bs b,.bs t],[]=>ax (Zz (b.length+t.length<=70368744170000)) (Zx (.bs (Kerb.gL b t),[]))
 | _,_=>Zy
def ahF:Sp
 | [.bs b,.bs t],[]=>ax (Zz (b.length+t.length<=70368744170000)) (Zx (.bs (Kerb.gL b t),[]))
 | _,_=>Zy
def ada:Sp
 | [.bL 0 61 1,.int AI a,.ptr 2 0],[(0,els),(2,[.int AI s])]=>ax (Zu els&&Zz ((els.length:Int)<=1152921504606846976)&&Zz (1<=a)&&Zz (a+1<(els.length:Int))&&Zz (0<=s)&&Zz (s<=800)) (Zx (.int AI (Kerb.Hr els a s).1,[els,[.int AI (Kerb.Hr els a s).2]]))
 | _,_=>Zy
def agj:Sp
 | [.bs b],[]=>ax (Zz (b.length<=140737488355328)) (Zx (.bool (Kerb.oO b),[]))
 | _,_=>Zy
def TW:Sp
 | [.bs b],[]=>ax (Zz (b.length<=140737488355328)) (Zx (.bp [.agg [.bool ((Yy b).val).By,.bool ((Yy b).val).c5,.int AI ((Yy b).val).bj,.str ((Yy b).val).aA,.bs ((Yy b).val).aB,.bs ((Yy b).val).eQ],.int AI (Yy b).err],[]))
 | _,_=>Zy
def Ol:Sp
 | [.bs b],[]=>ax (Zz (b.length<=140737488355328)) (Zx (.bp [.agg [.bool ((Zp b).val).By,.str ((Zp b).val).BY.name,.str ((Zp b).val).BY.inst,.str ((Zp b).val).BY.aA,.int AI ((Zp b).val).address,.int AT ((Zp b).val).ah,.int AI ((Zp b).val).bK,.int AI ((Zp b).val).cf,.str ((Zp b).val).service,.str ((Zp b).val).inst],.int AI (Zp b).err],[]))
 | _,_=>Zy
def DS:Sp
 | [.sl 1 bs],[]=>ax (Kerb.rL bs) (Zx (.sl 1 (Zm (Kerb.gj (Yq bs))),[]))
 | _,_=>Zy
def Oo:Sp
 | [.bs b],[]=>ax (Zz (b.length<=140737488355328)) (Zx (.bp [.agg [.bool ((Zk b).val).ap.By,.bool ((Zk b).val).ap.c5,.int AI ((Zk b).val).ap.bj,.str ((Zk b).val).ap.aA,.bs ((Zk b).val).ap.aB,.bs ((Zk b).val).ap.eQ,.int AI ((Zk b).val).time,.int AI ((Zk b).val).bK,.str ((Zk b).val).service,.str ((Zk b).val).inst],.int AI (Zk b).err],[]))
 | _,_=>Zy
def ajX:Sp
 | [.str s],[]=>ax (Zz (s.length<=9223372036854775807)) (Zx (.bool (Kerb.dG s),[]))
 | _,_=>Zy
def aj0:Sp
 | [.bs b],[]=>ax (Zz (b.length<=140737488355328)) (Zx (.bp [.bs (Kerb.gQ b).val,.bool (Kerb.gQ b).By,.int AI (Kerb.gQ b).err],[]))
 | _,_=>Zy
def aj1:Sp
 | [.bs b],[]=>ax (Zz (b.length<=140737488355328)) (Zx (.bp [.bs (Yx b).plain,.bs (Yx b).cw,.bool (Yx b).By,.int AI (Yx b).err],[]))
 | _,_=>Zy
def ae1:Sp
 | [.bs b],[]=>ax (Zz (b.length<=140737488355328)) (Zx (.bp [.agg [.str ((Yw b).val).label,.int AI ((Yw b).val).time,.int AI ((Yw b).val).start,.int AI ((Yw b).val).stop,.int AT ((Yw b).val).new],.int AI (Yw b).err],[]))
 | _,_=>Zy
def Z0:Sp
 | [.agg [.int AI op,.int AI a,.bs bx]],[]=>Zx (.bp [.bs (Kerb.cj ⟨op,a,bx⟩).val,.int AI (Kerb.cj ⟨op,a,bx⟩).err],[])
 | _,_=>Zy
def aea:Sp
 | [.bL 0 61 1,.int AI a,.int AI b],[(0,els)]=>ax (Zu els&&Zz ((els.length:Int)<=1152921504606846976)&&Zz (0<=a)&&Zz (a<=b)&&Zz (b<=(els.length:Int))&&Zz (a+8<=b)) (Zx (.bp [.int AI (Kerb.Ke els a b).1,.int AI (Kerb.Jn (Kerb.Ke els a b).2)],[els]))
 | _,_=>Zy
def agf:Sp
 | [.bs b],[]=>ax (Zz (b.length<=140737488355328)) (Zx (.bp [.agg [.int AI (Kerb.qP b).1.kind,.int AT (Kerb.qP b).1.key,.bs (Kerb.qP b).1.body],.bool (Kerb.qP b).2],[]))
 | _,_=>Zy
def ahd:Sp
 | [.bs b],[]=>ax (Zz (b.length<=70368744170000)) (Zx (.sl 1 (Zm (Kerb.partsOf b)),[]))
 | _,_=>Zy
def DR:Sp
 | [.agg [.bool li,.bool a,.int AI b,.str rl,.bs tk,.bs au]],[]=>ax (Zz (rl.length<=9223372036854775807)) (Zx (.bp [.bs (Kerb.aZ (Kerb.cC.mk li a b rl tk au)).val,.int AI (Kerb.aZ (Kerb.cC.mk li a b rl tk au)).err],[]))
 | _,_=>Zy
def abC:Sp
 | [.sl 1 bs],[]=>ax (Kerb.rL bs) (Zx (.sl 1 (Zm (Kerb.gj (Yq bs))),[]))
 | _,_=>Zy
def Y':Sp
 | [.agg [.int AI kd,.int AT k,.bs b]],[]=>ax (Zz (b.length<=70368744170000)) (Zx (.bp [.sl 1 (Yz (Kerb.h_ ⟨kd,k,b⟩).keys),.sl 1 (Zm (Kerb.h_ ⟨kd,k,b⟩).boxes)],[]))
 | _,_=>Zy
def aj6:Sp
 | [.bs b],[]=>ax (Zz (b.length<=140737488355328)) (Zx (.bp [.agg [.int AI ((Kerb.dc b).val).op,.int AI ((Kerb.dc b).val).code,.bs ((Kerb.dc b).val).box],.int AI (Kerb.dc b).err],[]))
 | _,_=>Zy
def Um:Sp
 | [.agg [.str a,.str b,.str c]],[]=>ax (Zz (a.length<=9223372036854775807)&&Zz (b.length<=9223372036854775807)&&Zz (c.length<=9223372036854775807)) (Zx (.bool (Kerb.bQ.valid ⟨a,b,c⟩),[]))
 | _,_=>Zy
def abl(c:Nat):Sp
 | [.bL 0 61 1,.int AI a,.int AI b,.int AI l],[(0,els)]=>ax ((Zu els&&Zz ((els.length:Int)<=1152921504606846976)&&Kerb.nn a&&Zz (a<=b)&&Zz (b<=(els.length:Int))&&Zz (0<=l)&&Zz (l<=64))&&Zz (b-a<(c:Int))) (Zx (.bp [],[Kerb.To els a b l]))
 | _,_=>Zy
def KX:Sp
 | [.bL 0 61 1,.int AI a,.int AI b,.int AI l],[(0,els)]=>ax (Zu els&&Zz ((els.length:Int)<=1152921504606846976)&&Kerb.nn a&&Zz (a<=b)&&Zz (b<=(els.length:Int))&&Zz (0<=l)&&Zz (l<=64)) (Zx (.bp [],[Kerb.To els a b l]))
 | _,_=>Zy
def aqP:Sp
 | [.bs a,.bs b],[]=>ax (Zz (a.length<=140737488355328)&&Zz (b.length<=140737488355328)) (Zx (.bool (Kerb.zL a b),[]))
 | _,_=>Zy
def ajz:Sp
 | [.bs b],[]=>ax (Zz (b.length<=140737488355328)) (Zx (.bp [.agg [.bool ((Yy b).val).By,.bool ((Yy b).val).c5,.int AI ((Yy b).val).bj,.str ((Yy b).val).aA,.bs ((Yy b).val).aB,.bs ((Yy b).val).eQ],.int AI (Yy b).err],[]))
 | _,_=>Zy
def adi(a:Nat):Sp
 | [.agg [.sl 1 ks,.sl 1 bs]],[]=>ax ((Yj ks bs)&&Zz ((Kerb.dz (Zq ks bs):Int)<(a:Int))) (Zx (.agg [.sl 1 (Yz (Kerb.close (Zq ks bs)).keys),.sl 1 (Zm (Kerb.close (Zq ks bs)).boxes)],[]))
 | _,_=>Zy
def aeP:Sp
 | [.agg [.sl 1 ks,.sl 1 bs]],[]=>ax (Yj ks bs) (Zx (.agg [.sl 1 (Yz (Kerb.close (Zq ks bs)).keys),.sl 1 (Zm (Kerb.close (Zq ks bs)).boxes)],[]))
 | _,_=>Zy
def adj(a:Nat):Sp
 | [.agg [.sl 1 ks,.sl 1 bs],.bs b],[]=>ax ((Yj ks bs&&Zz (b.length<=70368744170000))&&Zz ((b.length:Int)<(a:Int))) (Zx (.bool (Kerb.eN (Zq ks bs) b),[]))
 | _,_=>Zy
def aeT:Sp
 | [.agg [.sl 1 ks,.sl 1 bs],.bs b],[]=>ax (Yj ks bs&&Zz (b.length<=70368744170000)) (Zx (.bool (Kerb.eN (Zq ks bs) b),[]))
 | _,_=>Zy
def abL:Sp
 | [.bs b,.int AI pos],[]=>ax (Zz (b.length<=4611686018427387904)) (Zx (.bp [.agg [.str (Kerb.fX b pos).val.name,.str (Kerb.fX b pos).val.inst,.str (Kerb.fX b pos).val.aA],.int AI (Kerb.fX b pos).next,.int AI (Kerb.fX b pos).err],[]))
 | _,_=>Zy
def ZA:Sp
 | [.bL 0 61 1],[(0,els)]=>ax (Zu els&&Zz ((els.length:Int)<=1152921504606846976)) (Zx (.bp [],[Kerb.Bo els]))
 | _,_=>Zy
def F9:Sp
 | [.agg [.bool li,.str x,.str y,.str z,.int AI ad,.int AT k,.int AI b,.int AI c,.str a,.str ins]],[]=>ax (Zz (x.length<=9223372036854775807)&&Zz (y.length<=9223372036854775807)&&Zz (z.length<=9223372036854775807)&&Zz (a.length<=9223372036854775807)&&Zz (ins.length<=9223372036854775807)&&Zz (0<=k)&&Zz (k<18446744073709551616)) (Zx (.int AI (Kerb.dZ.mk li ⟨x,y,z⟩ ad k b c a ins).err,[]))
 | _,_=>Zy
def F_:Sp
 | [.agg [.bool li,.str x,.str y,.str z,.int AI t,.int AI ex,.int AI b,.bs a]],[]=>ax (Zz (x.length<=9223372036854775807)&&Zz (y.length<=9223372036854775807)&&Zz (z.length<=9223372036854775807)) (Zx (.bp [.bs (Kerb.bc ⟨li,⟨x,y,z⟩,t,ex,b,a⟩).val,.int AI (Kerb.bc ⟨li,⟨x,y,z⟩,t,ex,b,a⟩).err],[]))
 | _,_=>Zy
def Uo:Sp
 | [.agg [.bool li,.bool b,.int AI d,.str rl,.bs tk,.bs au,.int AI tm,.int AI c,.str a,.str ins]],[]=>ax (Zz (rl.length<=9223372036854775807)&&Zz (a.length<=9223372036854775807)&&Zz (ins.length<=9223372036854775807)) (Zx (.bp [.bs (Kerb.dj (Kerb.eM.mk (Kerb.cC.mk li b d rl tk au) tm c a ins)).val,.int AI (Kerb.dj (Kerb.eM.mk (Kerb.cC.mk li b d rl tk au) tm c a ins)).err],[]))
 | _,_=>Zy
def Ga:Sp
 | [.agg [.int AI op,.str c,.str b,.str a,.bs bx]],[]=>ax (Zz (c.length<=9223372036854775807)&&Zz (b.length<=9223372036854775807)&&Zz (a.length<=9223372036854775807)) (Zx (.bp [.bs (Kerb.dL ⟨op,⟨c,b,a⟩,bx⟩).val,.int AI (Kerb.dL ⟨op,⟨c,b,a⟩,bx⟩).err],[]))
 | _,_=>Zy
def OL:Sp
 | [.agg [.int AT k,.str x,.str y,.str z,.int AI a,.int AI b,.bs tk,.int AI t],.bool By],[]=>ax (Zz (x.length<=9223372036854775807)&&Zz (y.length<=9223372036854775807)&&Zz (z.length<=9223372036854775807)&&Zz (0<=k)&&Zz (k<18446744073709551616)) (Zx (.bp [.bs (Kerb.bt ⟨k,⟨x,y,z⟩,a,b,tk,t⟩ By).val,.int AI (Kerb.bt ⟨k,⟨x,y,z⟩,a,b,tk,t⟩ By).err],[]))
 | _,_=>Zy
def Z6:Sp
 | [.agg [.str g,.str f,.str d,.str c,.str b,.str sz,.int AT k,.int AI t,.int AI e,.int AI a]],[]=>ax (Zz (g.length<=9223372036854775807)&&Zz (f.length<=9223372036854775807)&&Zz (d.length<=9223372036854775807)&&Zz (c.length<=9223372036854775807)&&Zz (b.length<=9223372036854775807)&&Zz (sz.length<=9223372036854775807)&&Zz (0<=k)&&Zz (k<18446744073709551616)) (Zx (.bp [.bs (Kerb.eB ⟨⟨g,f,d⟩,⟨c,b,sz⟩,k,t,e,a⟩).val,.int AI (Kerb.eB ⟨⟨g,f,d⟩,⟨c,b,sz⟩,k,t,e,a⟩).err],[]))
 | _,_=>Zy
def Z7:Sp
 | [.agg [.int AT k,.str b,.str a,.str sz,.int AI t,.int AI e,.bs rc]],[]=>ax (Zz (b.length<=9223372036854775807)&&Zz (a.length<=9223372036854775807)&&Zz (sz.length<=9223372036854775807)&&Zz (0<=k)&&Zz (k<18446744073709551616)) (Zx (.bp [.bs (Kerb.dB ⟨k,⟨b,a,sz⟩,t,e,rc⟩).val,.int AI (Kerb.dB ⟨k,⟨b,a,sz⟩,t,e,rc⟩).err],[]))
 | _,_=>Zy
def UA:Sp
 | [.agg [.int AI op,.str c,.str b,.str a,.int AI e,.str rl,.bs tk,.str d,.str ins,.bs bx]],[]=>ax (Zz (c.length<=9223372036854775807)&&Zz (b.length<=9223372036854775807)&&Zz (a.length<=9223372036854775807)&&Zz (rl.length<=9223372036854775807)&&Zz (d.length<=9223372036854775807)&&Zz (ins.length<=9223372036854775807)) (Zx (.int AI (Kerb.aH ⟨op,⟨c,b,a⟩,e,rl,tk,d,ins,bx⟩).err,[]))
 | _,_=>Zy
def ae8:Sp
 | [.agg [.str lb,.int AI t,.int AT k,.int AI st,.int AI b,.int AI a,.str x,.str y,.str z,.bs tk]],[]=>ax (Zz (x.length<=9223372036854775807)&&Zz (y.length<=9223372036854775807)&&Zz (z.length<=9223372036854775807)&&Zz (0<=k)&&Zz (k<18446744073709551616)) (Zx (.int AI (Kerb.a_ ⟨lb,t,k,st,b,a,⟨x,y,z⟩,tk⟩).err,[]))
 | _,_=>Zy
def aaZ:Sp
 | [.agg [.sl 1 ks,.sl 1 bs],.bs b],[]=>ax (Yj ks bs&&Zz (Kerb.dz (Zq ks bs)+2*b.length+2100<=1000000)) (Zx (.agg [.sl 1 (Yz (Kerb.learn (Zq ks bs) b).keys),.sl 1 (Zm (Kerb.learn (Zq ks bs) b).boxes)],[]))
 | _,_=>Zy
def XB:Sp
 | [.agg [.sl 1 ks,.sl 1 bs],.int AT k],[]=>ax (Yj ks bs&&Zz (0<=k)&&Zz (k<18446744073709551616)&&Zz (Kerb.dz (Zq ks bs)+1<=1000000)) (Zx (.agg [.sl 1 (Yz (Kerb.leak (Zq ks bs) k).keys),.sl 1 (Zm (Kerb.leak (Zq ks bs) k).boxes)],[]))
 | _,_=>Zy
def TV:Sp
 | [.agg [.sl 1 ks,.sl 1 bs],.bs b],[]=>ax (Yj ks bs&&Zz (b.length<=70368744160000)) (Zx (.bool (Kerb.BM (Zq ks bs) b),[]))
 | _,_=>Zy
def ahp:Sp
 | [.sl 1 l,.int AT k],[]=>ax (Zu l&&Kerb.O3 (Kerb.Ej l k)&&Zz ((l.length:Int)<=100000000)) (Zx (.ay (Kerb.Ej l k),[]))
 | _,_=>Zy
def aeY:Sp
 | [.agg [.bool li,.str x,.str y,.str z,.int AI ad,.int AT k,.int AI b,.int AI c,.str a,.str ins]],[]=>ax (Zz (x.length<=9223372036854775807)&&Zz (y.length<=9223372036854775807)&&Zz (z.length<=9223372036854775807)&&Zz (a.length<=9223372036854775807)&&Zz (ins.length<=9223372036854775807)&&Zz (0<=k)&&Zz (k<18446744073709551616)) (Zx (.bp [.bs (Kerb.bE (Kerb.dZ.mk li ⟨x,y,z⟩ ad k b c a ins)).val,.int AI (Kerb.bE (Kerb.dZ.mk li ⟨x,y,z⟩ ad k b c a ins)).err],[]))
 | _,_=>Zy
def ahB:Sp
 | [.bs b],[]=>ax (Zz (b.length<=140737488355328)) (Zx (.bp [.agg [.bool ((Zb b).val).By,.str ((Zb b).val).BY.name,.str ((Zb b).val).BY.inst,.str ((Zb b).val).BY.aA,.int AI ((Zb b).val).time,.int AI ((Zb b).val).b_,.int AI ((Zb b).val).bj,.bs ((Zb b).val).cw],.int AI (Zb b).err],[]))
 | _,_=>Zy
def ajZ:Sp
 | [.bs b],[]=>ax (Zz (b.length<=140737488355328)) (Zx (.bp [.agg [.bool ((Zk b).val).ap.By,.bool ((Zk b).val).ap.c5,.int AI ((Zk b).val).ap.bj,.str ((Zk b).val).ap.aA,.bs ((Zk b).val).ap.aB,.bs ((Zk b).val).ap.eQ,.int AI ((Zk b).val).time,.int AI ((Zk b).val).bK,.str ((Zk b).val).service,.str ((Zk b).val).inst],.int AI (Zk b).err],[]))
 | _,_=>Zy
def adl:Sp
 | [.bs b,.bool By],[]=>ax (Zz (b.length<=140737488355328)) (Zx (.bp [.agg [.int AT ((Zg b By).val).ah,.str ((Zg b By).val).service.name,.str ((Zg b By).val).service.inst,.str ((Zg b By).val).service.aA,.int AI ((Zg b By).val).bK,.int AI ((Zg b By).val).bj,.bs ((Zg b By).val).aB,.int AI ((Zg b By).val).time],.int AI (Zg b By).err],[]))
 | _,_=>Zy
def DX:Sp
 | [.ptr 0 0],[(0,[.bs B,.int AI at_,.bool bad])]=>ax (Zz (B.length<=140737488355328)) (Zx (.agg [.str (Kerb.lZ B at_ bad).val.name,.str (Kerb.lZ B at_ bad).val.inst,.str (Kerb.lZ B at_ bad).val.aA],[[.bs B,.int AI (Kerb.lZ B at_ bad).pos,.bool (Kerb.lZ B at_ bad).bad]]))
 | _,_=>Zy
def ZZ:Sp
 | [.agg [.int AI op,.str c,.str b,.str a,.int AI e,.str rl,.bs tk,.str d,.str ins,.bs bx]],[]=>ax (Zz (c.length<=9223372036854775807)&&Zz (b.length<=9223372036854775807)&&Zz (a.length<=9223372036854775807)&&Zz (rl.length<=9223372036854775807)&&Zz (d.length<=9223372036854775807)&&Zz (ins.length<=9223372036854775807)) (Zx (.bp [.bs (Kerb.aH ⟨op,⟨c,b,a⟩,e,rl,tk,d,ins,bx⟩).val,.int AI (Kerb.aH ⟨op,⟨c,b,a⟩,e,rl,tk,d,ins,bx⟩).err],[]))
 | _,_=>Zy
def Ur:Sp
 | [.ptr 0 0],[(0,[.bs B,.int AI at_,.bool bad])]=>ax (Zz (B.length<=140737488355328)) (Zx (.agg [.str (Kerb.oN B at_ bad).val.name,.str (Kerb.oN B at_ bad).val.inst,.str (Kerb.oN B at_ bad).val.aA],[[.bs B,.int AI (Kerb.oN B at_ bad).pos,.bool (Kerb.oN B at_ bad).bad]]))
 | _,_=>Zy
def K2:Sp
 | [.agg [.str lb,.int AI t,.int AT k,.int AI st,.int AI b,.int AI a,.str x,.str y,.str z,.bs tk]],[]=>ax (Zz (x.length<=9223372036854775807)&&Zz (y.length<=9223372036854775807)&&Zz (z.length<=9223372036854775807)&&Zz (0<=k)&&Zz (k<18446744073709551616)) (Zx (.bp [.bs (Kerb.a_ ⟨lb,t,k,st,b,a,⟨x,y,z⟩,tk⟩).val,.int AI (Kerb.a_ ⟨lb,t,k,st,b,a,⟨x,y,z⟩,tk⟩).err],[]))
 | _,_=>Zy
def adw:Sp
 | [.bs b],[]=>ax (Zz (b.length<=140737488355328)) (Zx (.bp [.agg [.bool ((Zp b).val).By,.str ((Zp b).val).BY.name,.str ((Zp b).val).BY.inst,.str ((Zp b).val).BY.aA,.int AI ((Zp b).val).address,.int AT ((Zp b).val).ah,.int AI ((Zp b).val).bK,.int AI ((Zp b).val).cf,.str ((Zp b).val).service,.str ((Zp b).val).inst],.int AI (Zp b).err],[]))
 | _,_=>Zy
def ahC:Sp
 | [.bs b],[]=>ax (Zz (b.length<=140737488355328)) (Zx (.bp [.agg [.int AI ((Zf b).val).op,.str ((Zf b).val).user.name,.str ((Zf b).val).user.inst,.str ((Zf b).val).user.aA,.int AI ((Zf b).val).bj,.str ((Zf b).val).aA,.bs ((Zf b).val).aB,.str ((Zf b).val).service,.str ((Zf b).val).inst,.bs ((Zf b).val).box],.int AI (Zf b).err],[]))
 | _,_=>Zy
def aj7:Sp
 | [.bs b],[]=>ax (Zz (b.length<=140737488355328)) (Zx (.bp [.agg [.int AI ((Yv b).val).op,.str ((Yv b).val).name.name,.str ((Yv b).val).name.inst,.str ((Yv b).val).name.aA,.bs ((Yv b).val).box],.int AI (Yv b).err],[]))
 | _,_=>Zy
def ady:Sp
 | [.bs b],[]=>ax (Zz (b.length<=140737488355328)) (Zx (.bp [.agg [.str ((Zd b).val).label,.int AI ((Zd b).val).time,.int AT ((Zd b).val).ah,.int AI ((Zd b).val).start,.int AI ((Zd b).val).stop,.int AI ((Zd b).val).bj,.str ((Zd b).val).service.name,.str ((Zd b).val).service.inst,.str ((Zd b).val).service.aA,.bs ((Zd b).val).aB],.int AI (Zd b).err],[]))
 | _,_=>Zy
def ae5:Sp
 | [.bs b],[]=>ax (Zz (b.length<=140737488355328)) (Zx (.bp [.agg [.str ((Zj b).val).BY.name,.str ((Zj b).val).BY.inst,.str ((Zj b).val).BY.aA,.str ((Zj b).val).service.name,.str ((Zj b).val).service.inst,.str ((Zj b).val).service.aA,.int AT ((Zj b).val).ah,.int AI ((Zj b).val).start,.int AI ((Zj b).val).stop,.int AI ((Zj b).val).addr],.int AI (Zj b).err],[]))
 | _,_=>Zy
def ae6:Sp
 | [.bs b],[]=>ax (Zz (b.length<=140737488355328)) (Zx (.bp [.agg [.int AT ((Zh b).val).ah,.str ((Zh b).val).service.name,.str ((Zh b).val).service.inst,.str ((Zh b).val).service.aA,.int AI ((Zh b).val).start,.int AI ((Zh b).val).stop,.bs ((Zh b).val).record],.int AI (Zh b).err],[]))
 | _,_=>Zy
def aeQ:Sp
 | [.bs b],[]=>ax (Zz (b.length<=70368744170000)) (Zx (.sl 1 (Zm (Kerb.o7 b)),[]))
 | _,_=>Zy
def aht:Sp
 | [.agg [.int AI kd,.int AT k,.bs b]],[]=>ax (Zz (b.length<=70368744170000)) (Zx (.bp [.sl 1 (Yz (Kerb.h_ ⟨kd,k,b⟩).keys),.sl 1 (Zm (Kerb.h_ ⟨kd,k,b⟩).boxes)],[]))
 | _,_=>Zy
def DQ:Sp
 | [.bs b],[]=>ax (Zz (b.length<=70368744170000)) (Zx (.sl 1 (Zm (Kerb.partsOf b)),[]))
 | _,_=>Zy
def acH:Sp
 | [.agg [.sl 1 ks,.sl 1 bs],.bs b],[]=>ax (Yj ks bs&&Zz (Kerb.dz (Zq ks bs)+2*b.length+2100<=1000000)) (Zx (.agg [.sl 1 (Yz (Kerb.learn (Zq ks bs) b).keys),.sl 1 (Zm (Kerb.learn (Zq ks bs) b).boxes)],[]))
 | _,_=>Zy
def aeI:Sp
 | [.agg [.sl 1 ks,.sl 1 bs],.int AT k],[]=>ax (Yj ks bs&&Zz (0<=k)&&Zz (k<18446744073709551616)&&Zz (Kerb.dz (Zq ks bs)+1<=1000000)) (Zx (.agg [.sl 1 (Yz (Kerb.leak (Zq ks bs) k).keys),.sl 1 (Zm (Kerb.leak (Zq ks bs) k).boxes)],[]))
 | _,_=>Zy
def K9:List (Nat×Nat×List CT×Sp):=[(22,1,[.int AI],aqQ),(23,1,[.c4,.int .u16],ao'),(28,1,[.sl 1,.sl 1],ahu),(29,1,[.sl 1,.sl 1],ahy),(30,1,[.c4,.c4],aqR),(63,1,[.int AI],UC),(72,1,[.sl 1,.int AT],MY),(97,1,[],XD),(136,1,[.int AI,.int AI],agK),(142,1,[.int AI],ajA),(143,1,[.c4],ac9),(171,1,[.int AI,.int AI],ajB),(173,1,[.int AI,.bool],T5),(174,1,[.c4,.str],T6),(179,1,[.int AI,.int AI],T7),(187,1,[.int AI],KK),(188,1,[.int AI,.int AI],Y8),(204,1,[.int AI],Ua),(205,1,[.int AI],ajV),(206,1,[.sl 1],ahg),(207,1,[.sl 1],ahn),(215,1,[.sl 1,.int AT],adx),(219,1,[.c4],ahr),(243,1,[.str,.str],Uf),(269,1,[.int AI,.int AI],KR),(272,1,[.c4,.int AI,.int AI,.bool],KT),(274,1,[.int AT],Oy),(275,1,[.c4],ahs),(281,1,[.int AI,.sl 1],ahw),(286,1,[.int AI,.int AI],ajY),(307,1,[.ptr,.int AI,.int AI],ahD),(309,1,[.c4,.int AI,.int AI],ZD),(310,1,[.c4,.int AI],zP),(363,1,[.int AI],aj'),(365,1,[.c4,.int AI,.int AI],Uk),(369,1,[.other,.other],ZT),(374,1,[.int AT],DW),(394,1,[.other,.other],OG),(398,1,[.int AI,.int AI],akb),(416,1,[.str],Uv),(419,1,[.str],Ux),(426,1,[.c4,.u8],Uz),(429,1,[.int AI,.int AI],zS),(431,1,[.int AI,.int AI],OO),(434,1,[.ptr,.int AI,.int AI],Z'),(438,1,[.int AI],ake),(439,1,[.int AI,.int AI],aki),(440,1,[.ptr,.int AI,.int AI],ahE),(446,1,[.sl 1,.int AI,.int AI],aeo),(452,1,[.int AT],ahG),(457,1,[.int AI,.int AI],akm),(461,1,[.ptr],aev),(464,1,[.int AT],akn),(467,1,[.str,.u8],ahJ),(13,2,[.other,.other],aeF),(41,2,[.int AI],ah9),(58,2,[.int AT],aeN),(118,2,[.int AT],F4),(127,2,[.other,.int AT],afS),(137,2,[.other,.sl 1,.sl 1],ahc),(147,2,[.str],ahe),(172,2,[.c4,.int AI],ajD),(175,2,[.str],xq),(176,2,[.str],Om),(177,2,[.c4,.int AI,.bool],ahf),(180,2,[.c4,.other],ajM),(181,2,[.c4,.int AI,.bool],T8),(218,2,[.c4,.sl 1],ahq),(225,2,[.ptr,.int AI],aa2),(226,2,[.ptr],abN),(280,2,[.c4],ahv),(284,2,[.c4,.int AI,.int AI],abE),(287,2,[.int AI,.bool],ahx),(290,2,[.sl 1],ahA),(364,2,[.c4,.int AI,.int AI,.bool],Uj),(366,2,[.c4,.u8],OD),(396,2,[.int AT],OH),(397,2,[.c4,.int AI,.int AI,.bool],OI),(448,2,[.int AT,.int AT],akk),(456,2,[.int AI,.int AI],akl),(465,2,[.str,.u8],ahI),(21,3,[.int AI],ao9),(48,3,[.int AT],l_),(83,3,[.other],ah'),(93,3,[.other],aqU),(99,3,[.int AT],aqV),(125,3,[.int AT],afR),(140,3,[.int AT],abv),(178,3,[.other],ajL),(195,3,[.c4,.sl 1],ajO),(221,3,[.c4],abI),(223,3,[.ptr],abM),(282,3,[.c4,.int AI],abj),(283,3,[.c4,.int AI],abD),(289,3,[.c4,.str],adk),(292,3,[.c4,.int AI,.bool],Zt),(306,3,[.c4,.int AI],ZB),(308,3,[.c4,.int AI,.bool],ZC),(314,3,[.c4,.bool],xt),(351,3,[.other],aj8),(354,3,[.c4,.bool],aj9),(368,3,[.c4,.int AI,.int AI,.bool],Bs),(375,3,[.c4],Un),(377,3,[.c4,.int AI,.bool],ZV),(384,3,[.ptr,.int AI],OE),(391,3,[.ptr,.int AI],KW),(399,3,[.c4,.int AI,.bool],akd),(442,3,[.sl 1,.int AI,.int AI],adz),(447,3,[.sl 1,.int AI,.int AI],aet),(449,3,[.sl 1,.int AI,.int AI,.int AI],adn),(450,3,[.sl 1,.int AI,.int AI,.int AI],ado),(458,3,[.str,.u8],ahH),(459,3,[.sl 1,.int AI,.int AI,.int AI],adp),(460,3,[.int AI],aeu),(466,3,[.sl 1,.int AI,.int AI,.ptr],adb),(85,4,[.other],lJ),(86,4,[.other],aib),(89,4,[.other],aqS),(92,4,[.other],aqT),(132,4,[.c4],xp),(141,4,[.c4],abF),(185,4,[.other],KE),(196,4,[.c4],ajS),(222,4,[.ptr],aa4),(224,4,[.ptr],abf),(271,4,[.other],Ow),(288,4,[.c4,.int AI],abK),(311,4,[.other],xr),(312,4,[.ptr],uu),(341,4,[.other,.bool],DU),(355,4,[.sl 1],abm),(372,4,[.c4,.other],vR),(373,4,[.c4,.int AI,.bool],zQ),(382,4,[.ptr],ZY),(383,4,[.ptr],Up),(386,4,[.ptr],F'),(389,4,[.ptr],Uq),(392,4,[.ptr],vS),(400,4,[.other],Z1),(415,4,[.ptr],Gb),(422,4,[.ptr],Z5),(427,4,[.str,.str],Z8),(432,4,[.c4,.int AI,.bool],Z9),(433,4,[.c4,.int AI,.int AI,.bool],Z_),(443,4,[.sl 1,.int AI,.int AI],adT),(444,4,[.sl 1,.int AI,.int AI],adU),(454,4,[.other],ae7),(463,4,[.sl 1,.int AI,.int AI,.int AI,.ptr],abO),(62,5,[.c4],apa),(227,5,[.other],aeU),(231,5,[.c4],Y_),(234,5,[.c4],aeW),(235,5,[.c4],Uc),(236,5,[.c4],Ud),(237,5,[.c4],aeX),(238,5,[.c4],Ue),(313,5,[.c4],Oz),(315,5,[.c4,.bool],OA),(316,5,[.c4],ZE),(317,5,[.c4],ZF),(318,5,[.c4],xu),(319,5,[.c4],ZG),(367,5,[.str],Ul),(380,5,[.c4,.bool],ZW),(381,5,[.c4],ZX),(417,5,[.ptr],OM),(418,5,[.other],Uw),(421,5,[.ptr],Z4),(428,5,[.str],DZ),(436,5,[.c4,.c4],aac),(437,5,[.c4,.c4],UB),(441,5,[.c4,.c4],ahF),(462,5,[.sl 1,.int AI,.ptr],ada),(61,6,[.c4],agj),(131,6,[.c4],TW),(133,6,[.c4],Ol),(232,6,[.sl 1],DS),(233,6,[.c4],Oo),(285,6,[.str],ajX),(297,6,[.c4],aj0),(298,6,[.c4],aj1),(357,6,[.c4],ae1),(388,6,[.other],Z0),(445,6,[.sl 1,.int AI,.int AI],aea)]
def Nf:List (Nat×Nat×List CT×Sp):=[(31,7,[.c4],agf),(138,7,[.c4],ahd),(197,7,[.other],DR),(208,7,[.sl 1],abC),(239,7,[.other],Y'),(300,7,[.c4],aj6),(370,7,[.other],Um),(395,7,[.sl 1,.int AI,.int AI,.int AI],KX)]
def QK:List (Nat×Nat×List CT×Sp):=[(16,8,[.c4,.c4],aqP),(112,8,[.c4],ajz),(139,8,[.other],aeP),(214,8,[.other,.c4],aeT),(291,8,[.c4,.int AI],abL),(304,8,[.sl 1],ZA),(371,8,[.other],F9),(378,8,[.other],F_),(379,8,[.other],Uo),(393,8,[.other],Ga),(414,8,[.other,.bool],OL),(423,8,[.other],Z6),(424,8,[.other],Z7),(435,8,[.other],UA),(455,8,[.other],ae8),(59,9,[.other,.c4],aaZ),(60,9,[.other,.int AT],XB),(124,9,[.other,.c4],TV),(213,9,[.sl 1,.int AT],ahp),(293,9,[.other],aeY),(295,9,[.c4],ahB),(296,9,[.c4],ajZ),(356,9,[.c4,.bool],adl),(385,9,[.ptr],DX),(387,9,[.other],ZZ),(390,9,[.ptr],Ur),(420,9,[.other],K2),(198,10,[.c4],adw),(299,10,[.c4],ahC),(301,10,[.c4],aj7),(358,10,[.c4],ady),(359,10,[.c4],ae5),(360,10,[.c4],ae6),(209,11,[.c4],aeQ),(277,11,[.other],aht),(120,12,[.c4],DQ),(50,15,[.other,.c4],acH),(51,15,[.other,.int AT],aeI)]
def acZ:List (Nat×Nat×List CT×Sp):=K9++Nf++QK
def aeq:List (Nat×List AV):=[]
noncomputable def abP:List (Nat×Func):=[(35,Tryz.f35),(49,Tryz.f49),(75,Tryz.f75),(156,Tryz.f156),(230,Tryz.f230),(276,Tryz.f276),(305,Tryz.f305),(361,Tryz.f361),(425,Tryz.f425),(73,Tryz.f73),(119,Tryz.f119),(160,Tryz.f160),(191,Tryz.f191),(210,Tryz.f210),(278,Tryz.f278),(303,Tryz.f303),(362,Tryz.f362),(121,Tryz.f121),(151,Tryz.f151),(168,Tryz.f168),(279,Tryz.f279),(167,Tryz.f167),(194,Tryz.f194),(212,Tryz.f212),(220,Tryz.f220),(154,Tryz.f154),(74,Tryz.f74),(123,Tryz.f123),(158,Tryz.f158),(77,Tryz.f77),(78,Tryz.f78),(79,Tryz.f79),(80,Tryz.f80),(81,Tryz.f81),(82,Tryz.f82),(153,Tryz.f153),(155,Tryz.f155),(76,Tryz.f76),(302,Tryz.f302),(34,Tryz.f34),(211,Tryz.f211),(122,Tryz.f122),(24,Tryz.f24),(11,Tryz.f11)]
def look{α:Type}(k:Nat):List (Nat×α)->Option α
 | []=>Zy
 | (j,x)::r=>cond (Nat.beq j k) (Zx x) (look k r)
def JR{α:Type}(k m:Nat):List (Nat×Nat×List α)->List α
 | []=>[]
 | (j,i,x)::r=>cond (Nat.beq j k) (cond (Nat.beq i m) x (JR k m r)) (JR k m r)
noncomputable def G0:iT:={ ty:=λt=>(Fe[t]?).join,keep:=λf r=>JR f r YB,own:=λf=>akJ.contains f,qU:=λq=>look q aeq,rts:=λf=>look f akT,uw:=λf=>look f acZ,inl:=λf=>look f abP }
noncomputable def YH:List (Nat×Nat×List CT×Func):=[(20,1,[.u8,.int AI],Tryz.f20),(36,1,[.u8,.int AI],Tryz.f36),(37,1,[.other,.other],Tryz.f37),(38,1,[.other,.other],Tryz.f38),(64,1,[.other,.int AI],Tryz.f64),(94,1,[.other,.int AI],Tryz.f94),(96,1,[.other,.other],Tryz.f96),(146,1,[.int AI],Tryz.f146),(148,1,[.sl 4,.str,.str,.int AI],Tryz.f148),(152,1,[.str,.str],Tryz.f152),(189,1,[.other,.int AI],Tryz.f189),(190,1,[.c4,.other],Tryz.f190),(228,1,[.int AI],Tryz.f228),(241,1,[.other,.other],Tryz.f241),(242,1,[.other,.other],Tryz.f242),(255,1,[.sl 7,.other],Tryz.f255),(258,1,[.int AI,.int AI],Tryz.f258),(260,1,[.other],Tryz.f260),(264,1,[.int AI,.int AI],Tryz.f264),(270,1,[.int AI,.int AI],Tryz.f270),(320,1,[.int AI,.int AI],Tryz.f320),(322,1,[.int AI,.int AI],Tryz.f322),(323,1,[.other,.other],Tryz.f323),(324,1,[.sl 5,.other,.int AI],Tryz.f324),(325,1,[.int AI,.int AI],Tryz.f325),(332,1,[.sl 1,.int AI],Tryz.f332),(347,1,[.int AI],Tryz.f347),(348,1,[.int AI],Tryz.f348),(401,1,[.other,.str,.str],Tryz.f401),(404,1,[.int AI],Tryz.f404),(405,1,[.sl 4,.str,.str],Tryz.f405),(407,1,[.other,.int AI,.other],Tryz.f407),(409,1,[.int AI],Tryz.f409),(413,1,[.int AI,.int AI],Tryz.f413),(453,1,[.other,.int AI,.other],Tryz.f453),(68,2,[.sl 13,.sl 2],Tryz.f68),(90,2,[.other,.u8],Tryz.f90),(95,2,[.other,.int AI],Tryz.f95),(134,2,[.int AI,.int AI,.int AI],Tryz.f134),(169,2,[.other],Tryz.f169),(229,2,[.int AI,.int AI],Tryz.f229),(262,2,[.other,.other],Tryz.f262),(266,2,[.sl 1,.int AI,.int AI],Tryz.f266),(331,2,[.int AI,.int AI,.sl 1],Tryz.f331),(337,2,[.other,.int AI,.int AI],Tryz.f337),(411,2,[.other,.int AI],Tryz.f411),(40,3,[.other,.int AI,.int AI,.u8,.int AI],Tryz.f40),(65,3,[.int AI,.int AI],Tryz.f65),(67,3,[.sl 4],Tryz.f67),(84,3,[.other,.u8,.int AI],Tryz.f84),(135,3,[.int AI,.int AI,.int AI,.int AI],Tryz.f135),(164,3,[.sl 1,.int AI,.int AI],Tryz.f164),(186,3,[.int AI,.int AT,.c4],Tryz.f186),(240,3,[.other],Tryz.f240),(326,3,[.other,.sl 4],Tryz.f326),(350,3,[.other,.int AI],Tryz.f350),(352,3,[.other,.str,.str,.int AI,.int AI,.int AI,.int AI],Tryz.f352),(9,4,[.other,.other],Tryz.f9),(32,4,[.other],Tryz.f32),(71,4,[.sl 13,.sl 4,.sl 31,.sl 10],Tryz.f71),(88,4,[.other],Tryz.f88),(144,4,[.other],Tryz.f144),(145,4,[.other],Tryz.f145),(182,4,[.other,.u8,.int AI],Tryz.f182),(245,4,[.other],Tryz.f245),(246,4,[.sl 5],Tryz.f246),(259,4,[.other],Tryz.f259),(261,4,[.other,.other,.int AI],Tryz.f261),(267,4,[.other,.str,.str,.int AI],Tryz.f267),(268,4,[.other,.str,.str,.int AI],Tryz.f268),(321,4,[.other],Tryz.f321),(336,4,[.int AI,.int AI],Tryz.f336),(353,4,[.other],Tryz.f353),(412,4,[.other,.bool],Tryz.f412),(66,5,[.sl 13],Tryz.f66),(91,5,[.other,.other,.other,.other],Tryz.f91),(150,5,[.other],Tryz.f150),(166,5,[.other,.other,.other,.int AI,.int AI,.int AI,.int AT],Tryz.f166),(170,5,[.other],Tryz.f170),(216,5,[.c4,.int AI,.int AT],Tryz.f216),(244,5,[.other,.int AI,.int AI,.bool],Tryz.f244),(265,5,[.other,.other,.int AT],Tryz.f265),(273,5,[.other,.bool],Tryz.f273),(329,5,[.other,.int AI,.int AI,.bool],Tryz.f329),(330,5,[.other,.sl 4,.str,.str,.int AI],Tryz.f330),(334,5,[.other,.other,.int AT],Tryz.f334),(340,5,[.other],Tryz.f340),(342,5,[.c4],Tryz.f342),(344,5,[.c4],Tryz.f344),(345,5,[.other,.other],Tryz.f345),(346,5,[.c4,.bool],Tryz.f346),(349,5,[.other,.bool],Tryz.f349),(403,5,[.other,.other,.int AI,.int AI],Tryz.f403),(408,5,[.int AI,.other,.int AT],Tryz.f408),(410,5,[.other,.int AI,.int AT],Tryz.f410),(70,6,[.sl 2,.sl 10],Tryz.f70),(149,6,[.other],Tryz.f149),(183,6,[.other,.int AT],Tryz.f183),(184,6,[.other,.bool,.int AT],Tryz.f184),(217,6,[.c4,.bool],Tryz.f217),(254,6,[.other,.int AT,.c4],Tryz.f254),(338,6,[.other,.int AI,.int AI,.int AI,.c4],Tryz.f338),(343,6,[.c4,.int AI,.bool],Tryz.f343),(406,6,[.int AI,.str,.int AI,.other,.other,.int AT],Tryz.f406),(69,7,[.sl 2,.sl 31],Tryz.f69),(87,7,[.other,.other,.other,.other,.bool],Tryz.f87),(130,7,[.c4,.bool,.int AT],Tryz.f130),(157,7,[.other,.int AI,.int AI],Tryz.f157),(162,7,[.other,.int AT,.int AI,.int AI],Tryz.f162),(163,7,[.other,.other,.int AI,.int AI],Tryz.f163),(165,7,[.other,.int AT,.int AT,.int AI],Tryz.f165),(249,7,[.other,.int AI,.c4],Tryz.f249),(251,7,[.other,.int AT,.c4,.int AI],Tryz.f251),(252,7,[.other,.c4],Tryz.f252),(253,7,[.other,.other,.int AT,.c4],Tryz.f253),(256,7,[.other,.other,.c4],Tryz.f256),(263,7,[.other,.other,.bool,.int AI,.int AI,.int AI],Tryz.f263),(333,7,[.other,.other,.other,.int AI,.bool,.int AI,.int AI,.int AT,.int AT,.int AT,.int AI],Tryz.f333),(402,7,[.c4,.int AT],Tryz.f402),(33,8,[.sl 13,.sl 4,.sl 2,.sl 31,.sl 10],Tryz.f33),(39,8,[.other,.other],Tryz.f39),(159,8,[.other,.other,.int AI,.int AI,.int AI],Tryz.f159),(161,8,[.other,.other,.bool,.int AI,.int AI,.int AI],Tryz.f161),(250,8,[.other,.sl 4,.int AI,.int AI,.bool,.int AT,.c4],Tryz.f250),(327,8,[.other,.other,.int AI,.int AI],Tryz.f327),(328,8,[.other,.other,.int AI,.int AI,.bool],Tryz.f328),(335,8,[.other,.int AI,.int AI,.int AI,.int AT,.other],Tryz.f335),(339,8,[.other,.int AI,.int AI,.int AI,.int AI,.int AT,.other,.c4],Tryz.f339),(17,9,[.other],Tryz.f17),(19,9,[.other,.other],Tryz.f19),(247,9,[.other,.sl 4,.other,.int AI,.int AI,.bool,.int AT,.c4],Tryz.f247),(248,9,[.other,.int AI,.int AI,.int AI,.int AT,.c4],Tryz.f248),(257,9,[.other,.c4,.int AI,.int AI],Tryz.f257),(27,10,[.other,.other,.sl 4],Tryz.f27),(15,11,[.sl 51,.sl 4,.int AI],Tryz.f15),(18,14,[.other,.other],Tryz.f18),(8,15,[.other,.sl 6],Tryz.f8),(25,16,[.other,.other,.sl 4],Tryz.f25),(14,17,[.sl 51,.sl 4,.int AI],Tryz.f14),(7,18,[],Tryz.f7),(5,19,[.other,.sl 6,.other,.int AI,.u8],Tryz.f5)]
noncomputable def ow:QQ:=λf=>look f YH
@[irreducible] noncomputable def sp20:Sp:=ownSp G0 ow 1 20 Tryz.f20
@[irreducible] noncomputable def sp36:Sp:=ownSp G0 ow 1 36 Tryz.f36
@[irreducible] noncomputable def sp37:Sp:=ownSp G0 ow 1 37 Tryz.f37
@[irreducible] noncomputable def sp38:Sp:=ownSp G0 ow 1 38 Tryz.f38
@[irreducible] noncomputable def sp64:Sp:=ownSp G0 ow 1 64 Tryz.f64
@[irreducible] noncomputable def sp94:Sp:=ownSp G0 ow 1 94 Tryz.f94
@[irreducible] noncomputable def sp96:Sp:=ownSp G0 ow 1 96 Tryz.f96
@[irreducible] noncomputable def sp146:Sp:=ownSp G0 ow 1 146 Tryz.f146
@[irreducible] noncomputable def sp148:Sp:=ownSp G0 ow 1 148 Tryz.f148
@[irreducible] noncomputable def sp152:Sp:=ownSp G0 ow 1 152 Tryz.f152
@[irreducible] noncomputable def sp189:Sp:=ownSp G0 ow 1 189 Tryz.f189
@[irreducible] noncomputable def sp190:Sp:=ownSp G0 ow 1 190 Tryz.f190
@[irreducible] noncomputable def sp228:Sp:=ownSp G0 ow 1 228 Tryz.f228
@[irreducible] noncomputable def sp241:Sp:=ownSp G0 ow 1 241 Tryz.f241
@[irreducible] noncomputable def sp242:Sp:=ownSp G0 ow 1 242 Tryz.f242
@[irreducible] noncomputable def sp255:Sp:=ownSp G0 ow 1 255 Tryz.f255
@[irreducible] noncomputable def sp258:Sp:=ownSp G0 ow 1 258 Tryz.f258
@[irreducible] noncomputable def sp260:Sp:=ownSp G0 ow 1 260 Tryz.f260
@[irreducible] noncomputable def sp264:Sp:=ownSp G0 ow 1 264 Tryz.f264
@[irreducible] noncomputable def sp270:Sp:=ownSp G0 ow 1 270 Tryz.f270
@[irreducible] noncomputable def sp320:Sp:=ownSp G0 ow 1 320 Tryz.f320
@[irreducible] noncomputable def sp322:Sp:=ownSp G0 ow 1 322 Tryz.f322
@[irreducible] noncomputable def sp323:Sp:=ownSp G0 ow 1 323 Tryz.f323
@[irreducible] noncomputable def sp324:Sp:=ownSp G0 ow 1 324 Tryz.f324
@[irreducible] noncomputable def sp325:Sp:=ownSp G0 ow 1 325 Tryz.f325
@[irreducible] noncomputable def sp332:Sp:=ownSp G0 ow 1 332 Tryz.f332
@[irreducible] noncomputable def sp347:Sp:=ownSp G0 ow 1 347 Tryz.f347
@[irreducible] noncomputable def sp348:Sp:=ownSp G0 ow 1 348 Tryz.f348
@[irreducible] noncomputable def sp401:Sp:=ownSp G0 ow 1 401 Tryz.f401
@[irreducible] noncomputable def sp404:Sp:=ownSp G0 ow 1 404 Tryz.f404
@[irreducible] noncomputable def sp405:Sp:=ownSp G0 ow 1 405 Tryz.f405
@[irreducible] noncomputable def sp407:Sp:=ownSp G0 ow 1 407 Tryz.f407
@[irreducible] noncomputable def sp409:Sp:=ownSp G0 ow 1 409 Tryz.f409
@[irreducible] noncomputable def sp413:Sp:=ownSp G0 ow 1 413 Tryz.f413
@[irreducible] noncomputable def sp453:Sp:=ownSp G0 ow 1 453 Tryz.f453
@[irreducible] noncomputable def sp68:Sp:=ownSp G0 ow 2 68 Tryz.f68
@[irreducible] noncomputable def sp90:Sp:=ownSp G0 ow 2 90 Tryz.f90
@[irreducible] noncomputable def sp95:Sp:=ownSp G0 ow 2 95 Tryz.f95
@[irreducible] noncomputable def sp134:Sp:=ownSp G0 ow 2 134 Tryz.f134
@[irreducible] noncomputable def sp169:Sp:=ownSp G0 ow 2 169 Tryz.f169
@[irreducible] noncomputable def sp229:Sp:=ownSp G0 ow 2 229 Tryz.f229
@[irreducible] noncomputable def sp262:Sp:=ownSp G0 ow 2 262 Tryz.f262
@[irreducible] noncomputable def sp266:Sp:=ownSp G0 ow 2 266 Tryz.f266
@[irreducible] noncomputable def sp331:Sp:=ownSp G0 ow 2 331 Tryz.f331
@[irreducible] noncomputable def sp337:Sp:=ownSp G0 ow 2 337 Tryz.f337
@[irreducible] noncomputable def sp411:Sp:=ownSp G0 ow 2 411 Tryz.f411
@[irreducible] noncomputable def sp40:Sp:=ownSp G0 ow 3 40 Tryz.f40
@[irreducible] noncomputable def sp65:Sp:=ownSp G0 ow 3 65 Tryz.f65
@[irreducible] noncomputable def sp67:Sp:=ownSp G0 ow 3 67 Tryz.f67
@[irreducible] noncomputable def sp84:Sp:=ownSp G0 ow 3 84 Tryz.f84
@[irreducible] noncomputable def sp135:Sp:=ownSp G0 ow 3 135 Tryz.f135
@[irreducible] noncomputable def sp164:Sp:=ownSp G0 ow 3 164 Tryz.f164
@[irreducible] noncomputable def sp186:Sp:=ownSp G0 ow 3 186 Tryz.f186
@[irreducible] noncomputable def sp240:Sp:=ownSp G0 ow 3 240 Tryz.f240
@[irreducible] noncomputable def sp326:Sp:=ownSp G0 ow 3 326 Tryz.f326
@[irreducible] noncomputable def sp350:Sp:=ownSp G0 ow 3 350 Tryz.f350
@[irreducible] noncomputable def sp352:Sp:=ownSp G0 ow 3 352 Tryz.f352
@[irreducible] noncomputable def sp9:Sp:=ownSp G0 ow 4 9 Tryz.f9
@[irreducible] noncomputable def sp32:Sp:=ownSp G0 ow 4 32 Tryz.f32
@[irreducible] noncomputable def sp71:Sp:=ownSp G0 ow 4 71 Tryz.f71
@[irreducible] noncomputable def sp88:Sp:=ownSp G0 ow 4 88 Tryz.f88
@[irreducible] noncomputable def sp144:Sp:=ownSp G0 ow 4 144 Tryz.f144
@[irreducible] noncomputable def sp145:Sp:=ownSp G0 ow 4 145 Tryz.f145
@[irreducible] noncomputable def sp182:Sp:=ownSp G0 ow 4 182 Tryz.f182
@[irreducible] noncomputable def sp245:Sp:=ownSp G0 ow 4 245 Tryz.f245
@[irreducible] noncomputable def sp246:Sp:=ownSp G0 ow 4 246 Tryz.f246
@[irreducible] noncomputable def sp259:Sp:=ownSp G0 ow 4 259 Tryz.f259
@[irreducible] noncomputable def sp261:Sp:=ownSp G0 ow 4 261 Tryz.f261
@[irreducible] noncomputable def sp267:Sp:=ownSp G0 ow 4 267 Tryz.f267
@[irreducible] noncomputable def sp268:Sp:=ownSp G0 ow 4 268 Tryz.f268
@[irreducible] noncomputable def sp321:Sp:=ownSp G0 ow 4 321 Tryz.f321
@[irreducible] noncomputable def sp336:Sp:=ownSp G0 ow 4 336 Tryz.f336
@[irreducible] noncomputable def sp353:Sp:=ownSp G0 ow 4 353 Tryz.f353
@[irreducible] noncomputable def sp412:Sp:=ownSp G0 ow 4 412 Tryz.f412
@[irreducible] noncomputable def sp66:Sp:=ownSp G0 ow 5 66 Tryz.f66
@[irreducible] noncomputable def sp91:Sp:=ownSp G0 ow 5 91 Tryz.f91
@[irreducible] noncomputable def sp150:Sp:=ownSp G0 ow 5 150 Tryz.f150
@[irreducible] noncomputable def sp166:Sp:=ownSp G0 ow 5 166 Tryz.f166
@[irreducible] noncomputable def sp170:Sp:=ownSp G0 ow 5 170 Tryz.f170
@[irreducible] noncomputable def sp216:Sp:=ownSp G0 ow 5 216 Tryz.f216
@[irreducible] noncomputable def sp244:Sp:=ownSp G0 ow 5 244 Tryz.f244
@[irreducible] noncomputable def sp265:Sp:=ownSp G0 ow 5 265 Tryz.f265
@[irreducible] noncomputable def sp273:Sp:=ownSp G0 ow 5 273 Tryz.f273
@[irreducible] noncomputable def sp329:Sp:=ownSp G0 ow 5 329 Tryz.f329
@[irreducible] noncomputable def sp330:Sp:=ownSp G0 ow 5 330 Tryz.f330
@[irreducible] noncomputable def sp334:Sp:=ownSp G0 ow 5 334 Tryz.f334
@[irreducible] noncomputable def sp340:Sp:=ownSp G0 ow 5 340 Tryz.f340
@[irreducible] noncomputable def sp342:Sp:=ownSp G0 ow 5 342 Tryz.f342
@[irreducible] noncomputable def sp344:Sp:=ownSp G0 ow 5 344 Tryz.f344
@[irreducible] noncomputable def sp345:Sp:=ownSp G0 ow 5 345 Tryz.f345
@[irreducible] noncomputable def sp346:Sp:=ownSp G0 ow 5 346 Tryz.f346
@[irreducible] noncomputable def sp349:Sp:=ownSp G0 ow 5 349 Tryz.f349
@[irreducible] noncomputable def sp403:Sp:=ownSp G0 ow 5 403 Tryz.f403
@[irreducible] noncomputable def sp408:Sp:=ownSp G0 ow 5 408 Tryz.f408
@[irreducible] noncomputable def sp410:Sp:=ownSp G0 ow 5 410 Tryz.f410
@[irreducible] noncomputable def sp70:Sp:=ownSp G0 ow 6 70 Tryz.f70
@[irreducible] noncomputable def sp149:Sp:=ownSp G0 ow 6 149 Tryz.f149
@[irreducible] noncomputable def sp183:Sp:=ownSp G0 ow 6 183 Tryz.f183
@[irreducible] noncomputable def sp184:Sp:=ownSp G0 ow 6 184 Tryz.f184
@[irreducible] noncomputable def sp217:Sp:=ownSp G0 ow 6 217 Tryz.f217
@[irreducible] noncomputable def sp254:Sp:=ownSp G0 ow 6 254 Tryz.f254
@[irreducible] noncomputable def sp338:Sp:=ownSp G0 ow 6 338 Tryz.f338
@[irreducible] noncomputable def sp343:Sp:=ownSp G0 ow 6 343 Tryz.f343
@[irreducible] noncomputable def sp406:Sp:=ownSp G0 ow 6 406 Tryz.f406
@[irreducible] noncomputable def sp69:Sp:=ownSp G0 ow 7 69 Tryz.f69
@[irreducible] noncomputable def sp87:Sp:=ownSp G0 ow 7 87 Tryz.f87
@[irreducible] noncomputable def sp130:Sp:=ownSp G0 ow 7 130 Tryz.f130
@[irreducible] noncomputable def sp157:Sp:=ownSp G0 ow 7 157 Tryz.f157
@[irreducible] noncomputable def sp162:Sp:=ownSp G0 ow 7 162 Tryz.f162
@[irreducible] noncomputable def sp163:Sp:=ownSp G0 ow 7 163 Tryz.f163
@[irreducible] noncomputable def sp165:Sp:=ownSp G0 ow 7 165 Tryz.f165
@[irreducible] noncomputable def sp249:Sp:=ownSp G0 ow 7 249 Tryz.f249
@[irreducible] noncomputable def sp251:Sp:=ownSp G0 ow 7 251 Tryz.f251
@[irreducible] noncomputable def sp252:Sp:=ownSp G0 ow 7 252 Tryz.f252
@[irreducible] noncomputable def sp253:Sp:=ownSp G0 ow 7 253 Tryz.f253
@[irreducible] noncomputable def sp256:Sp:=ownSp G0 ow 7 256 Tryz.f256
@[irreducible] noncomputable def sp263:Sp:=ownSp G0 ow 7 263 Tryz.f263
@[irreducible] noncomputable def sp333:Sp:=ownSp G0 ow 7 333 Tryz.f333
@[irreducible] noncomputable def sp402:Sp:=ownSp G0 ow 7 402 Tryz.f402
@[irreducible] noncomputable def sp33:Sp:=ownSp G0 ow 8 33 Tryz.f33
@[irreducible] noncomputable def sp39:Sp:=ownSp G0 ow 8 39 Tryz.f39
@[irreducible] noncomputable def sp159:Sp:=ownSp G0 ow 8 159 Tryz.f159
@[irreducible] noncomputable def sp161:Sp:=ownSp G0 ow 8 161 Tryz.f161
@[irreducible] noncomputable def sp250:Sp:=ownSp G0 ow 8 250 Tryz.f250
@[irreducible] noncomputable def sp327:Sp:=ownSp G0 ow 8 327 Tryz.f327
@[irreducible] noncomputable def sp328:Sp:=ownSp G0 ow 8 328 Tryz.f328
@[irreducible] noncomputable def sp335:Sp:=ownSp G0 ow 8 335 Tryz.f335
@[irreducible] noncomputable def sp339:Sp:=ownSp G0 ow 8 339 Tryz.f339
@[irreducible] noncomputable def sp17:Sp:=ownSp G0 ow 9 17 Tryz.f17
@[irreducible] noncomputable def sp19:Sp:=ownSp G0 ow 9 19 Tryz.f19
@[irreducible] noncomputable def sp247:Sp:=ownSp G0 ow 9 247 Tryz.f247
@[irreducible] noncomputable def sp248:Sp:=ownSp G0 ow 9 248 Tryz.f248
@[irreducible] noncomputable def sp257:Sp:=ownSp G0 ow 9 257 Tryz.f257
@[irreducible] noncomputable def sp27:Sp:=ownSp G0 ow 10 27 Tryz.f27
@[irreducible] noncomputable def sp15:Sp:=ownSp G0 ow 11 15 Tryz.f15
@[irreducible] noncomputable def sp18:Sp:=ownSp G0 ow 14 18 Tryz.f18
@[irreducible] noncomputable def sp8:Sp:=ownSp G0 ow 15 8 Tryz.f8
@[irreducible] noncomputable def sp25:Sp:=ownSp G0 ow 16 25 Tryz.f25
@[irreducible] noncomputable def sp14:Sp:=ownSp G0 ow 17 14 Tryz.f14
@[irreducible] noncomputable def sp7:Sp:=ownSp G0 ow 18 7 Tryz.f7
@[irreducible] noncomputable def sp5:Sp:=ownSp G0 ow 19 5 Tryz.f5
noncomputable def K_:List (Nat×Nat×List CT×Sp):=[(20,1,[.u8,.int AI],sp20),(36,1,[.u8,.int AI],sp36),(37,1,[.other,.other],sp37),(38,1,[.other,.other],sp38),(64,1,[.other,.int AI],sp64),(94,1,[.other,.int AI],sp94),(96,1,[.other,.other],sp96),(146,1,[.int AI],sp146),(148,1,[.sl 4,.str,.str,.int AI],sp148),(152,1,[.str,.str],sp152),(189,1,[.other,.int AI],sp189),(190,1,[.c4,.other],sp190),(228,1,[.int AI],sp228),(241,1,[.other,.other],sp241),(242,1,[.other,.other],sp242),(255,1,[.sl 7,.other],sp255),(258,1,[.int AI,.int AI],sp258),(260,1,[.other],sp260),(264,1,[.int AI,.int AI],sp264),(270,1,[.int AI,.int AI],sp270),(320,1,[.int AI,.int AI],sp320),(322,1,[.int AI,.int AI],sp322),(323,1,[.other,.other],sp323),(324,1,[.sl 5,.other,.int AI],sp324),(325,1,[.int AI,.int AI],sp325),(332,1,[.sl 1,.int AI],sp332),(347,1,[.int AI],sp347),(348,1,[.int AI],sp348),(401,1,[.other,.str,.str],sp401),(404,1,[.int AI],sp404),(405,1,[.sl 4,.str,.str],sp405),(407,1,[.other,.int AI,.other],sp407),(409,1,[.int AI],sp409),(413,1,[.int AI,.int AI],sp413),(453,1,[.other,.int AI,.other],sp453),(68,2,[.sl 13,.sl 2],sp68),(90,2,[.other,.u8],sp90),(95,2,[.other,.int AI],sp95),(134,2,[.int AI,.int AI,.int AI],sp134),(169,2,[.other],sp169),(229,2,[.int AI,.int AI],sp229),(262,2,[.other,.other],sp262),(266,2,[.sl 1,.int AI,.int AI],sp266),(331,2,[.int AI,.int AI,.sl 1],sp331),(337,2,[.other,.int AI,.int AI],sp337),(411,2,[.other,.int AI],sp411),(40,3,[.other,.int AI,.int AI,.u8,.int AI],sp40),(65,3,[.int AI,.int AI],sp65),(67,3,[.sl 4],sp67),(84,3,[.other,.u8,.int AI],sp84),(135,3,[.int AI,.int AI,.int AI,.int AI],sp135),(164,3,[.sl 1,.int AI,.int AI],sp164),(186,3,[.int AI,.int AT,.c4],sp186),(240,3,[.other],sp240),(326,3,[.other,.sl 4],sp326),(350,3,[.other,.int AI],sp350),(352,3,[.other,.str,.str,.int AI,.int AI,.int AI,.int AI],sp352),(9,4,[.other,.other],sp9),(32,4,[.other],sp32),(71,4,[.sl 13,.sl 4,.sl 31,.sl 10],sp71),(88,4,[.other],sp88),(144,4,[.other],sp144),(145,4,[.other],sp145),(182,4,[.other,.u8,.int AI],sp182),(245,4,[.other],sp245),(246,4,[.sl 5],sp246),(259,4,[.other],sp259),(261,4,[.other,.other,.int AI],sp261),(267,4,[.other,.str,.str,.int AI],sp267),(268,4,[.other,.str,.str,.int AI],sp268),(321,4,[.other],sp321),(336,4,[.int AI,.int AI],sp336),(353,4,[.other],sp353),(412,4,[.other,.bool],sp412),(66,5,[.sl 13],sp66),(91,5,[.other,.other,.other,.other],sp91),(150,5,[.other],sp150),(166,5,[.other,.other,.other,.int AI,.int AI,.int AI,.int AT],sp166),(170,5,[.other],sp170),(216,5,[.c4,.int AI,.int AT],sp216),(244,5,[.other,.int AI,.int AI,.bool],sp244),(265,5,[.other,.other,.int AT],sp265),(273,5,[.other,.bool],sp273),(329,5,[.other,.int AI,.int AI,.bool],sp329),(330,5,[.other,.sl 4,.str,.str,.int AI],sp330),(334,5,[.other,.other,.int AT],sp334),(340,5,[.other],sp340),(342,5,[.c4],sp342),(344,5,[.c4],sp344),(345,5,[.other,.other],sp345),(346,5,[.c4,.bool],sp346),(349,5,[.other,.bool],sp349),(403,5,[.other,.other,.int AI,.int AI],sp403),(408,5,[.int AI,.other,.int AT],sp408),(410,5,[.other,.int AI,.int AT],sp410),(70,6,[.sl 2,.sl 10],sp70),(149,6,[.other],sp149),(183,6,[.other,.int AT],sp183),(184,6,[.other,.bool,.int AT],sp184),(217,6,[.c4,.bool],sp217),(254,6,[.other,.int AT,.c4],sp254),(338,6,[.other,.int AI,.int AI,.int AI,.c4],sp338),(343,6,[.c4,.int AI,.bool],sp343),(406,6,[.int AI,.str,.int AI,.other,.other,.int AT],sp406),(69,7,[.sl 2,.sl 31],sp69),(87,7,[.other,.other,.other,.other,.bool],sp87),(130,7,[.c4,.bool,.int AT],sp130),(157,7,[.other,.int AI,.int AI],sp157),(162,7,[.other,.int AT,.int AI,.int AI],sp162),(163,7,[.other,.other,.int AI,.int AI],sp163),(165,7,[.other,.int AT,.int AT,.int AI],sp165),(249,7,[.other,.int AI,.c4],sp249),(251,7,[.other,.int AT,.c4,.int AI],sp251),(252,7,[.other,.c4],sp252),(253,7,[.other,.other,.int AT,.c4],sp253),(256,7,[.other,.other,.c4],sp256),(263,7,[.other,.other,.bool,.int AI,.int AI,.int AI],sp263),(333,7,[.other,.other,.other,.int AI,.bool,.int AI,.int AI,.int AT,.int AT,.int AT,.int AI],sp333),(402,7,[.c4,.int AT],sp402),(33,8,[.sl 13,.sl 4,.sl 2,.sl 31,.sl 10],sp33),(39,8,[.other,.other],sp39),(159,8,[.other,.other,.int AI,.int AI,.int AI],sp159),(161,8,[.other,.other,.bool,.int AI,.int AI,.int AI],sp161),(250,8,[.other,.sl 4,.int AI,.int AI,.bool,.int AT,.c4],sp250),(327,8,[.other,.other,.int AI,.int AI],sp327),(328,8,[.other,.other,.int AI,.int AI,.bool],sp328),(335,8,[.other,.int AI,.int AI,.int AI,.int AT,.other],sp335),(339,8,[.other,.int AI,.int AI,.int AI,.int AI,.int AT,.other,.c4],sp339),(17,9,[.other],sp17),(19,9,[.other,.other],sp19),(247,9,[.other,.sl 4,.other,.int AI,.int AI,.bool,.int AT,.c4],sp247),(248,9,[.other,.int AI,.int AI,.int AI,.int AT,.c4],sp248),(257,9,[.other,.c4,.int AI,.int AI],sp257),(27,10,[.other,.other,.sl 4],sp27),(15,11,[.sl 51,.sl 4,.int AI],sp15),(18,14,[.other,.other],sp18),(8,15,[.other,.sl 6],sp8),(25,16,[.other,.other,.sl 4],sp25),(14,17,[.sl 51,.sl 4,.int AI],sp14),(7,18,[],sp7),(5,19,[.other,.sl 6,.other,.int AI,.u8],sp5)]++acZ
noncomputable def G:iT:={ G0 with uw:=λf=>look f K_ }
set_option maxRecDepth 100000
theorem JS{G:iT}{o:QQ}{f:Nat}{B:List (Nat×Nat×List CT×Sp)}:∀ L:List (Nat×Nat×List CT×Func),look f (L.map (λe=>(e.1,e.2.1,e.2.2.1,ownSp G o e.2.1 e.1 e.2.2.2))++B)=match look f L with | some x=>Zx (x.1,x.2.1,ownSp G o x.1 f x.2.2) | none=>look f B
 | []=>rfl
 | (j,k,c,fn)::r=>by
  simp only[List.map_cons,List.cons_append,look];cases h:Nat.beq j f with
  | false=>simp only[Qa7];exact JS r
  | true =>
   have e:j=f:=Nat.eq_of_beq_eq_true h;subst e;simp only[Qa6]
theorem UT:K_=YH.map (λe=>(e.1,e.2.1,e.2.2.1,ownSp G0 ow e.2.1 e.1 e.2.2.2))++acZ:=by kernel_rfl
theorem eK:G=G0.full ow:=by
 have h:(λf=>look f K_)=λf=>match ow f with | some x=>Zx (x.1,x.2.1,ownSp G0 ow x.1 f x.2.2) | none=>G0.uw f:=by
  funext f;rw[UT];exact JS YH
 show({ G0 with uw:=λf=>look f K_ }:iT)=_;rw[h];rfl
end
abbrev Wk(f k:Nat)(s:Sp):Prop:=z9 Tryz.prog G f k s
abbrev Rb:=Option (AV×aO)
theorem jI{a c:Rb}(b:Rb)(g:b=c)(h:a=b:=by kernel_rfl):a=c:=h.trans g
theorem Fh{E:Env}{rts:Nat->Option (List Nat)}{own:Bool}{fn:Func}{xs:List AV}{bl:List (Nat×List AV)}{c:Rb}(hand:List Nat)(b:Rb)(g:b=c)(e:bl.map (·.1)=hand:=by rfl)(h:rV E rts own fn xs bl hand=b:=by kernel_rfl):sX E rts own fn xs bl=c:=by
 subst e;exact h.trans g
theorem ja{b:Bool}{v r:AV×aO}(h:ax b (Zx v)=Zx r):b=Yp/\v=r:=by
 cases b
 .cases h
 .cases h;exact⟨rfl,rfl⟩
theorem YE : (Tryz.prog.funcs.all λfn => fn.name != "runtime.NumGoroutine") = Yp := by kernel_rfl
theorem g8{f k:Nat}{s:Sp}{fn:Func}(h1:Tryz.prog.funcs[f]? = Option.some fn)(h:∀ xs bl r,s xs bl=Option.some r->sX (G.env f k) G.rts (G.own f) fn xs bl=Option.some r)(h2:G.rts f=Option.some fn.resultTypes.toList:=by rfl):Wk f k s :=
 ⟨fn,h1,λe=>by
  have h0:=YE;rw[Array.all_eq_true_iff_forall_mem] at h0;have:=h0 fn (Array.mem_of_getElem? h1);rw[e] at this;simp at this,h2,h⟩
end Go.Proofs.YtledffmjoegdeaaGreat
