/- The table of functions of this seat. -/
import Derived.Test.YtpelamlfpffacaaGreatAbsFinS
import Derived.Test.YtpelamlfpffacaaGreatProg
set_option linter.all false
open Decidable renaming decide→Zz
open Option renaming none→Zy,some→Zx
open Bool renaming false→Zw,true→Zn
open Kerb renaming get→Zv,da→Zu,kn→Zq,cf→Zj,cZ→Zk,cW→Zp,bm→Zd,bV→Zf,bytes→Zg,bj→Zb
namespace Go.Proofs.YtpelamlfpffacaaGreat
open Go Go.Abs
noncomputable section
abbrev Sp:=Abs.Spec
def cc:Option TI:=Zx ⟨1,8,.other,[.so],[.other],[]⟩
def ti1:Option TI:=Zx ⟨1,8,.int .i64,[.int .i64 0],[.int .i64],[.int .i64]⟩
def ti2:Option TI:=Zx ⟨1,1,.u8,[.u8 0],[.u8],[.u8]⟩
def ti3:Option TI:=Zx ⟨1,8,.int .u64,[.int .u64 0],[.int .u64],[.int .u64]⟩
def ti4:Option TI:=Zx ⟨1,8,.struct [(0,17)],[.mh],[.ptr],[]⟩
def ti5:Option TI:=Zx ⟨1,4,.int .i32,[.int .i32 0],[.int .i32],[.int .i32]⟩
def ti6:Option TI:=Zx ⟨10,10,.struct [(0,22),(5,5),(6,5),(7,5),(8,5),(9,5)],[.u8 0,.u8 0,.u8 0,.u8 0,.u8 0,.u8 0,.u8 0,.u8 0,.u8 0,.u8 0],[.u8,.u8,.u8,.u8,.u8,.u8,.u8,.u8,.u8,.u8],[]⟩
def ti7:Option TI:=Zx ⟨4,6,.struct [(0,5),(1,5),(2,5),(3,26)],[.u8 0,.u8 0,.u8 0,.int .u16 0],[.u8,.u8,.u8,.int .u16],[.u8,.u8,.u8,.int .u16]⟩
def ti8:Option TI:=Zx ⟨2,48,.struct [(0,36),(1,37)],[.bY,.bY],[.sl 1,.sl 1],[]⟩
def ti9:Option TI:=Zx ⟨12,256,.struct [(0,30),(1,31),(2,32),(3,33),(4,34),(5,35),(6,39),(8,36),(9,3),(10,40),(11,3)],[.bY,.bY,.bY,.bY,.bY,.bY,.bY,.bY,.bY,.int .i64 0,.bY,.int .i64 0],[.sl 13,.sl 4,.sl 2,.sl 31,.sl 10,.sl 4,.sl 1,.sl 1,.sl 1,.int .i64,.sl 51,.int .i64],[]⟩
def acL:Option TI:=Zx ⟨4,48,.struct [(0,3),(1,3),(2,47),(3,4)],[.int .i64 0,.int .i64 0,.bY,.bool Zw],[.int .i64,.int .i64,.sl 1,.bool],[]⟩
def acM:Option TI:=Zx ⟨3,48,.struct [(0,9),(1,9),(2,9)],[.str [],.str [],.str []],[.str,.str,.str],[.str,.str,.str]⟩
def acN:Option TI:=Zx ⟨16,216,.struct [(0,3),(1,61),(4,61),(7,61),(10,55),(11,55),(12,55),(13,62),(14,3),(15,3)],[.int .i64 0,.str [],.str [],.str [],.str [],.str [],.str [],.str [],.str [],.str [],.int .u64 0,.int .u64 0,.int .u64 0,.bY,.int .i64 0,.int .i64 0],[.int .i64,.str,.str,.str,.str,.str,.str,.str,.str,.str,.int .u64,.int .u64,.int .u64,.eL,.int .i64,.int .i64],[]⟩
def acO:Option TI:=Zx ⟨8,104,.struct [(0,61),(3,55),(4,3),(5,3),(6,3),(7,62)],[.str [],.str [],.str [],.int .u64 0,.int .i64 0,.int .i64 0,.int .i64 0,.bY],[.str,.str,.str,.int .u64,.int .i64,.int .i64,.int .i64,.eL],[]⟩
def acP:Option TI:=Zx ⟨6,72,.struct [(0,61),(3,3),(4,3),(5,3)],[.str [],.str [],.str [],.int .i64 0,.int .i64 0,.int .i64 0],[.str,.str,.str,.int .i64,.int .i64,.int .i64],[.str,.str,.str,.int .i64,.int .i64,.int .i64]⟩
def acQ:Option TI:=Zx ⟨12,152,.struct [(0,61),(3,55),(4,3),(5,3),(6,3),(7,3),(8,3),(9,3),(10,62),(11,62)],[.str [],.str [],.str [],.int .u64 0,.int .i64 0,.int .i64 0,.int .i64 0,.int .i64 0,.int .i64 0,.int .i64 0,.bY,.bY],[.str,.str,.str,.int .u64,.int .i64,.int .i64,.int .i64,.int .i64,.int .i64,.int .i64,.eL,.eL],[]⟩
def acR:Option TI:=Zx ⟨51,656,.struct [(0,3),(1,3),(2,61),(5,3),(6,3),(7,64),(23,66),(31,68),(37,62),(38,70),(50,55)],[.int .i64 0,.int .i64 0,.str [],.str [],.str [],.int .i64 0,.int .i64 0,.int .i64 0,.str [],.str [],.str [],.str [],.str [],.str [],.str [],.str [],.str [],.int .u64 0,.int .u64 0,.int .u64 0,.bY,.int .i64 0,.int .i64 0,.str [],.str [],.str [],.int .u64 0,.int .i64 0,.int .i64 0,.int .i64 0,.bY,.str [],.str [],.str [],.int .i64 0,.int .i64 0,.int .i64 0,.bY,.str [],.str [],.str [],.int .u64 0,.int .i64 0,.int .i64 0,.int .i64 0,.int .i64 0,.int .i64 0,.int .i64 0,.bY,.bY,.int .u64 0],[.int .i64,.int .i64,.str,.str,.str,.int .i64,.int .i64,.int .i64,.str,.str,.str,.str,.str,.str,.str,.str,.str,.int .u64,.int .u64,.int .u64,.eL,.int .i64,.int .i64,.str,.str,.str,.int .u64,.int .i64,.int .i64,.int .i64,.eL,.str,.str,.str,.int .i64,.int .i64,.int .i64,.eL,.str,.str,.str,.int .u64,.int .i64,.int .i64,.int .i64,.int .i64,.int .i64,.int .i64,.eL,.eL,.int .u64],[]⟩
def acS:Option TI:=Zx ⟨6,64,.struct [(0,3),(1,3),(2,3),(3,3),(4,3),(5,62)],[.int .i64 0,.int .i64 0,.int .i64 0,.int .i64 0,.int .i64 0,.bY],[.int .i64,.int .i64,.int .i64,.int .i64,.int .i64,.eL],[]⟩
def acT:Option TI:=Zx ⟨6,8,.struct [(0,5),(1,5),(2,5),(3,5),(4,5),(5,26)],[.u8 0,.u8 0,.u8 0,.u8 0,.u8 0,.int .u16 0],[.u8,.u8,.u8,.u8,.u8,.int .u16],[.u8,.u8,.u8,.u8,.u8,.int .u16]⟩
def acU:Option TI:=Zx ⟨3,40,.struct [(0,3),(1,55),(2,62)],[.int .i64 0,.int .u64 0,.bY],[.int .i64,.int .u64,.eL],[]⟩
def acV:Option TI:=Zx ⟨5,120,.struct [(0,30),(1,31),(2,32),(3,33),(4,34)],[.bY,.bY,.bY,.bY,.bY],[.sl 13,.sl 4,.sl 2,.sl 31,.sl 10],[]⟩
def acW:Option TI:=Zx ⟨4,48,.struct [(0,3),(1,3),(2,62),(3,4)],[.int .i64 0,.int .i64 0,.bY,.bool Zw],[.int .i64,.int .i64,.eL,.bool],[]⟩
def acX:Option TI:=Zx ⟨2,40,.struct [(0,9),(1,130)],[.str [],.bY],[.str,.sl 9],[]⟩
def acY:Option TI:=Zx ⟨9,88,.struct [(0,9),(1,9),(2,55),(3,3),(4,3),(5,3),(6,3),(7,3),(8,3)],[.str [],.str [],.int .u64 0,.int .i64 0,.int .i64 0,.int .i64 0,.int .i64 0,.int .i64 0,.int .i64 0],[.str,.str,.int .u64,.int .i64,.int .i64,.int .i64,.int .i64,.int .i64,.int .i64],[.str,.str,.int .u64,.int .i64,.int .i64,.int .i64,.int .i64,.int .i64,.int .i64]⟩
def acZ:Option TI:=Zx ⟨3,40,.struct [(0,3),(1,3),(2,137)],[.int .i64 0,.int .i64 0,.bY],[.int .i64,.int .i64,.sl 5],[]⟩
def ac0:Option TI:=Zx ⟨8,120,.struct [(0,61),(3,136),(4,139),(7,3)],[.str [],.str [],.str [],.bY,.int .i64 0,.int .i64 0,.bY,.int .i64 0],[.str,.str,.str,.sl 5,.int .i64,.int .i64,.sl 5,.int .i64],[]⟩
def ac1:Option TI:=Zx ⟨13,184,.struct [(0,132),(2,141),(10,3),(11,3),(12,4)],[.str [],.bY,.str [],.str [],.str [],.bY,.int .i64 0,.int .i64 0,.bY,.int .i64 0,.int .i64 0,.int .i64 0,.bool Zw],[.str,.sl 9,.str,.str,.str,.sl 5,.int .i64,.int .i64,.sl 5,.int .i64,.int .i64,.int .i64,.bool],[]⟩
def ac2:Option TI:=Zx ⟨4,48,.struct [(0,9),(1,9),(2,3),(3,55)],[.str [],.str [],.int .i64 0,.int .u64 0],[.str,.str,.int .i64,.int .u64],[.str,.str,.int .i64,.int .u64]⟩
def ac3:Option TI:=Zx ⟨2,16,.struct [(0,3),(1,3)],[.int .i64 0,.int .i64 0],[.int .i64,.int .i64],[.int .i64,.int .i64]⟩
def ac4:Option TI:=Zx ⟨4,72,.struct [(0,61),(3,149)],[.str [],.str [],.str [],.bY],[.str,.str,.str,.sl 8],[]⟩
def ac6:Option TI:=Zx ⟨19,240,.struct [(0,61),(3,3),(4,3),(5,4),(6,151),(10,3),(11,61),(14,55),(15,3),(16,3),(17,3),(18,3)],[.str [],.str [],.str [],.int .i64 0,.int .i64 0,.bool Zw,.str [],.str [],.str [],.bY,.int .i64 0,.str [],.str [],.str [],.int .u64 0,.int .i64 0,.int .i64 0,.int .i64 0,.int .i64 0],[.str,.str,.str,.int .i64,.int .i64,.bool,.str,.str,.str,.sl 8,.int .i64,.str,.str,.str,.int .u64,.int .i64,.int .i64,.int .i64,.int .i64],[]⟩
def ac7:Option TI:=Zx ⟨9,96,.struct [(0,3),(1,3),(2,3),(3,3),(4,61),(7,55),(8,55)],[.int .i64 0,.int .i64 0,.int .i64 0,.int .i64 0,.str [],.str [],.str [],.int .u64 0,.int .u64 0],[.int .i64,.int .i64,.int .i64,.int .i64,.str,.str,.str,.int .u64,.int .u64],[.int .i64,.int .i64,.int .i64,.int .i64,.str,.str,.str,.int .u64,.int .u64]⟩
def ac8:Option TI:=Zx ⟨31,376,.struct [(0,3),(1,55),(2,153),(21,155),(30,156)],[.int .i64 0,.int .u64 0,.str [],.str [],.str [],.int .i64 0,.int .i64 0,.bool Zw,.str [],.str [],.str [],.bY,.int .i64 0,.str [],.str [],.str [],.int .u64 0,.int .i64 0,.int .i64 0,.int .i64 0,.int .i64 0,.int .i64 0,.int .i64 0,.int .i64 0,.int .i64 0,.str [],.str [],.str [],.int .u64 0,.int .u64 0,.bY],[.int .i64,.int .u64,.str,.str,.str,.int .i64,.int .i64,.bool,.str,.str,.str,.sl 8,.int .i64,.str,.str,.str,.int .u64,.int .i64,.int .i64,.int .i64,.int .i64,.int .i64,.int .i64,.int .i64,.int .i64,.str,.str,.str,.int .u64,.int .u64,.sl 7],[]⟩
def ac9:Option TI:=Zx ⟨5,64,.struct [(0,61),(3,3),(4,55)],[.str [],.str [],.str [],.int .i64 0,.int .u64 0],[.str,.str,.str,.int .i64,.int .u64],[.str,.str,.str,.int .i64,.int .u64]⟩
def ac_:Option TI:=Zx ⟨10,152,.struct [(0,3),(1,141),(9,161)],[.int .i64 0,.str [],.str [],.str [],.bY,.int .i64 0,.int .i64 0,.bY,.int .i64 0,.bY],[.int .i64,.str,.str,.str,.sl 5,.int .i64,.int .i64,.sl 5,.int .i64,.sl 12],[]⟩
def ac':Option TI:=Zx ⟨4,56,.struct [(0,55),(1,61)],[.int .u64 0,.str [],.str [],.str []],[.int .u64,.str,.str,.str],[.int .u64,.str,.str,.str]⟩
def ada:Option TI:=Zx ⟨6,80,.struct [(0,4),(1,4),(2,3),(3,9),(4,62),(5,62)],[.bool Zw,.bool Zw,.int .i64 0,.str [],.bY,.bY],[.bool,.bool,.int .i64,.str,.eL,.eL],[]⟩
def adb:Option TI:=Zx ⟨10,128,.struct [(0,178),(6,3),(7,3),(8,9),(9,9)],[.bool Zw,.bool Zw,.int .i64 0,.str [],.bY,.bY,.int .i64 0,.int .i64 0,.str [],.str []],[.bool,.bool,.int .i64,.str,.eL,.eL,.int .i64,.int .i64,.str,.str],[]⟩
def ade:Option TI:=Zx ⟨8,104,.struct [(0,4),(1,61),(4,3),(5,3),(6,3),(7,62)],[.bool Zw,.str [],.str [],.str [],.int .i64 0,.int .i64 0,.int .i64 0,.bY],[.bool,.str,.str,.str,.int .i64,.int .i64,.int .i64,.eL],[]⟩
def adf:Option TI:=Zx ⟨7,88,.struct [(0,4),(1,61),(4,3),(5,100),(6,9)],[.bool Zw,.str [],.str [],.str [],.int .i64 0,.int .i64 0,.str []],[.bool,.str,.str,.str,.int .i64,.int .i64,.str],[.bool,.str,.str,.str,.int .i64,.int .i64,.str]⟩
def adg:Option TI:=Zx ⟨5,80,.struct [(0,3),(1,61),(4,62)],[.int .i64 0,.str [],.str [],.str [],.bY],[.int .i64,.str,.str,.str,.eL],[]⟩
def adh:Option TI:=Zx ⟨10,160,.struct [(0,3),(1,61),(4,3),(5,9),(6,62),(7,9),(8,9),(9,62)],[.int .i64 0,.str [],.str [],.str [],.int .i64 0,.str [],.bY,.str [],.str [],.bY],[.int .i64,.str,.str,.str,.int .i64,.str,.eL,.str,.str,.eL],[]⟩
def adi:Option TI:=Zx ⟨3,40,.struct [(0,3),(1,100),(2,62)],[.int .i64 0,.int .i64 0,.bY],[.int .i64,.int .i64,.eL],[]⟩
def adj:Option TI:=Zx ⟨2,48,.struct [(0,39)],[.bY,.bY],[.sl 1,.sl 1],[]⟩
def adk:Option TI:=Zx ⟨3,56,.struct [(0,209),(2,210)],[.bY,.bY,.ze],[.sl 1,.sl 1,.other],[]⟩
def adl:Option TI:=Zx ⟨7,96,.struct [(0,61),(3,55),(4,3),(5,3),(6,62)],[.str [],.str [],.str [],.int .u64 0,.int .i64 0,.int .i64 0,.bY],[.str,.str,.str,.int .u64,.int .i64,.int .i64,.eL],[]⟩
def adn:Option TI:=Zx ⟨10,120,.struct [(0,4),(1,61),(4,3),(5,55),(6,3),(7,3),(8,9),(9,9)],[.bool Zw,.str [],.str [],.str [],.int .i64 0,.int .u64 0,.int .i64 0,.int .i64 0,.str [],.str []],[.bool,.str,.str,.str,.int .i64,.int .u64,.int .i64,.int .i64,.str,.str],[.bool,.str,.str,.str,.int .i64,.int .u64,.int .i64,.int .i64,.str,.str]⟩
def ado:Option TI:=Zx ⟨10,128,.struct [(0,61),(3,61),(6,55),(7,3),(8,3),(9,3)],[.str [],.str [],.str [],.str [],.str [],.str [],.int .u64 0,.int .i64 0,.int .i64 0,.int .i64 0],[.str,.str,.str,.str,.str,.str,.int .u64,.int .i64,.int .i64,.int .i64],[.str,.str,.str,.str,.str,.str,.int .u64,.int .i64,.int .i64,.int .i64]⟩
def adp:Option TI:=Zx ⟨5,64,.struct [(0,61),(3,3),(4,3)],[.str [],.str [],.str [],.int .i64 0,.int .i64 0],[.str,.str,.str,.int .i64,.int .i64],[.str,.str,.str,.int .i64,.int .i64]⟩
def adq:Option TI:=Zx ⟨8,104,.struct [(0,4),(1,61),(4,3),(5,3),(6,9),(7,9)],[.bool Zw,.str [],.str [],.str [],.int .i64 0,.int .i64 0,.str [],.str []],[.bool,.str,.str,.str,.int .i64,.int .i64,.str,.str],[.bool,.str,.str,.str,.int .i64,.int .i64,.str,.str]⟩
def ads:Option TI:=Zx ⟨5,48,.struct [(0,9),(1,3),(2,3),(3,3),(4,55)],[.str [],.int .i64 0,.int .i64 0,.int .i64 0,.int .u64 0],[.str,.int .i64,.int .i64,.int .i64,.int .u64],[.str,.int .i64,.int .i64,.int .i64,.int .u64]⟩
def adt:Option TI:=Zx ⟨7,96,.struct [(0,55),(1,61),(4,3),(5,3),(6,62)],[.int .u64 0,.str [],.str [],.str [],.int .i64 0,.int .i64 0,.bY],[.int .u64,.str,.str,.str,.int .i64,.int .i64,.eL],[]⟩
def adu:Option TI:=Zx ⟨8,104,.struct [(0,55),(1,61),(4,3),(5,3),(6,62),(7,3)],[.int .u64 0,.str [],.str [],.str [],.int .i64 0,.int .i64 0,.bY,.int .i64 0],[.int .u64,.str,.str,.str,.int .i64,.int .i64,.eL,.int .i64],[]⟩
def adv:Option TI:=Zx ⟨10,128,.struct [(0,9),(1,3),(2,55),(3,3),(4,3),(5,3),(6,61),(9,62)],[.str [],.int .i64 0,.int .u64 0,.int .i64 0,.int .i64 0,.int .i64 0,.str [],.str [],.str [],.bY],[.str,.int .i64,.int .u64,.int .i64,.int .i64,.int .i64,.str,.str,.str,.eL],[]⟩
def adw:Option TI:=Zx ⟨3,24,.struct [(0,3),(1,3),(2,3)],[.int .i64 0,.int .i64 0,.int .i64 0],[.int .i64,.int .i64,.int .i64],[.int .i64,.int .i64,.int .i64]⟩
def Ub:Option TI:=Zx ⟨3,40,.struct [(0,62),(1,3),(2,4)],[.bY,.int .i64 0,.bool Zw],[.eL,.int .i64,.bool],[]⟩
def adx:Option TI:=Zx ⟨4,40,.struct [(0,62),(1,3),(2,4),(3,4)],[.bY,.int .i64 0,.bool Zw,.bool Zw],[.eL,.int .i64,.bool,.bool],[]⟩
def YU:List (Option TI):=[
 Zy,cc,ti1,ti1,Zx ⟨1,1,.bool,[.bool Zw],[.bool],[.bool]⟩,ti2,ti2,Zx ⟨4,24,.struct [(0,2),(1,3),(2,4),(3,6)],[.int .i64 0,.int .i64 0,.bool Zw,.u8 0],[.int .i64,.int .i64,.bool,.u8],[.int .i64,.int .i64,.bool,.u8]⟩,Zy,Zx ⟨1,16,.str,[.str []],[.str],[.str]⟩,Zy,Zy,ti3,Zy,Zy,Zx ⟨1,8,.ptr 507,[.mh],[.ptr],[]⟩,Zx ⟨1,8,.ptr 510,[.mh],[.ptr],[]⟩,Zx ⟨1,8,.ptr 518,[.mh],[.ptr],[]⟩,ti4,ti4,Zy,ti5,Zx ⟨5,5,.dp 5 5 Zn,[.u8 0,.u8 0,.u8 0,.u8 0,.u8 0],[.u8,.u8,.u8,.u8,.u8],[]⟩,ti6,ti6,Zx ⟨1,24,.slice 79 Zw,[.bY],[.sl 6],[]⟩,Zx ⟨1,2,.int .u16,[.int .u16 0],[.int .u16],[.int .u16]⟩,ti7,ti7,cc,Zx ⟨1,24,.slice 143 Zw,[.bY],[.sl 13],[]⟩,Zx ⟨1,24,.slice 146 Zw,[.bY],[.sl 4],[]⟩,Zx ⟨1,24,.slice 148 Zw,[.bY],[.sl 2],[]⟩,Zx ⟨1,24,.slice 158 Zw,[.bY],[.sl 31],[]⟩,Zx ⟨1,24,.slice 163 Zw,[.bY],[.sl 10],[]⟩,Zx ⟨1,24,.slice 120 Zw,[.bY],[.sl 4],[]⟩,Zx ⟨1,24,.slice 55 Zw,[.bY],[.sl 1],[]⟩,Zx ⟨1,24,.slice 62 Zw,[.bY],[.sl 1],[]⟩,ti8,ti8,Zx ⟨1,24,.slice 72 Zw,[.bY],[.sl 51],[]⟩,ti9,ti9,cc,cc,cc,cc,Zx ⟨1,24,.slice 3 Zw,[.bY],[.sl 1],[]⟩,cc,Zx ⟨1,24,.slice 52 Zw,[.bY],[.sl 4],[]⟩,cc,acL,acL,cc,ti3,ti3,cc,cc,cc,cc,acM,acM,Zx ⟨1,24,.slice 5 Zn,[.bY],[.eL],[]⟩,acN,acN,acO,acO,acP,acP,acQ,acQ,acR,acR,cc,Zy,cc,acS,acS,acT,acT,cc,cc,cc,cc,cc,cc,cc,cc,cc,cc,cc,cc,cc,cc,cc,cc,cc,cc,acU,acU,ti1,Zy,cc,acV,acV,cc,Zy,cc,cc,cc,cc,cc,cc,ti3,Zx ⟨1,24,.slice 9 Zw,[.bY],[.sl 1],[]⟩,cc,Zy,cc,cc,acW,acW,cc,cc,cc,cc,cc,Zy,cc,cc,cc,Zx ⟨1,24,.slice 135 Zw,[.bY],[.sl 9],[]⟩,acX,acX,Zx ⟨1,24,.slice 61 Zw,[.bY],[.sl 3],[]⟩,acY,acY,Zx ⟨1,24,.slice 160 Zw,[.bY],[.sl 5],[]⟩,Zx ⟨1,24,.slice 293 Zw,[.bY],[.sl 5],[]⟩,acZ,acZ,ac0,ac0,ac1,ac1,cc,ac2,ac2,ac3,ac3,Zx ⟨1,24,.slice 66 Zw,[.bY],[.sl 8],[]⟩,ac4,ac4,ac6,ac6,ac7,ac7,Zx ⟨1,24,.slice 253 Zw,[.bY],[.sl 7],[]⟩,ac8,ac8,ac9,ac9,Zx ⟨1,24,.slice 70 Zw,[.bY],[.sl 12],[]⟩,ac_,ac_,cc,cc,cc,cc,cc,Zx ⟨1,24,.slice 172 Zw,[.bY],[.sl 4],[]⟩,cc,ac',ac',cc,Zy,cc,cc,ada,ada,cc,adb,adb,cc,ade,ade,cc,cc,adf,adf,cc,cc,adg,adg,cc,cc,adh,adh,cc,adi,adi,cc,cc,cc,cc,Zx ⟨1,8,.ptr 212,[.mh],[.ptr],[]⟩,cc,cc,cc,adj,adj,Zx ⟨1,8,.map 3 4,[.ze],[.other],[]⟩,adk,adk,cc,cc,Zx ⟨1,24,.slice 36 Zw,[.bY],[.sl 1],[]⟩,cc,cc,cc,cc,cc,cc,cc,cc,cc,cc,cc,cc,Zy,cc,cc,cc,cc,Zy,cc,Zy,cc,cc,Zy,cc,cc,cc,Zy,cc,cc,cc,cc,Zy,cc,cc,cc,cc,adl,adl,cc,cc,cc,cc,cc,cc,cc,cc,cc,adn,adn,cc,cc,ado,ado,cc,cc,cc,cc,cc,cc,Zx ⟨1,8,.ptr 209,[.mh],[.ptr],[]⟩,Zy,cc,cc,ti1,Zy,cc,cc,cc,cc,cc,cc,Zx ⟨1,4,.int .u32,[.int .u32 0],[.int .u32],[.int .u32]⟩,cc,cc,cc,cc,adp,adp,cc,cc,Zy,cc,cc,cc,cc,Zy,cc,Zy,cc,Zy,cc,Zy,cc,Zy,cc,cc,Zy,cc,cc,Zy,cc,Zy,cc,cc,cc,Zy,cc,cc,adq,adq,cc,Zy,cc,cc,Zy,cc,cc,cc,ads,ads,cc,Zy,cc,cc,cc,adt,adt,cc,cc,cc,cc,cc,Zy,cc,cc,Zy,cc,Zy,cc,Zy,cc,Zy,cc,Zy,cc,Zy,cc,ti3,cc,cc,cc,Zx ⟨1,8,.ptr 3,[.mh],[.ptr],[]⟩,cc,Zy,cc,Zy,cc,cc,Zy,cc,adu,adu,Zy,cc,Zy,cc,adv,adv,Zy,cc,Zy,cc,Zy,cc,cc,Zy,cc,cc,cc,Zy,cc,cc,cc,Zy,cc,Zy,cc,cc,cc,cc,cc,cc,cc,Zy,cc,cc,Zy,cc,Zy,cc,cc,cc,adw,adw,Zy,cc,cc,cc,cc,cc,cc,cc,cc,cc,Zy,cc,Zy,cc,Zy,cc,cc,Zy,cc,Zy,cc,Zy,cc,cc,Zy,cc,Ub,Ub,cc,cc,cc,cc,Ub,Ub,cc,cc,Zx ⟨1,8,.ptr 458,[.mh],[.ptr],[]⟩,adx,adx,Zy,cc,Zx ⟨1,8,.ptr 363,[.mh],[.ptr],[]⟩,Zy,cc,cc,cc,cc,Zy,cc,cc,Zy,cc,cc,cc,cc,cc,cc,cc,Zy,cc,cc,cc,cc,Zx ⟨1,8,.ptr 9,[.mh],[.ptr],[]⟩,Zx ⟨1,24,.slice 483 Zw,[.bY],[.sl 1],[]⟩,cc,cc,cc,cc,Zy,cc,Zx ⟨1,8,.ptr 447,[.mh],[.ptr],[]⟩,cc,cc,cc,Zx ⟨1,8,.ptr 453,[.mh],[.ptr],[]⟩,cc,cc,cc,cc,cc,cc,Zx ⟨4,4,.dp 4 5 Zn,[.u8 0,.u8 0,.u8 0,.u8 0],[.u8,.u8,.u8,.u8],[]⟩,cc,cc,cc,Zx ⟨4,40,.struct [(0,17),(1,17),(2,17),(3,9)],[.mh,.mh,.mh,.str []],[.ptr,.ptr,.ptr,.str],[]⟩,Zy,Zx ⟨0,0,.dp 0 16 Zw,[],[],[]⟩,Zy,Zy,ti2,ti2,cc,Zx ⟨1,8,.ptr 5,[.mh],[.ptr],[]⟩,ti5,ti5,Zy,Zx ⟨11,48,.struct [(0,12),(1,12),(2,287),(3,511),(4,5),(5,5),(6,512),(7,513),(8,514),(9,515),(10,516)],[.int .u64 0,.int .u64 0,.int .u32 0,.u8 0,.u8 0,.u8 0,.u8 0,.so,.mh,.int .i32 0,.int .i32 0],[.int .u64,.int .u64,.int .u32,.u8,.u8,.u8,.u8,.other,.ptr,.int .i32,.int .i32],[]⟩,Zy]
def UQ:List (Nat×Nat×List iZ):=[(4,9,[.val 4 3,.val 5 5,.val 12 4,.val 14 40,.c6 15 55 1 Zw,.val 16 3]),
 (4,12,[.val 4 3,.val 5 5,.val 12 4,.val 14 40,.c6 15 55 1 Zw,.val 16 3,.val 17 3]),
 (4,1000031,[.val 0 3]),
 (6,3,[.val 1 25,.cells 4 [.sl 13,.sl 4,.sl 2,.sl 31,.sl 10,.sl 4,.sl 1,.sl 1,.sl 1,.int .i64,.sl 51,.int .i64],.ptr 4 4 0,.cells 5 [.sl 13,.sl 4,.sl 2,.sl 31,.sl 10,.sl 4,.sl 1,.sl 1,.sl 1,.int .i64,.sl 51,.int .i64],.ptr 5 5 0,.val 6 3]),
 (8,9999999,[.val 0 0]),
 (10,9999999,[.val 0 0]),
 (13,6,[.val 0 40,.val 6 3,.c6 7 3 1 Zw]),
 (13,9999999,[.val 0 0]),
 (15,4,[.val 0 40,.val 1 35,.c6 5 52 4 Zw,.cells 6 [.sl 1,.sl 1],.ptr 6 6 0,.val 10 40,.val 11 3,.val 12 3]),
 (15,9999999,[.val 0 0]),
 (18,2,[.val 0 40,.val 1 55,.val 2 3,.val 6 4,.val 7 3]),
 (19,4,[.val 0 36,.val 1 36,.val 4 4,.val 5 3]),
 (20,3,[.val 1 55,.val 7 36,.val 15 40,.val 16 3,.val 17 3]),
 (21,3,[.val 0 40,.val 1 55,.val 2 3,.val 7 36,.val 8 3]),
 (25,1000038,[.val 0 3]),
 (25,1000042,[.val 0 3]),
 (28,9999999,[.val 0 0]),
 (29,3,[.val 0 40,.val 1 3,.val 2 87,.val 7 3,.val 8 3]),
 (29,5000003,[.val 7 3,.val 8 3]),
 (29,6000003,[.ph 29 1 [2],.ph 29 1 [47],.ph 29 1 [3],.ph 29 1 [5]]),
 (29,9999999,[.val 0 0]),
 (30,9999999,[.val 0 0]),
 (33,9999999,[.val 0 0]),
 (34,2,[.val 0 40,.val 1 89,.val 4 3,.val 5 3]),
 (34,9999999,[.val 0 0]),
 (35,9999999,[.val 0 0]),
 (37,9999999,[.val 0 0]),
 (38,1,[.val 0 47,.val 2 3,.val 3 3]),
 (38,9999999,[.val 0 0]),
 (39,4,[.val 1 40,.cells 4 [.sl 1,.sl 1],.ptr 4 4 0,.val 8 4,.val 16 47,.val 17 3,.val 18 3]),
 (39,8000062,[.cells 0 [.bool],.ph 2 2 [8],.ph 8 1 [7],.ph 8 1 [7,7],.ph 8 1 [7,7,7]]),
 (39,9999999,[.val 0 0]),
 (40,9999999,[.val 0 0]),
 (43,9999999,[.val 0 0]),
 (44,9999999,[.val 0 0]),
 (48,2,[.val 0 36,.val 1 55,.val 5 3]),
 (51,5,[.cells 1 [.u8,.u8,.u8,.u8,.u8,.u8,.u8,.u8,.u8,.u8],.ptr 1 1 0,.cells 2 [.sl 13,.sl 4,.sl 2,.sl 31,.sl 10],.ptr 2 2 0,.val 3 3,.val 4 3,.jl 5 [.own 20500 143 13 Zw,.jr (.sl 4),.own 20502 148 2 Zw,.own 20503 158 31 Zw,.own 20504 163 10 Zw],.ptr 5 5 0,.val 6 3]),
 (51,10,[.cells 1 [.u8,.u8,.u8,.u8,.u8,.u8,.u8,.u8,.u8,.u8],.ptr 1 1 0,.cells 2 [.sl 13,.sl 4,.sl 2,.sl 31,.sl 10],.ptr 2 2 0,.val 3 3,.val 4 3,.jl 5 [.own 20500 143 13 Zw,.jr (.sl 4),.own 20502 148 2 Zw,.own 20503 158 31 Zw,.own 20504 163 10 Zw],.ptr 5 5 0,.val 6 3,.jl 7 [.jr (.str),.own 20701 135 9 Zw],.ptr 7 7 0,.val 8 133,.val 9 3]),
 (51,18,[.cells 1 [.u8,.u8,.u8,.u8,.u8,.u8,.u8,.u8,.u8,.u8],.ptr 1 1 0,.cells 2 [.sl 13,.sl 4,.sl 2,.sl 31,.sl 10],.ptr 2 2 0,.val 3 3,.val 4 3,.jl 5 [.own 20500 143 13 Zw,.jr (.sl 4),.own 20502 148 2 Zw,.own 20503 158 31 Zw,.own 20504 163 10 Zw],.ptr 5 5 0,.val 11 3]),
 (51,23,[.cells 1 [.u8,.u8,.u8,.u8,.u8,.u8,.u8,.u8,.u8,.u8],.ptr 1 1 0,.cells 2 [.sl 13,.sl 4,.sl 2,.sl 31,.sl 10],.ptr 2 2 0,.val 3 3,.val 4 3,.jl 5 [.own 20500 143 13 Zw,.jr (.sl 4),.own 20502 148 2 Zw,.own 20503 158 31 Zw,.own 20504 163 10 Zw],.ptr 5 5 0,.val 12 47,.val 13 3]),
 (51,30,[.cells 2 [.sl 13,.sl 4,.sl 2,.sl 31,.sl 10],.ptr 2 2 0,.val 3 3,.val 4 3,.jl 5 [.own 20500 143 13 Zw,.jr (.sl 4),.own 20502 148 2 Zw,.own 20503 158 31 Zw,.own 20504 163 10 Zw],.ptr 5 5 0,.val 17 3]),
 (52,17,[.val 0 30,.val 1 31,.val 2 32,.val 3 33,.val 4 34,.cells 10 [.sl 13,.sl 4,.sl 2,.sl 31,.sl 10,.sl 4,.sl 1,.sl 1,.sl 1,.int .i64,.sl 51,.int .i64],.ptr 10 10 0,.val 11 100,.jl 12 [.own 21200 143 13 Zw,.own 21201 146 4 Zw,.own 21202 148 2 Zw,.own 21203 158 31 Zw,.own 21204 163 10 Zw,.jr (.sl 4),.jr (.sl 1),.jr (.sl 1),.jr (.sl 1),.jr (.int .i64),.jr (.sl 51),.jr (.int .i64)],.ptr 12 12 0,.val 14 169,.val 15 3]),
 (52,20,[.val 0 30,.val 1 31,.val 2 32,.val 3 33,.val 4 34,.cells 10 [.sl 13,.sl 4,.sl 2,.sl 31,.sl 10,.sl 4,.sl 1,.sl 1,.sl 1,.int .i64,.sl 51,.int .i64],.ptr 10 10 0,.val 11 100,.jl 12 [.own 21200 143 13 Zw,.own 21201 146 4 Zw,.own 21202 148 2 Zw,.own 21203 158 31 Zw,.own 21204 163 10 Zw,.jr (.sl 4),.jr (.sl 1),.jr (.sl 1),.jr (.sl 1),.jr (.int .i64),.jr (.sl 51),.jr (.int .i64)],.ptr 12 12 0,.val 14 169,.val 15 3,.val 16 3]),
 (53,9999999,[.val 0 0]),
 (54,9999999,[.val 0 0]),
 (59,2,[.val 1 3,.val 2 3,.val 3 5,.val 4 3,.cells 5 [.sl 13,.sl 4,.sl 2,.sl 31,.sl 10,.sl 4,.sl 1,.sl 1,.sl 1,.int .i64,.sl 51,.int .i64],.ptr 5 5 0,.cells 10 [.int .i64,.int .i64,.int .i64,.int .i64,.int .i64,.eL],.ptr 10 10 0,.val 11 3]),
 (59,13,[.val 1 3,.val 2 3,.val 3 5,.val 4 3,.cells 5 [.sl 13,.sl 4,.sl 2,.sl 31,.sl 10,.sl 4,.sl 1,.sl 1,.sl 1,.int .i64,.sl 51,.int .i64],.ptr 5 5 0,.cells 10 [.int .i64,.int .i64,.int .i64,.int .i64,.int .i64,.eL],.ptr 10 10 0,.cells 12 [.str,.str,.str,.int .i64,.int .i64,.bool,.str,.str,.str,.sl 8,.int .i64,.str,.str,.str,.int .u64,.int .i64,.int .i64,.int .i64,.int .i64],.ptr 12 12 0,.cells 13 [.str,.str,.str],.ptr 13 13 0,.val 15 3]),
 (66,2,[.val 0 36,.val 1 55,.val 4 4,.val 5 3]),
 (67,3,[.val 0 215,.val 3 3,.val 9 215,.val 10 3,.val 11 3]),
 (67,11,[.c6 6 55 1 Zw,.val 25 215,.val 26 3,.val 27 3]),
 (69,4,[.val 0 36,.val 2 36,.val 3 3]),
 (69,9,[.val 0 36,.val 3 3,.val 4 36,.val 5 3]),
 (69,9999998,[.val 0 0]),
 (70,5,[.val 4 55,.val 10 62,.val 11 3,.val 12 3]),
 (73,5,[.val 0 62,.val 4 55,.val 5 3]),
 (77,2,[.val 0 30,.val 2 100,.val 3 3]),
 (78,4,[.val 0 31,.val 2 100,.val 3 3]),
 (79,3,[.val 0 30,.val 1 32,.val 4 100,.c6 5 3 1 Zw,.val 6 3]),
 (79,9,[.val 0 30,.val 4 100,.c6 5 3 1 Zw,.val 7 3]),
 (79,12,[.val 0 30,.val 4 100,.c6 5 3 1 Zw,.val 7 3,.val 8 3]),
 (79,18,[.val 4 100,.c6 5 3 1 Zw,.val 9 3]),
 (79,21,[.val 4 100,.c6 5 3 1 Zw,.val 9 3,.val 10 3]),
 (80,2,[.val 0 32,.val 1 33,.val 4 100,.val 5 3]),
 (81,2,[.val 0 32,.val 1 34,.val 4 100,.val 5 3]),
 (81,13,[.val 0 32,.val 1 34,.val 4 100,.val 5 3,.cells 6 [.int .i64,.str,.str,.str,.sl 5,.int .i64,.int .i64,.sl 5,.int .i64,.sl 12],.ptr 6 6 0,.val 8 3]),
 (82,3,[.val 0 30,.val 1 31,.val 2 33,.val 3 34,.c6 9 172 4 Zw,.val 10 3]),
 (82,7,[.val 0 30,.val 1 31,.val 2 33,.val 3 34,.c6 9 172 4 Zw,.val 10 3,.cells 11 [.str,.sl 9],.ptr 11 11 0,.val 12 3]),
 (82,12,[.val 1 31,.val 2 33,.val 3 34,.c6 9 172 4 Zw,.val 14 3]),
 (82,16,[.val 2 33,.val 3 34,.c6 9 172 4 Zw,.val 15 3]),
 (82,19,[.val 2 33,.val 3 34,.c6 9 172 4 Zw,.val 15 3,.val 16 3]),
 (82,24,[.val 2 33,.c6 9 172 4 Zw,.val 18 3]),
 (83,9999999,[.val 0 0]),
 (84,9999999,[.val 0 0]),
 (86,9999999,[.val 0 0]),
 (87,5,[.cells 2 [.sl 13,.sl 4,.sl 2,.sl 31,.sl 10,.sl 4,.sl 1,.sl 1,.sl 1,.int .i64,.sl 51,.int .i64],.ptr 2 2 0,.cells 3 [.int .i64,.int .i64,.int .i64,.int .i64,.int .i64,.eL],.ptr 3 3 0,.cells 4 [.sl 13,.sl 4,.sl 2,.sl 31,.sl 10,.sl 4,.sl 1,.sl 1,.sl 1,.int .i64,.sl 51,.int .i64],.ptr 4 4 0,.val 5 4,.cells 6 [.int .i64,.int .i64,.eL,.bool],.ptr 6 6 0,.val 7 3]),
 (87,9999999,[.val 0 0]),
 (88,9999999,[.val 0 0]),
 (89,9999999,[.val 0 0]),
 (90,9999999,[.val 0 0]),
 (91,9999999,[.val 0 0]),
 (92,9999999,[.val 0 0]),
 (93,9999999,[.val 0 0]),
 (95,3,[.val 1 5,.val 2 3,.cells 3 [.sl 13,.sl 4,.sl 2,.sl 31,.sl 10,.sl 4,.sl 1,.sl 1,.sl 1,.int .i64,.sl 51,.int .i64],.ptr 3 3 0,.c6 7 62 1 Zw,.val 8 3]),
 (99,8,[.cells 1 [.bool,.str,.str,.str,.int .i64,.int .i64,.str],.ptr 1 1 0,.val 2 62,.val 3 100,.val 4 3]),
 (103,2000001,[.cells 1 [.int .i64,.str,.str,.str,.int .i64,.str,.eL,.str,.str,.eL],.ptr 1 1 0,.val 13 4,.val 3 100]),
 (103,2000003,[.cells 1 [.int .i64,.str,.str,.str,.int .i64,.str,.eL,.str,.str,.eL],.ptr 1 1 0,.val 46 4,.val 3 100]),
 (103,2000005,[.cells 1 [.int .i64,.str,.str,.str,.int .i64,.str,.eL,.str,.str,.eL],.ptr 1 1 0,.val 56 4,.val 3 100]),
 (103,2000007,[.cells 1 [.int .i64,.str,.str,.str,.int .i64,.str,.eL,.str,.str,.eL],.ptr 1 1 0,.val 72 4,.val 3 100]),
 (103,2000009,[.cells 1 [.int .i64,.str,.str,.str,.int .i64,.str,.eL,.str,.str,.eL],.ptr 1 1 0,.val 113 4,.val 3 100]),
 (105,2,[.val 1 3,.cells 2 [.sl 13,.sl 4,.sl 2,.sl 31,.sl 10,.sl 4,.sl 1,.sl 1,.sl 1,.int .i64,.sl 51,.int .i64],.ptr 2 2 0,.val 4 4,.val 5 3]),
 (106,3,[.val 1 3,.cells 2 [.sl 13,.sl 4,.sl 2,.sl 31,.sl 10,.sl 4,.sl 1,.sl 1,.sl 1,.int .i64,.sl 51,.int .i64],.ptr 2 2 0,.val 4 3,.cells 5 [.str,.str,.str],.ptr 5 5 0,.val 6 3]),
 (106,10,[.cells 2 [.sl 13,.sl 4,.sl 2,.sl 31,.sl 10,.sl 4,.sl 1,.sl 1,.sl 1,.int .i64,.sl 51,.int .i64],.ptr 2 2 0,.val 4 3,.cells 7 [.int .i64,.int .i64,.eL,.bool],.ptr 7 7 0,.val 8 3,.val 9 3]),
 (106,18,[.cells 2 [.sl 13,.sl 4,.sl 2,.sl 31,.sl 10,.sl 4,.sl 1,.sl 1,.sl 1,.int .i64,.sl 51,.int .i64],.ptr 2 2 0,.val 4 3,.cells 7 [.int .i64,.int .i64,.eL,.bool],.ptr 7 7 0,.val 8 3,.val 11 3]),
 (107,2,[.cells 2 [.str,.str,.str,.int .i64,.int .i64,.bool,.str,.str,.str,.sl 8,.int .i64,.str,.str,.str,.int .u64,.int .i64,.int .i64,.int .i64,.int .i64],.ptr 2 2 0,.cells 3 [.str,.str,.str],.ptr 3 3 0,.val 4 4,.val 5 3]),
 (118,2,[.rowAt 0 Zn 55 1,.ik 0 0 55 1,.val 1 3,.val 2 3,.val 3 3,.val 8 4,.val 9 4]),
 (118,2000014,[.rowAt 0 Zn 55 1,.ik 0 0 55 1,.val 1 3,.val 2 3,.val 3 3,.val 8 4,.val 9 4,.val 10 3,.val 11 3,.val 12 279]),
 (118,2000015,[.rowAt 0 Zn 55 1,.ik 0 0 55 1,.val 1 3,.val 2 3,.val 3 3,.val 8 4,.val 9 4,.val 10 3,.val 11 3,.val 68 4]),
 (118,2000016,[.rowAt 0 Zn 55 1,.ik 0 0 55 1,.val 1 3,.val 2 3,.val 3 3,.val 8 4,.val 9 4,.val 10 3,.val 11 3,.val 72 4]),
 (118,2000017,[.rowAt 0 Zn 55 1,.ik 0 0 55 1,.val 1 3,.val 2 3,.val 3 3,.val 8 4,.val 9 4,.val 10 3,.val 11 3,.val 87 4]),
 (118,3000008,[.rowAt 0 Zn 55 1,.ik 0 0 55 1,.val 1 3,.val 2 3,.val 3 3,.val 8 4,.val 9 4,.val 10 3]),
 (118,3000012,[.rowAt 0 Zn 55 1,.ik 0 0 55 1,.val 1 3,.val 2 3,.val 3 3,.val 8 4,.val 9 4,.val 10 3,.val 11 3,.val 12 279]),
 (121,6,[.cells 1 [.str,.sl 9],.ptr 1 1 0,.val 2 100,.val 3 3]),
 (122,6,[.cells 1 [.int .i64,.int .i64,.sl 5],.ptr 1 1 0,.val 2 100,.val 3 3]),
 (125,2,[.val 0 31,.val 1 9,.val 2 9,.val 3 3,.val 8 55,.val 9 4,.val 10 3]),
 (128,9999999,[.val 0 0]),
 (130,3,[.cells 2 [.sl 1,.sl 1],.ptr 2 2 0,.val 4 4,.val 5 37,.val 6 3]),
 (131,4,[.val 1 36,.val 2 37,.cells 6 [.sl 1,.sl 1],.ptr 6 6 0,.jl 8 [.jr (.sl 1),.own 20801 62 1 Zw],.ptr 8 8 0,.val 9 4,.val 10 3]),
 (131,9,[.val 2 37,.cells 6 [.sl 1,.sl 1],.ptr 6 6 0,.jl 8 [.jr (.sl 1),.own 20801 62 1 Zw],.ptr 8 8 0,.val 9 4,.val 11 3]),
 (131,8000202,[.cells 0 [.bool],.ph 8 2 []]),
 (133,2,[.cells 1 [.sl 1,.sl 1],.ptr 1 1 0,.cells 2 [.sl 1,.sl 1],.ptr 2 2 0,.val 3 3]),
 (134,9999999,[.val 0 0]),
 (135,29,[.val 1 3,.cells 3 [.sl 13,.sl 4,.sl 2,.sl 31,.sl 10,.sl 4,.sl 1,.sl 1,.sl 1,.int .i64,.sl 51,.int .i64],.ptr 3 3 0,.cells 6 [.sl 13,.sl 4,.sl 2,.sl 31,.sl 10,.sl 4,.sl 1,.sl 1,.sl 1,.int .i64,.sl 51,.int .i64],.ptr 6 6 0,.cells 7 [.int .i64,.int .u64,.str,.str,.str,.int .i64,.int .i64,.bool,.str,.str,.str,.sl 8,.int .i64,.str,.str,.str,.int .u64,.int .i64,.int .i64,.int .i64,.int .i64,.int .i64,.int .i64,.int .i64,.int .i64,.str,.str,.str,.int .u64,.int .u64,.sl 7],.ptr 7 7 0,.cells 8 [.int .i64,.int .i64,.eL,.bool],.ptr 8 8 0,.cells 9 [.int .i64,.int .i64],.ptr 9 9 0,.cells 10 [.str,.str,.str],.ptr 10 10 0,.cells 11 [.str,.str,.str,.int .u64,.int .i64,.int .i64,.int .i64,.eL],.ptr 11 11 0,.val 12 100,.val 20 3]),
 (135,9999999,[.val 0 0]),
 (136,9999999,[.val 0 0]),
 (137,2,[.val 1 9,.cells 2 [.sl 13,.sl 4,.sl 2,.sl 31,.sl 10,.sl 4,.sl 1,.sl 1,.sl 1,.int .i64,.sl 51,.int .i64],.ptr 2 2 0,.val 4 3,.val 5 4,.val 6 3]),
 (137,9999999,[.val 0 0]),
 (139,9999999,[.val 0 0]),
 (141,9999999,[.val 0 0]),
 (148,9999999,[.val 0 0]),
 (149,9999999,[.val 0 0]),
 (163,3,[.val 1 5,.val 2 3,.cells 3 [.sl 13,.sl 4,.sl 2,.sl 31,.sl 10,.sl 4,.sl 1,.sl 1,.sl 1,.int .i64,.sl 51,.int .i64],.ptr 3 3 0,.c6 7 55 1 Zw,.val 8 3]),
 (167,1000023,[.val 0 3]),
 (170,2,[.val 1 3,.cells 2 [.sl 13,.sl 4,.sl 2,.sl 31,.sl 10,.sl 4,.sl 1,.sl 1,.sl 1,.int .i64,.sl 51,.int .i64],.ptr 2 2 0,.cells 4 [.str,.str,.str],.ptr 4 4 0,.val 5 3]),
 (171,3,[.val 0 62,.val 4 4,.val 5 9,.val 6 3]),
 (182,1,[.rowAt 0 Zn 55 1,.ik 0 0 55 1,.val 1 3,.val 2 3,.val 6 3]),
 (182,4,[.rowAt 0 Zn 55 1,.ik 0 0 55 1,.val 1 3,.val 2 3,.val 6 3,.val 7 3]),
 (183,4,[.rowAt 0 Zn 55 1,.ik 0 0 55 1,.val 6 3,.val 7 3,.val 8 3,.val 9 3]),
 (183,8,[.rowAt 0 Zn 55 1,.ik 0 0 55 1,.val 6 3,.val 7 3,.val 10 3]),
 (184,5,[.rowAt 0 Zn 55 1,.ik 0 0 55 1,.val 1 3,.val 6 3,.cells 7 [.int .u64],.ptr 7 7 0,.val 8 113,.val 9 3]),
 (186,2,[.rowAt 0 Zn 55 1,.ik 0 0 55 1,.val 6 3,.val 7 3]),
 (187,3,[.rowAt 0 Zn 55 1,.ik 0 0 55 1,.val 1 3,.val 2 3,.val 6 4,.val 7 3,.val 8 3]),
 (187,5,[.rowAt 0 Zn 55 1,.ik 0 0 55 1,.val 1 3,.val 2 3,.val 7 3,.val 8 3,.val 6 4]),
 (187,14,[.rowAt 0 Zn 55 1,.ik 0 0 55 1,.val 1 3,.val 2 3,.val 7 3,.val 8 3,.val 9 3,.val 6 4]),
 (187,20,[.rowAt 0 Zn 55 1,.ik 0 0 55 1,.val 1 3,.val 2 3,.val 7 3,.val 8 3,.val 10 3,.val 6 4]),
 (189,3,[.rowAt 0 Zn 55 1,.ik 0 0 55 1,.val 1 3,.val 9 3,.val 10 3]),
 (189,5,[.rowAt 0 Zn 55 1,.ik 0 0 55 1,.val 1 3,.val 9 3,.val 10 3]),
 (190,3,[.rowAt 0 Zn 55 1,.ik 0 0 55 1,.val 1 3,.val 10 3,.val 11 3]),
 (190,5,[.rowAt 0 Zn 55 1,.ik 0 0 55 1,.val 1 3,.val 10 3,.val 11 3]),
 (190,13,[.rowAt 0 Zn 55 1,.ik 0 0 55 1,.val 1 3,.val 10 3,.val 11 3]),
 (190,15,[.rowAt 0 Zn 55 1,.ik 0 0 55 1,.val 1 3,.val 10 3,.val 11 3]),
 (196,2,[.cells 2 [.int .i64,.int .i64,.sl 5],.ptr 2 2 0,.cells 3 [.str,.str,.str,.int .i64,.int .i64],.ptr 3 3 0,.val 4 4,.val 5 3]),
 (197,2,[.val 0 9,.val 1 9,.val 4 4,.val 5 3]),
 (197,7,[.val 0 9,.val 1 9,.val 4 4,.val 5 3,.val 6 3]),
 (199,6,[.cells 1 [.str,.str,.str,.sl 8],.ptr 1 1 0,.val 2 100,.val 3 3]),
 (200,4,[.val 0 136,.val 2 100,.val 3 3]),
 (201,8,[.cells 2 [.sl 1,.sl 1],.ptr 2 2 0,.val 4 4,.val 8 36,.val 9 37,.val 10 3]),
 (201,13,[.cells 2 [.sl 1,.sl 1],.ptr 2 2 0,.val 4 4,.val 9 37,.val 11 3]),
 (201,8000202,[.cells 0 [.bool],.ph 8 2 []]),
 (202,2,[.val 0 37,.val 1 62,.val 4 4,.val 5 3]),
 (202,5000002,[.val 4 4,.val 5 3]),
 (225,1,[.val 0 36,.val 1 3,.val 2 3]),
 (232,3,[.val 1 3,.val 2 3,.val 3 4,.fu 9 5 Zw,.val 10 3]),
 (235,3,[.val 0 55,.fu 3 5 Zw,.val 4 3]),
 (236,2,[.fu 3 5 Zw]),
 (237,2,[.val 0 36,.val 1 55,.val 4 3,.val 7 3,.val 8 3]),
 (250,3,[.val 0 37,.c6 3 62 1 Zw,.val 4 3]),
 (258,1,[.rowAt 0 Zn 55 1,.ik 0 0 55 1,.val 2 3,.val 3 3,.val 8 3]),
 (267,2,[.cells 2 [.str,.str,.str,.sl 8],.ptr 2 2 0,.cells 3 [.str,.str,.str],.ptr 3 3 0,.cells 4 [.str,.str,.str,.int .u64,.int .i64,.int .i64,.int .i64,.eL],.ptr 4 4 0,.val 5 4,.val 6 3]),
 (268,2,[.val 0 136,.val 2 3,.cells 4 [.str,.str,.str],.ptr 4 4 0,.val 6 55,.val 7 4,.val 8 3]),
 (276,6,[.val 1 31,.cells 2 [.str,.sl 9],.ptr 2 2 0,.c6 5 160 5 Zw,.val 8 3]),
 (281,5,[.val 0 3,.val 2 47,.val 8 3,.val 9 3]),
 (281,7,[.val 0 3,.val 2 47,.val 8 3,.val 9 3]),
 (297,8,[.cells 2 [.str,.str,.str,.sl 8],.ptr 2 2 0,.cells 3 [.str,.str,.str,.int .u64,.int .i64,.int .i64,.int .i64,.eL],.ptr 3 3 0,.cells 4 [.str,.str,.str,.sl 8],.ptr 4 4 0,.c6 7 66 8 Zw,.val 8 3]),
 (337,5,[.val 1 47,.val 4 4,.val 5 100,.val 6 3,.val 7 4,.val 9 3]),
 (348,3,[.val 1 9,.val 2 9,.cells 3 [.str,.sl 9],.ptr 3 3 0,.val 8 3,.val 9 3,.val 10 3]),
 (352,13,[.cells 4 [.int .i64,.int .i64,.sl 5],.ptr 4 4 0,.cells 5 [.str,.str,.str,.int .i64,.int .i64],.ptr 5 5 0,.cells 8 [.int .i64,.int .i64,.sl 5],.ptr 8 8 0,.jl 10 [.jr (.int .i64),.jr (.int .i64),.own 21002 293 5 Zw],.ptr 10 10 0,.val 11 3]),
 (354,3,[.val 0 31,.val 1 9,.val 2 9,.val 8 3,.val 9 3]),
 (405,4,[.val 0 62,.val 1 3,.val 4 9,.val 5 3,.val 6 100,.val 7 3]),
 (425,6,[.val 2 3,.val 3 4,.val 11 62,.val 12 3,.val 14 3,.val 15 3])]
def agx:List Nat:=[117,155,232,236,153,158,161,162,304,308,82,45,1011904,1011648,1011968,1012096,1012160,1016512,1022144,1011712,1011776,1016768,1016704,1011840,1007552,1004352]
def agM:List (Nat×List Nat):=[(18,[4]),(19,[4]),(25,[62]),(26,[55]),(36,[4]),(48,[36]),(55,[3]),(56,[3]),(57,[3]),(66,[4]),(71,[4]),(72,[62]),(74,[55]),(75,[4]),(105,[4]),(107,[4]),(108,[114]),(117,[36]),(123,[4]),(125,[55,4]),(129,[61]),(152,[4]),(154,[62]),(155,[62]),(160,[4]),(168,[4]),(169,[4]),(170,[61]),(171,[4]),(186,[]),(192,[3]),(193,[55]),(195,[4]),(196,[4]),(197,[4]),(204,[3,4,100]),(213,[156]),(216,[4]),(218,[153]),(222,[4]),(228,[4]),(229,[3]),(232,[62]),(235,[62]),(236,[62]),(247,[4]),(248,[4]),(260,[54]),(263,[4]),(264,[4]),(266,[4]),(267,[66,4]),(268,[55,4]),(275,[4]),(282,[47]),(299,[9]),(300,[3,4]),(303,[4]),(348,[3,100]),(353,[9]),(354,[3,4]),(356,[132]),(358,[3]),(362,[4]),(363,[4]),(401,[]),(404,[62,3,100]),(405,[9,3,100]),(407,[132]),(17,[4]),(42,[4]),(60,[9]),(79,[100]),(101,[62]),(106,[3]),(119,[3]),(120,[4]),(124,[4]),(131,[39,4]),(150,[61]),(153,[62]),(156,[4]),(157,[4]),(158,[62]),(161,[62]),(162,[62]),(179,[3,3,4]),(188,[4]),(220,[61]),(223,[3]),(225,[3]),(281,[3,4]),(288,[132]),(296,[4]),(337,[4,100]),(342,[62]),(344,[9]),(360,[132]),(425,[3,3,100]),(27,[61]),(59,[77]),(73,[55,4]),(76,[61]),(78,[100]),(94,[62,100]),(95,[62]),(104,[62,100]),(114,[4]),(132,[36]),(145,[55,4]),(159,[4]),(167,[62,100]),(182,[]),(187,[4]),(189,[3]),(190,[3,4]),(194,[100]),(230,[3]),(258,[]),(259,[113]),(276,[136]),(302,[4]),(304,[62,100]),(305,[3,100]),(308,[62]),(338,[61]),(345,[62,100]),(346,[3,3]),(351,[100]),(400,[3,3,100]),(402,[3,3,100]),(403,[3,3,100]),(7,[40]),(50,[99,3,100]),(51,[104]),(70,[55,4]),(82,[169]),(96,[62,100]),(97,[62,100]),(99,[62,100]),(100,[62,100]),(103,[62,100]),(121,[100]),(122,[100]),(163,[55]),(166,[62,100]),(183,[]),(184,[]),(199,[100]),(200,[100]),(217,[62,100]),(219,[66,100]),(226,[3,100]),(227,[3,100]),(231,[62,100]),(262,[3]),(265,[151,100]),(286,[62]),(292,[62,100]),(306,[100]),(307,[100]),(339,[3]),(340,[3]),(341,[3]),(347,[62,100]),(361,[62,100]),(47,[99,3,100]),(49,[4]),(77,[100]),(102,[62]),(127,[100]),(147,[62,64,100]),(151,[62,100]),(198,[153,100]),(224,[62,100]),(233,[62,100]),(234,[62,100]),(249,[184,100]),(253,[62,4,100]),(254,[62,62,4,100]),(255,[196,100]),(256,[199,100]),(257,[192,100]),(261,[3]),(270,[377,100]),(271,[335,100]),(272,[383,100]),(273,[268,100]),(274,[342,100]),(279,[62]),(280,[55,3,3,3,100]),(284,[62,4]),(287,[62,4]),(291,[264,4]),(293,[325,100]),(295,[188,100]),(297,[151,100]),(298,[419,100]),(301,[62,100]),(352,[139,100]),(357,[62,4]),(359,[132,100]),(21,[36]),(46,[4]),(81,[100]),(126,[100]),(164,[62,100]),(165,[62,100]),(185,[3,279]),(212,[253,100]),(250,[37]),(251,[178,100]),(252,[181,100]),(269,[264,100]),(289,[132,62,64,4]),(294,[62]),(355,[62,4]),(406,[68,100]),(61,[99,4]),(80,[100]),(98,[62]),(118,[]),(138,[153,62,100]),(143,[155,62,100]),(144,[155,62,100]),(146,[155,62,100]),(181,[37]),(203,[36,37]),(207,[62,64,4]),(209,[153,66,100]),(210,[153,100]),(211,[153,155,66,100]),(214,[153,66,100]),(221,[178,100]),(283,[64,377,100]),(349,[264,100]),(350,[68,100]),(31,[4]),(52,[42,100]),(58,[62]),(68,[]),(133,[39]),(140,[153,62,66,62,100]),(142,[153,62,66,62,100]),(201,[4]),(208,[62,64,4]),(277,[141,70,100]),(278,[62]),(285,[62,64,4]),(290,[132,62,64,4]),(22,[42]),(24,[77]),(45,[36]),(85,[39]),(116,[39]),(130,[4]),(205,[141,62,64,4]),(206,[132,62,64,4]),(215,[141,70,62,100]),(20,[36]),(23,[42,4]),(6,[42]),(5,[4]),(4,[4])]
def Yt:Sp
 | [.sl 1 ks,.sl 1 ls],[]=>aA (Zu ks&&Zu ls&&Zz (ks.length<=1000000000)) (Zx (.bool (Kerb.cO ks==Kerb.cO ls),[]))
 | _,_=>Zy
def YA:Sp
 | [.bs b,.int .u16 how],[]=>aA (Zz (b.length<=1000000)&&Zz (0<=how)&&Zz (how<=65535)) (Zx (.bs (Kerb.wF b how),[]))
 | _,_=>Zy
def YB:Sp
 | [.int .i64 n],[]=>aA (Zz (0<=n)&&Zz (n<=1000)) (Zx (.int .u64 (Kerb.af n),[]))
 | _,_=>Zy
def YE:Sp
 | [.bs a,.bs b],[]=>Zx (.bool (a==b),[])
 | _,_=>Zy
def jh:Sp
 | [.sl 1 ks,.int .u64 k],[]=>aA (Zu ks&&Zz (ks.length<=1000000000)) (Zx (.sl 1 (Kerb.dl (Kerb.jO (Kerb.cO ks) k)),[]))
 | _,_=>Zy
def RV:Sp
 | [.sl 1 ks,.int .u64 k],[]=>aA (Zu ks&&Zz (ks.length<=1000000000)) (Zx (.bool ((Kerb.cO ks).contains k),[]))
 | _,_=>Zy
def YG:Sp
 | [.int .i64 k],[]=>Zx (.bool (Kerb.isKind k),[])
 | _,_=>Zy
def RY:Sp
 | [.bs b],[]=>aA (Zz (b.length<=140737488355328)) (Zx (.bs b,[]))
 | _,_=>Zy
def YH:Sp
 | [.int .i64 n],[]=>aA (Zz (0<=n)&&Zz (n<=1000)) (Zx (.int .u64 (Kerb.ul n),[]))
 | _,_=>Zy
def Rv:Sp
 | [],[]=>Zx (.sl 1 [.str [65,84,72],.str [66,79,83],.str [67,65,77]],[])
 | _,_=>Zy
def IA:Sp
 | [.bY,.int .i64 n],[]=>aA (Zz (0<=n)&&Zz (n<=1000000000000)) (Zx (.aD [],[]))
 | _,_=>Zy
def Rx:Sp
 | [.int .i64 n,.int .i64 m],[]=>Zx (.bool (Kerb.within n m),[])
 | _,_=>Zy
def Ry:Sp
 | [.int .i64 k,.bool little],[]=>Zx (.bs (Kerb.header k little),[])
 | _,_=>Zy
def lJ:Sp
 | [.bs b,.str s],[]=>aA (Zz (b.length+s.length<=70368744177664)) (Zx (.fO (Kerb.cT b s),[]))
 | _,_=>Zy
def Rz:Sp
 | [.int .i64 n,.int .i64 m],[]=>Zx (.bool (Kerb.within n m),[])
 | _,_=>Zy
def RA:Sp
 | [.int .i64 n],[]=>Zx (.bool (n==1||n==3),[])
 | _,_=>Zy
def RB:Sp
 | [.int .i64 n,.int .i64 m],[]=>Zx (.bool (Kerb.within n m),[])
 | _,_=>Zy
def IH:Sp
 | [.b_ 0 55 1,.int .i64 a,.int .i64 b],[(0,els)]=>aA (Zu els&&Zz ((els.length:Int)<=1152921504606846976)&&Zz (0<=a)&&Zz (a<=b)&&Zz (b<=(els.length:Int))) (Zx (.bC [],[Kerb.TV els a b]))
 | _,_=>Zy
def IJ:Sp
 | [.int .u64 x],[]=>aA (Zz (0<=x)&&Zz (x<18446744073709551616)) (Zx (.int .i64 (Kerb.TB x),[]))
 | _,_=>Zy
def RE:Sp
 | [.int .i64 c,.int .i64 n],[]=>Zx (.int .u64 (cond (Kerb.ku c&&Kerb.jc n) (c*72057594037927936+n) 0),[])
 | _,_=>Zy
def yw:Sp
 | [.str s,.str bad],[]=>aA (Zz (s.length<=9223372036854775807)&&Zz (bad.length<=100)) (Zx (.bool (Kerb.iy s bad&&Zz (s.length<=39)),[]))
 | _,_=>Zy
def RG:Sp
 | [.bs b],[]=>Zx (.bC [.int .i64 (Kerb.bX b).kind,.bool (Kerb.bX b).little,.int .i64 (Kerb.bX b).err],[])
 | _,_=>Zy
def RH:Sp
 | [.int .i64 n,.int .i64 m],[]=>Zx (.bool (Kerb.within n m),[])
 | _,_=>Zy
def yx:Sp
 | [.bs b,.int .i64 n,.int .i64 k,.bool little],[]=>aA (Zz (k=1\/k=2\/k=4)&&Zz (b.length<=70368744177664)) (Zx (.fO (b++Kerb.aL n k.toNat little),[]))
 | _,_=>Zy
def o_:Sp
 | [.int .u64 k],[]=>aA (Zz (0<=k)&&Zz (k<18446744073709551616)) (Zx (.bs (Kerb.keyBytes k),[]))
 | _,_=>Zy
def mK:Sp
 | [.bs b],[]=>aA (Zz (b.length<=70368744177664)) (Zx (.fO (Kerb.pad b),[]))
 | _,_=>Zy
def RI:Sp
 | [.int .i64 k],[]=>Zx (.bool (Kerb.ku k),[])
 | _,_=>Zy
def RJ:Sp
 | [.int .i64 k],[]=>Zx (.bool (Kerb.jc k),[])
 | _,_=>Zy
def I0:Sp
 | [.ptr 0 0],[(0,[.int .u64 x])]=>aA (Zz (0<=x)&&Zz (x<18446744073709551616)) (Zx (.int .u64 (Kerb.Lg x),[[.int .u64 (Kerb.Lg x)]]))
 | _,_=>Zy
def RK:Sp
 | [.int .u64 x],[]=>Zx (.bool Zw,[])
 | _,_=>Zy
def RO:Sp
 | [.int .i64 n,.int .i64 m],[]=>Zx (.bool (Kerb.within n m),[])
 | _,_=>Zy
def RP:Sp
 | [.ptr 0 0,.int .i64 nx,.int .i64 e],[(0,[.bs B,.int .i64 at_,.bool li,.bool bad])]=>Zx (.bC [],[[.bs B,.int .i64 (cond (bad || !(e==0)) at_ nx),.bool li,.bool (bad || !(e==0))]])
 | _,_=>Zy
def CP:Sp
 | [.bs b,.int .i64 pos,.int .i64 n],[]=>aA (Zz (b.length<=140737488355328)) (Zx (.bC [.bs (Zg b pos n).val,.int .i64 (Zg b pos n).next,.int .i64 (Zg b pos n).err],[]))
 | _,_=>Zy
def Jb:Sp
 | [.bs b,.int .i64 pos],[]=>aA (Zz (b.length<=140737488355328)) (Zx (.bC [.str (Kerb.text b pos).val,.int .i64 (Kerb.text b pos).next,.int .i64 (Kerb.text b pos).err],[]))
 | _,_=>Zy
def YF:Sp
 | [.agg [.sl 1 ks,.sl 1 bs],.int .u64 k],[]=>aA (Zu ks&&Zz (ks.length<=1000000000)) (Zx (.bool ((Kerb.cO ks).contains k),[]))
 | _,_=>Zy
def RU:Sp
 | [.int .i64 n],[]=>aA (Zz (0<=n)) (Zx (.str (Kerb.aC n),[]))
 | _,_=>Zy
def CL:Sp
 | [.int .u64 x],[]=>aA (Kerb.ok x&&Zz (0<=x)&&Zz (x<18446744073709551616)) (Zx (.int .i64 (Kerb.TB x),[]))
 | _,_=>Zy
def nT:Sp
 | [.int .u64 k],[]=>aA (Zz (0<=k)&&Zz (k<18446744073709551616)) (Zx (.bool (Kerb.bW k),[]))
 | _,_=>Zy
def yv:Sp
 | [.str s],[]=>aA (Zz (s.length<=9223372036854775807)) (Zx (.bool (Kerb.fD s),[]))
 | _,_=>Zy
def Rw:Sp
 | [.agg [.sl 1 ks,.sl 1 bs],.sl 1 l,.sl 1 m],[]=>aA (Kerb.eo ks bs&&Zu l&&Kerb.zE m&&Zz (l.length<=1000)&&Zz (m.length<=1000)&&(Kerb.gp m).all fun b=>Zz (b.length<=140737488355328)) (Zx (.bC [.agg [.sl 1 (Kerb.dl ((Zq ks bs).add ⟨Kerb.cO l,Kerb.gp m⟩).keys),.sl 1 (Kerb.dG ((Zq ks bs).add ⟨Kerb.cO l,Kerb.gp m⟩).boxes)],.bool !((Zq ks bs).has ⟨Kerb.cO l,Kerb.gp m⟩)],[]))
 | _,_=>Zy
def gV:Sp
 | [.bs b,.int .i64 n],[]=>aA (Zz (b.length<=70368744177664)) (Zx (.fO (b++Kerb.aL n 1 Zw),[]))
 | _,_=>Zy
def vD:Sp
 | [.str s],[]=>aA (Zz (s.length<=9223372036854775807)) (Zx (.bool (Kerb.validName s),[]))
 | _,_=>Zy
def vE:Sp
 | [.str s],[]=>aA (Zz (s.length<=9223372036854775807)) (Zx (.bool (Kerb.dg s),[]))
 | _,_=>Zy
def gQ:Sp
 | [.bs b,.int .i64 n,.bool little],[]=>aA (Zz (b.length<=70368744177664)) (Zx (.fO (b++Kerb.aL n 4 little),[]))
 | _,_=>Zy
def lK:Sp
 | [.bs b,.agg [.str x,.str y,.str z]],[]=>aA (Zz (b.length+x.length+y.length+z.length<=70368744170000)) (Zx (.fO (Kerb.dI b ⟨x,y,z⟩),[]))
 | _,_=>Zy
def pu:Sp
 | [.bs b,.int .i64 n,.bool little],[]=>aA (Zz (b.length<=70368744177664)) (Zx (.fO (b++Kerb.aL n 2 little),[]))
 | _,_=>Zy
def IC:Sp
 | [.int .u64 k],[]=>aA (Zz (0<=k)&&Zz (k<18446744073709551616)) (Zx (.bC [.int .i64 (cond (Kerb.bW k) (Kerb.lT k) 0),.int .i64 (cond (Kerb.bW k) (Kerb.lu k) 0),.bool (Kerb.bW k)],[]))
 | _,_=>Zy
def RD:Sp
 | [.int .u64 x,.int .u64 y],[]=>Zx (.bool (Zz (x<y)),[])
 | _,_=>Zy
def RM:Sp
 | [.bs b,.sl 1 els],[]=>aA (sN els&&Zz (els.length<=1000)) (Zx (.bC [.bool (Kerb.bh b (nh els)).1,.int .i64 (Kerb.bh b (nh els)).2],[]))
 | _,_=>Zy
def gA:Sp
 | [.ptr 0 0,.int .i64 n],[(0,[.bs B,.int .i64 at_,.bool li,.bool bad])]=>aA (Zz (B.length<=140737488355328)) (Zx (.bs (Zg B at_ n).val,[[.bs B,.int .i64 (cond (bad || !((Zg B at_ n).err==0)) at_ (Zg B at_ n).next),.bool li,.bool (bad || !((Zg B at_ n).err==0))]]))
 | _,_=>Zy
def px:Sp
 | [.ptr 0 0],[(0,[.bs B,.int .i64 at_,.bool li,.bool bad])]=>aA (Zz (B.length<=140737488355328)) (Zx (.str (Kerb.text B at_).val,[[.bs B,.int .i64 (cond (bad || !((Kerb.text B at_).err==0)) at_ (Kerb.text B at_).next),.bool li,.bool (bad || !((Kerb.text B at_).err==0))]]))
 | _,_=>Zy
def yy:Sp
 | [.bs b,.int .i64 pos,.int .i64 k,.bool little],[]=>aA (Zz (b.length<=140737488355328)&&Zz (0<=k)&&Zz (k<=4)) (Zx (.bC [.int .i64 (Zv b pos k little).val,.int .i64 (Zv b pos k little).next,.int .i64 (Zv b pos k little).err],[]))
 | _,_=>Zy
def YC:Sp
 | [.int .i64 n],[]=>aA (Zz (0<=n)&&Zz (n<=4611686018427387904)) (Zx (.agg [.str (Kerb.user n).name,.str (Kerb.user n).inst,.str (Kerb.user n).aC],[]))
 | _,_=>Zy
def vF:Sp
 | [.bs b],[]=>aA (Zz (b.length<=4611686018427387904)) (Zx (.bC [.int .u64 (Kerb.cR b).1,.bool (Kerb.cR b).2],[]))
 | _,_=>Zy
def K5:Sp
 | [.agg [.bool li,.bool mu,.int .i64 kv,.str rl,.bs tk,.bs au]],[]=>aA (Zz (rl.length<=9223372036854775807)) (Zx (.bC [.bs (Kerb.bD (Kerb.df.mk li mu kv rl tk au)).val,.int .i64 (Kerb.bD (Kerb.df.mk li mu kv rl tk au)).err],[]))
 | _,_=>Zy
def Ru:Sp
 | [.agg [.int .i64 op,.int .i64 cd,.bs bx]],[]=>Zx (.bC [.bs (Kerb.cG ⟨op,cd,bx⟩).val,.int .i64 (Kerb.cG ⟨op,cd,bx⟩).err],[])
 | _,_=>Zy
def Iz:Sp
 | [.int .u64 k],[]=>aA (Zz (0<=k)&&Zz (k<18446744073709551616)) (Zx (.bool (Kerb.bW k),[]))
 | _,_=>Zy
def vC:Sp
 | [.int .u64 k],[]=>aA (Zz (0<=k)&&Zz (k<18446744073709551616)) (Zx (.sl 1 (Kerb.dl (Kerb.jj [k])),[]))
 | _,_=>Zy
def lY:Sp
 | [.agg [.str a,.str b,.str c]],[]=>aA (Zz (a.length<=9223372036854775807)&&Zz (b.length<=9223372036854775807)&&Zz (c.length<=9223372036854775807)) (Zx (.bool (Kerb.ck.valid ⟨a,b,c⟩),[]))
 | _,_=>Zy
def ID:Sp
 | [.b_ 0 55 1,.int .i64 a,.int .i64 b],[(0,els)]=>aA (Zu els&&Zz ((els.length:Int)<=1152921504606846976)&&Zz (0<=a)&&Zz (a<=b)&&Zz (b<=(els.length:Int))) (Zx (.bC [],[Kerb.AJ els a b]))
 | _,_=>Zy
def II:Sp
 | [.b_ 0 55 1,.int .i64 a,.int .i64 b],[(0,els)]=>aA (Zu els&&Zz ((els.length:Int)<=1152921504606846976)&&Zz (0<=a)&&Zz (a<=b)&&Zz (b<=(els.length:Int))&&Zz (a<b)) (Zx (.bool (Kerb.yf els a b).2,[(Kerb.yf els a b).1]))
 | _,_=>Zy
def EJ:Sp
 | [.b_ 0 55 1,.int .i64 a,.int .i64 b,.int .i64 p],[(0,els)]=>aA (Zu els&&Zz ((els.length:Int)<=1152921504606846976)&&Zz (0<=a)&&Zz (a<=b)&&Zz (b<=(els.length:Int))&&Zz (a<=p)&&Zz (p<b)) (Zx (.int .i64 (Kerb.F1 els a b p).1,[(Kerb.F1 els a b p).2]))
 | _,_=>Zy
def EK:Sp
 | [.b_ 0 55 1,.int .i64 a,.int .i64 b,.int .i64 p],[(0,els)]=>aA (Zu els&&Zz ((els.length:Int)<=1152921504606846976)&&Zz (0<=a)&&Zz (a<=b)&&Zz (b<=(els.length:Int))&&Zz (a<=p)&&Zz (p<b)) (Zx (.bC [.int .i64 (Kerb.part els a b p).1,.bool (Kerb.part els a b p).2.1],[(Kerb.part els a b p).2.2]))
 | _,_=>Zy
def CM:Sp
 | [.int .u64 k],[]=>aA (Zz (0<=k)&&Zz (k<18446744073709551616)) (Zx (.int .i64 (Kerb.jK k),[]))
 | _,_=>Zy
def EL:Sp
 | [.b_ 0 55 1,.int .i64 lo,.int .i64 hi,.int .i64 first],[(0,els)]=>aA (Zu els&&Zz ((els.length:Int)<=1152921504606846976)&&Zz (0<=lo)&&Zz (0<=hi)&&Zz (0<=first)&&Zz (first+hi<=(els.length:Int))&&Zz (lo<=(els.length:Int))) (Zx (.bC [],[Kerb.sift els lo hi first]))
 | _,_=>Zy
def IZ:Sp
 | [.int .i64 n],[]=>aA (Zz (0<=n)&&Zz (n<=4611686018427387904)) (Zx (.int .u64 (Kerb.QX n),[]))
 | _,_=>Zy
def I7:Sp
 | [.agg [.str lb,.int .i64 t,.int .i64 st,.int .i64 en,.int .u64 k]],[]=>aA (Zz (0<=k)&&Zz (k<18446744073709551616)) (Zx (.bC [.fO (Kerb.bR ⟨lb,t,st,en,k⟩).val,.int .i64 (Kerb.bR ⟨lb,t,st,en,k⟩).err],[]))
 | _,_=>Zy
def RL:Sp
 | [.bs b,.bool little],[]=>aA (Zz (b.length<=70368744177664)) (Zx (.fO (b++Kerb.aL (cond little 1 0) 1 Zw),[]))
 | _,_=>Zy
def nU:Sp
 | [.ptr 0 0],[(0,[.bs B,.int .i64 at_,.bool li,.bool bad])]=>aA (Zz (B.length<=140737488355328)) (Zx (.agg [.str (Kerb.dL B at_ bad).p.name,.str (Kerb.dL B at_ bad).p.inst,.str (Kerb.dL B at_ bad).p.aC],[[.bs B,.int .i64 (Kerb.dL B at_ bad).pos,.bool li,.bool (Kerb.dL B at_ bad).bad]]))
 | _,_=>Zy
def RN:Sp
 | [.bs s,.bool li],[]=>Zx (.bC [.bs (Kerb.dC s li).val,.int .i64 (Kerb.dC s li).err],[])
 | _,_=>Zy
def CO:Sp
 | [.b_ 0 55 1,.int .i64 a,.int .i64 b,.ptr 3 0],[(0,els),(3,[.int .i64 s])]=>aA (Zu els&&Zz ((els.length:Int)<=1152921504606846976)&&Zz (0<=a)&&Zz (a<(els.length:Int))&&Zz (0<=b)&&Zz (b<(els.length:Int))&&Zz (0<=s)&&Zz (s<=1000)) (Zx (.bC [.int .i64 (Kerb.order2 els a b s).1,.int .i64 (Kerb.order2 els a b s).2.1],[els,[.int .i64 (Kerb.order2 els a b s).2.2]]))
 | _,_=>Zy
def I_:Sp
 | [.bs b,.int .i64 pos,.bool little],[]=>aA (Zz (b.length<=140737488355328)) (Zx (.bC [.int .i64 (Zv b pos 4 little).val,.int .i64 (Zv b pos 4 little).next,.int .i64 (Zv b pos 4 little).err],[]))
 | _,_=>Zy
def I':Sp
 | [.bs b,.int .i64 pos],[]=>aA (Zz (b.length<=140737488355328)) (Zx (.bC [.int .i64 (Zv b pos 1 Zw).val,.int .i64 (Zv b pos 1 Zw).next,.int .i64 (Zv b pos 1 Zw).err],[]))
 | _,_=>Zy
def Ja:Sp
 | [.bs b,.int .i64 pos,.bool little],[]=>aA (Zz (b.length<=140737488355328)) (Zx (.bC [.int .i64 (Zv b pos 2 little).val,.int .i64 (Zv b pos 2 little).next,.int .i64 (Zv b pos 2 little).err],[]))
 | _,_=>Zy
def RS:Sp
 | [.bs b],[]=>aA (Zz (b.length<=140737488355328)) (Zx (.bC [.agg [.int .i64 (Zb b).box.kind,.int .u64 (Zb b).box.key,.bs (Zb b).box.body],.int .i64 (Zb b).n,.int .i64 (Zb b).err],[]))
 | _,_=>Zy
def RX:Sp
 | [.bs b],[]=>aA (Zz (b.length<=4611686018427387904)) (Zx (.bC [.int .u64 (Kerb.cR b).1,.bool (Kerb.cR b).2],[]))
 | _,_=>Zy
def RZ:Sp
 | [.agg [.bool li,.bool mu,.int .i64 kv,.str rl,.bs tk,.bs au,.int .i64 tm,.int .i64 lf,.str sv,.str ins]],[]=>aA (Zz (rl.length<=9223372036854775807)&&Zz (sv.length<=9223372036854775807)&&Zz (ins.length<=9223372036854775807)) (Zx (.bC [.bs (Kerb.dV (Kerb.fy.mk (Kerb.df.mk li mu kv rl tk au) tm lf sv ins)).val,.int .i64 (Kerb.dV (Kerb.fy.mk (Kerb.df.mk li mu kv rl tk au) tm lf sv ins)).err],[]))
 | _,_=>Zy
def R2:Sp
 | [.agg [.bool li,.str x,.str y,.str z,.int .i64 t,.int .i64 ex,.int .i64 kv,.bs sd]],[]=>aA (Zz (x.length<=9223372036854775807)&&Zz (y.length<=9223372036854775807)&&Zz (z.length<=9223372036854775807)) (Zx (.bC [.bs (Kerb.bK ⟨li,⟨x,y,z⟩,t,ex,kv,sd⟩).val,.int .i64 (Kerb.bK ⟨li,⟨x,y,z⟩,t,ex,kv,sd⟩).err],[]))
 | _,_=>Zy
def Iy:Sp
 | [.agg [.int .i64 op,.str ux,.str uy,.str uz,.bs bx]],[]=>aA (Zz (ux.length<=9223372036854775807)&&Zz (uy.length<=9223372036854775807)&&Zz (uz.length<=9223372036854775807)) (Zx (.bC [.bs (Kerb.eY ⟨op,⟨ux,uy,uz⟩,bx⟩).val,.int .i64 (Kerb.eY ⟨op,⟨ux,uy,uz⟩,bx⟩).err],[]))
 | _,_=>Zy
def Rt:Sp
 | [.agg [.int .i64 op,.str ux,.str uy,.str uz,.int .i64 kv,.str rl,.bs tk,.str sv,.str ins,.bs bx]],[]=>aA (Zz (ux.length<=9223372036854775807)&&Zz (uy.length<=9223372036854775807)&&Zz (uz.length<=9223372036854775807)&&Zz (rl.length<=9223372036854775807)&&Zz (sv.length<=9223372036854775807)&&Zz (ins.length<=9223372036854775807)) (Zx (.bC [.bs (Kerb.bF ⟨op,⟨ux,uy,uz⟩,kv,rl,tk,sv,ins,bx⟩).val,.int .i64 (Kerb.bF ⟨op,⟨ux,uy,uz⟩,kv,rl,tk,sv,ins,bx⟩).err],[]))
 | _,_=>Zy
def IB:Sp
 | [.agg [.str cx,.str cy,.str cz,.str sx,.str sy,.str sz,.int .u64 k,.int .i64 t,.int .i64 e,.int .i64 a]],[]=>aA (Zz (cx.length<=9223372036854775807)&&Zz (cy.length<=9223372036854775807)&&Zz (cz.length<=9223372036854775807)&&Zz (sx.length<=9223372036854775807)&&Zz (sy.length<=9223372036854775807)&&Zz (sz.length<=9223372036854775807)&&Zz (0<=k)&&Zz (k<18446744073709551616)) (Zx (.bC [.bs (Kerb.fz ⟨⟨cx,cy,cz⟩,⟨sx,sy,sz⟩,k,t,e,a⟩).val,.int .i64 (Kerb.fz ⟨⟨cx,cy,cz⟩,⟨sx,sy,sz⟩,k,t,e,a⟩).err],[]))
 | _,_=>Zy
def IE:Sp
 | [.b_ 0 55 1,.int .i64 a,.int .i64 b],[(0,els)]=>aA (Zu els&&Zz ((els.length:Int)<=1152921504606846976)&&Zz (0<=a)&&Zz (a<=b)&&Zz (b<=(els.length:Int))) (Zx (.bC [],[Kerb.LN els a b]))
 | _,_=>Zy
def IF:Sp
 | [.b_ 0 55 1,.int .i64 a,.int .i64 b],[(0,els)]=>aA (Zu els&&Zz ((els.length:Int)<=1152921504606846976)&&Zz (0<=a)&&Zz (a<=b)&&Zz (b<=(els.length:Int))) (Zx (.bC [],[Kerb.E9 els a b]))
 | _,_=>Zy
def IK:Sp
 | [.agg [.int .u64 k,.str sx,.str sy,.str sz,.int .i64 t,.int .i64 e,.bs rc]],[]=>aA (Zz (sx.length<=9223372036854775807)&&Zz (sy.length<=9223372036854775807)&&Zz (sz.length<=9223372036854775807)&&Zz (0<=k)&&Zz (k<18446744073709551616)) (Zx (.bC [.bs (Kerb.eK ⟨k,⟨sx,sy,sz⟩,t,e,rc⟩).val,.int .i64 (Kerb.eK ⟨k,⟨sx,sy,sz⟩,t,e,rc⟩).err],[]))
 | _,_=>Zy
def Ab:Sp
 | [.b_ 0 55 1,.int .i64 a,.int .i64 b,.int .i64 c,.ptr 4 0],[(0,els),(4,[.int .i64 s])]=>aA (Zu els&&Zz ((els.length:Int)<=1152921504606846976)&&Zz (0<=a)&&Zz (a<(els.length:Int))&&Zz (0<=b)&&Zz (b<(els.length:Int))&&Zz (0<=c)&&Zz (c<(els.length:Int))&&Zz (0<=s)&&Zz (s<=900)) (Zx (.int .i64 (Kerb.median els a b c s).1,[els,[.int .i64 (Kerb.median els a b c s).2]]))
 | _,_=>Zy
def I6:Sp
 | [.agg [.int .u64 k,.str x,.str y,.str z,.int .i64 lf,.int .i64 kv,.bs tk,.int .i64 t],.bool little],[]=>aA (Zz (x.length<=9223372036854775807)&&Zz (y.length<=9223372036854775807)&&Zz (z.length<=9223372036854775807)&&Zz (0<=k)&&Zz (k<18446744073709551616)) (Zx (.bC [.bs (Kerb.bO ⟨k,⟨x,y,z⟩,lf,kv,tk,t⟩ little).val,.int .i64 (Kerb.bO ⟨k,⟨x,y,z⟩,lf,kv,tk,t⟩ little).err],[]))
 | _,_=>Zy
def I8:Sp
 | [.agg [.bool li,.str x,.str y,.str z,.int .i64 ad,.int .u64 k,.int .i64 lf,.int .i64 OT,.str sv,.str ins]],[]=>aA (Zz (x.length<=9223372036854775807)&&Zz (y.length<=9223372036854775807)&&Zz (z.length<=9223372036854775807)&&Zz (sv.length<=9223372036854775807)&&Zz (ins.length<=9223372036854775807)&&Zz (0<=k)&&Zz (k<18446744073709551616)) (Zx (.int .i64 (Kerb.eU.mk li ⟨x,y,z⟩ ad k lf OT sv ins).err,[]))
 | _,_=>Zy
def js:Sp
 | [.ptr 0 0],[(0,[.bs B,.int .i64 at_,.bool li,.bool bad])]=>aA (Zz (B.length<=140737488355328)) (Zx (.int .i64 (Zv B at_ 4 li).val,[[.bs B,.int .i64 (cond (bad || !((Zv B at_ 4 li).err==0)) at_ (Zv B at_ 4 li).next),.bool li,.bool (bad || !((Zv B at_ 4 li).err==0))]]))
 | _,_=>Zy
def iJ:Sp
 | [.ptr 0 0],[(0,[.bs B,.int .i64 at_,.bool li,.bool bad])]=>aA (Zz (B.length<=140737488355328)) (Zx (.int .i64 (Zv B at_ 1 Zw).val,[[.bs B,.int .i64 (cond (bad || !((Zv B at_ 1 Zw).err==0)) at_ (Zv B at_ 1 Zw).next),.bool li,.bool (bad || !((Zv B at_ 1 Zw).err==0))]]))
 | _,_=>Zy
def pw:Sp
 | [.ptr 0 0],[(0,[.bs B,.int .i64 at_,.bool li,.bool bad])]=>aA (Zz (B.length<=140737488355328)) (Zx (.int .i64 (Zv B at_ 2 li).val,[[.bs B,.int .i64 (cond (bad || !((Zv B at_ 2 li).err==0)) at_ (Zv B at_ 2 li).next),.bool li,.bool (bad || !((Zv B at_ 2 li).err==0))]]))
 | _,_=>Zy
def I9:Sp
 | [.agg [.str lb,.int .i64 t,.int .u64 k,.int .i64 st,.int .i64 en,.int .i64 kv,.str x,.str y,.str z,.bs tk]],[]=>aA (Zz (x.length<=9223372036854775807)&&Zz (y.length<=9223372036854775807)&&Zz (z.length<=9223372036854775807)&&Zz (0<=k)&&Zz (k<18446744073709551616)) (Zx (.bC [.bs (Kerb.cg ⟨lb,t,k,st,en,kv,⟨x,y,z⟩,tk⟩).val,.int .i64 (Kerb.cg ⟨lb,t,k,st,en,kv,⟨x,y,z⟩,tk⟩).err],[]))
 | _,_=>Zy
def K4:Sp
 | [.bs b],[]=>aA (Zz (b.length<=140737488355328)) (Zx (.bC [.agg [.int .i64 (Zb b).box.kind,.int .u64 (Zb b).box.key,.bs (Zb b).box.body],.int .i64 (Zb b).n,.int .i64 (Zb b).err],[]))
 | _,_=>Zy
def RR:Sp
 | [.bs b],[]=>aA (Zz (b.length<=140737488355328)) (Zx (.bool (Kerb.k8 b),[]))
 | _,_=>Zy
def IL:Sp
 | [.agg [.bool li,.str x,.str y,.str z,.int .i64 ad,.int .u64 k,.int .i64 lf,.int .i64 OT,.str sv,.str ins]],[]=>aA (Zz (x.length<=9223372036854775807)&&Zz (y.length<=9223372036854775807)&&Zz (z.length<=9223372036854775807)&&Zz (sv.length<=9223372036854775807)&&Zz (ins.length<=9223372036854775807)&&Zz (0<=k)&&Zz (k<18446744073709551616)) (Zx (.bC [.bs (Kerb.ca (Kerb.eU.mk li ⟨x,y,z⟩ ad k lf OT sv ins)).val,.int .i64 (Kerb.ca (Kerb.eU.mk li ⟨x,y,z⟩ ad k lf OT sv ins)).err],[]))
 | _,_=>Zy
def IM:Sp
 | [.bs b],[]=>aA (Zz (b.length<=140737488355328)) (Zx (.bC [.agg [.bool ((Kerb.bJ b).val).little,.str ((Kerb.bJ b).val).client.name,.str ((Kerb.bJ b).val).client.inst,.str ((Kerb.bJ b).val).client.aC,.int .i64 ((Kerb.bJ b).val).time,.int .i64 ((Kerb.bJ b).val).cD,.int .i64 ((Kerb.bJ b).val).bI,.bs ((Kerb.bJ b).val).cQ],.int .i64 (Kerb.bJ b).err],[]))
 | _,_=>Zy
def IU:Sp
 | [.bs b],[]=>aA (Zz (b.length<=140737488355328)) (Zx (.bC [.bs (Kerb.j_ b).val,.bool (Kerb.j_ b).little,.int .i64 (Kerb.j_ b).err],[]))
 | _,_=>Zy
def IV:Sp
 | [.bs b],[]=>aA (Zz (b.length<=140737488355328)) (Zx (.bC [.bs (Kerb.ny b).plain,.bs (Kerb.ny b).cQ,.bool (Kerb.ny b).little,.int .i64 (Kerb.ny b).err],[]))
 | _,_=>Zy
def IW:Sp
 | [.bs b],[]=>aA (Zz (b.length<=140737488355328)) (Zx (.bC [.agg [.int .i64 ((Zd b).val).op,.str ((Zd b).val).user.name,.str ((Zd b).val).user.inst,.str ((Zd b).val).user.aC,.int .i64 ((Zd b).val).bI,.str ((Zd b).val).aC,.bs ((Zd b).val).aE,.str ((Zd b).val).service,.str ((Zd b).val).inst,.bs ((Zd b).val).box],.int .i64 (Zd b).err],[]))
 | _,_=>Zy
def IX:Sp
 | [.bs b],[]=>aA (Zz (b.length<=140737488355328)) (Zx (.bC [.agg [.int .i64 ((Kerb.dZ b).val).op,.int .i64 ((Kerb.dZ b).val).code,.bs ((Kerb.dZ b).val).box],.int .i64 (Kerb.dZ b).err],[]))
 | _,_=>Zy
def IY:Sp
 | [.bs b],[]=>aA (Zz (b.length<=140737488355328)) (Zx (.bC [.agg [.int .i64 ((Kerb.ez b).val).op,.str ((Kerb.ez b).val).name.name,.str ((Kerb.ez b).val).name.inst,.str ((Kerb.ez b).val).name.aC,.bs ((Kerb.ez b).val).box],.int .i64 (Kerb.ez b).err],[]))
 | _,_=>Zy
def CN:Sp
 | [.b_ 0 55 1,.int .i64 a,.ptr 2 0],[(0,els),(2,[.int .i64 s])]=>aA (Zu els&&Zz ((els.length:Int)<=1152921504606846976)&&Zz (1<=a)&&Zz (a+1<(els.length:Int))&&Zz (0<=s)&&Zz (s<=800)) (Zx (.int .i64 (Kerb.FR els a s).1,[els,[.int .i64 (Kerb.FR els a s).2]]))
 | _,_=>Zy
def EM:Sp
 | [.bs b,.bool little],[]=>aA (Zz (b.length<=140737488355328)) (Zx (.bC [.agg [.int .u64 ((Kerb.bU b little).val).af,.str ((Kerb.bU b little).val).service.name,.str ((Kerb.bU b little).val).service.inst,.str ((Kerb.bU b little).val).service.aC,.int .i64 ((Kerb.bU b little).val).bZ,.int .i64 ((Kerb.bU b little).val).bI,.bs ((Kerb.bU b little).val).aE,.int .i64 ((Kerb.bU b little).val).time],.int .i64 (Kerb.bU b little).err],[]))
 | _,_=>Zy
def I2:Sp
 | [.bs b],[]=>aA (Zz (b.length<=140737488355328)) (Zx (.bC [.agg [.str ((Kerb.eF b).val).label,.int .i64 ((Kerb.eF b).val).time,.int .i64 ((Kerb.eF b).val).start,.int .i64 ((Kerb.eF b).val).stop,.int .u64 ((Kerb.eF b).val).new],.int .i64 (Kerb.eF b).err],[]))
 | _,_=>Zy
def I3:Sp
 | [.bs b],[]=>aA (Zz (b.length<=140737488355328)) (Zx (.bC [.agg [.str ((Zj b).val).label,.int .i64 ((Zj b).val).time,.int .u64 ((Zj b).val).af,.int .i64 ((Zj b).val).start,.int .i64 ((Zj b).val).stop,.int .i64 ((Zj b).val).bI,.str ((Zj b).val).service.name,.str ((Zj b).val).service.inst,.str ((Zj b).val).service.aC,.bs ((Zj b).val).aE],.int .i64 (Zj b).err],[]))
 | _,_=>Zy
def I4:Sp
 | [.bs b],[]=>aA (Zz (b.length<=140737488355328)) (Zx (.bC [.agg [.str ((Zp b).val).client.name,.str ((Zp b).val).client.inst,.str ((Zp b).val).client.aC,.str ((Zp b).val).service.name,.str ((Zp b).val).service.inst,.str ((Zp b).val).service.aC,.int .u64 ((Zp b).val).af,.int .i64 ((Zp b).val).start,.int .i64 ((Zp b).val).stop,.int .i64 ((Zp b).val).addr],.int .i64 (Zp b).err],[]))
 | _,_=>Zy
def I5:Sp
 | [.bs b],[]=>aA (Zz (b.length<=140737488355328)) (Zx (.bC [.agg [.int .u64 ((Kerb.cU b).val).af,.str ((Kerb.cU b).val).service.name,.str ((Kerb.cU b).val).service.inst,.str ((Kerb.cU b).val).service.aC,.int .i64 ((Kerb.cU b).val).start,.int .i64 ((Kerb.cU b).val).stop,.bs ((Kerb.cU b).val).record],.int .i64 (Kerb.cU b).err],[]))
 | _,_=>Zy
def RQ:Sp
 | [.bs b],[]=>aA (Zz (b.length<=140737488355328)) (Zx (.bool (Kerb.k8 b),[]))
 | _,_=>Zy
def IG:Sp
 | [.b_ 0 55 1,.int .i64 a,.int .i64 b],[(0,els)]=>aA (Zu els&&Zz ((els.length:Int)<=1152921504606846976)&&Zz (0<=a)&&Zz (a<=b)&&Zz (b<=(els.length:Int))&&Zz (a+8<=b)) (Zx (.bC [.int .i64 (Kerb.Ib els a b).1,.int .i64 (Kerb.Hi (Kerb.Ib els a b).2)],[els]))
 | _,_=>Zy
def pc:Sp
 | [.sl 1 bs],[]=>aA (Kerb.ve bs) (Zx (.sl 1 (Kerb.dG (Kerb.i_ (Kerb.gp bs))),[]))
 | _,_=>Zy
def IP:Sp
 | [.bs b],[]=>aA (Zz (b.length<=140737488355328)) (Zx (.bC [.agg [.bool ((Kerb.eP b).val).little,.bool ((Kerb.eP b).val).dx,.int .i64 ((Kerb.eP b).val).bI,.str ((Kerb.eP b).val).aC,.bs ((Kerb.eP b).val).aE,.bs ((Kerb.eP b).val).eS],.int .i64 (Kerb.eP b).err],[]))
 | _,_=>Zy
def IQ:Sp
 | [.bs b],[]=>aA (Zz (b.length<=140737488355328)) (Zx (.bC [.agg [.bool ((Zk b).val).ap.little,.bool ((Zk b).val).ap.dx,.int .i64 ((Zk b).val).ap.bI,.str ((Zk b).val).ap.aC,.bs ((Zk b).val).ap.aE,.bs ((Zk b).val).ap.eS,.int .i64 ((Zk b).val).time,.int .i64 ((Zk b).val).bZ,.str ((Zk b).val).service,.str ((Zk b).val).inst],.int .i64 (Zk b).err],[]))
 | _,_=>Zy
def I1:Sp
 | [.bs b],[]=>aA (Zz (b.length<=140737488355328)) (Zx (.bC [.agg [.bool ((Zf b).val).little,.str ((Zf b).val).client.name,.str ((Zf b).val).client.inst,.str ((Zf b).val).client.aC,.int .i64 ((Zf b).val).address,.int .u64 ((Zf b).val).af,.int .i64 ((Zf b).val).bZ,.int .i64 ((Zf b).val).cH,.str ((Zf b).val).service,.str ((Zf b).val).inst],.int .i64 (Zf b).err],[]))
 | _,_=>Zy
def OE:Sp
 | [.bs b],[]=>aA (Zz (b.length<=140737488355328)) (Zx (.bC [.agg [.int .i64 (Kerb.qR b).1.kind,.int .u64 (Kerb.qR b).1.key,.bs (Kerb.qR b).1.body],.bool (Kerb.qR b).2],[]))
 | _,_=>Zy
def vA(qV:Nat):Sp
 | [.b_ 0 55 1,.int .i64 a,.int .i64 b,.int .i64 l],[(0,els)]=>aA ((Zu els&&Zz ((els.length:Int)<=1152921504606846976)&&Kerb.nn a&&Zz (a<=b)&&Zz (b<=(els.length:Int))&&Zz (0<=l)&&Zz (l<=64))&&Zz (b-a<(qV:Int))) (Zx (.bC [],[Kerb.QV els a b l]))
 | _,_=>Zy
def EI:Sp
 | [.b_ 0 55 1,.int .i64 a,.int .i64 b,.int .i64 l],[(0,els)]=>aA (Zu els&&Zz ((els.length:Int)<=1152921504606846976)&&Kerb.nn a&&Zz (a<=b)&&Zz (b<=(els.length:Int))&&Zz (0<=l)&&Zz (l<=64)) (Zx (.bC [],[Kerb.QV els a b l]))
 | _,_=>Zy
def RC:Sp
 | [.bs b],[]=>aA (Zz (b.length<=70368744170000)) (Zx (.sl 1 (Kerb.dG (Kerb.partsOf b)),[]))
 | _,_=>Zy
def RF:Sp
 | [.agg [.int .i64 kd,.int .u64 k,.bs b]],[]=>aA (Zz (b.length<=70368744170000)) (Zx (.bC [.sl 1 (Kerb.dl (Kerb.jv ⟨kd,k,b⟩).keys),.sl 1 (Kerb.dG (Kerb.jv ⟨kd,k,b⟩).boxes)],[]))
 | _,_=>Zy
def YD:Sp
 | [.bs a,.bs b],[]=>aA (Zz (a.length<=140737488355328)&&Zz (b.length<=140737488355328)) (Zx (.bool (Kerb.Gd a b),[]))
 | _,_=>Zy
def RW:Sp
 | [.b_ 0 55 1],[(0,els)]=>aA (Zu els&&Zz ((els.length:Int)<=1152921504606846976)) (Zx (.bC [],[Kerb.vB els]))
 | _,_=>Zy
def EG(qV:Nat):Sp
 | [.agg [.sl 1 ks,.sl 1 bs]],[]=>aA ((Kerb.eo ks bs)&&Zz ((Kerb.fb (Zq ks bs):Int)<(qV:Int))) (Zx (.agg [.sl 1 (Kerb.dl (Kerb.close (Zq ks bs)).keys),.sl 1 (Kerb.dG (Kerb.close (Zq ks bs)).boxes)],[]))
 | _,_=>Zy
def Mo:Sp
 | [.agg [.sl 1 ks,.sl 1 bs]],[]=>aA (Kerb.eo ks bs) (Zx (.agg [.sl 1 (Kerb.dl (Kerb.close (Zq ks bs)).keys),.sl 1 (Kerb.dG (Kerb.close (Zq ks bs)).boxes)],[]))
 | _,_=>Zy
def EH(qV:Nat):Sp
 | [.agg [.sl 1 ks,.sl 1 bs],.bs b],[]=>aA ((Kerb.eo ks bs&&Zz (b.length<=70368744170000))&&Zz ((b.length:Int)<(qV:Int))) (Zx (.bool (Kerb.eu (Zq ks bs) b),[]))
 | _,_=>Zy
def Mp:Sp
 | [.agg [.sl 1 ks,.sl 1 bs],.bs b],[]=>aA (Kerb.eo ks bs&&Zz (b.length<=70368744170000)) (Zx (.bool (Kerb.eu (Zq ks bs) b),[]))
 | _,_=>Zy
def OD:Sp
 | [.sl 1 l,.int .u64 k],[]=>aA (Zu l&&Zz ((l.length:Int)<=100000000)) (Zx (.aD (Kerb.PB (Kerb.vB (l++[.int .u64 k]))),[]))
 | _,_=>Zy
def ji:Sp
 | [.agg [.sl 1 ks,.sl 1 bs],.int .u64 k],[]=>aA (Kerb.eo ks bs&&Zz (0<=k)&&Zz (k<18446744073709551616)&&Zz (Kerb.fb (Zq ks bs)+1<=1000000)) (Zx (.agg [.sl 1 (Kerb.dl (Kerb.leak (Zq ks bs) k).keys),.sl 1 (Kerb.dG (Kerb.leak (Zq ks bs) k).boxes)],[]))
 | _,_=>Zy
def fH:Sp
 | [.agg [.sl 1 ks,.sl 1 bs],.bs b],[]=>aA (Kerb.eo ks bs&&Zz (Kerb.fb (Zq ks bs)+2*b.length+2100<=1000000)) (Zx (.agg [.sl 1 (Kerb.dl (Kerb.learn (Zq ks bs) b).keys),.sl 1 (Kerb.dG (Kerb.learn (Zq ks bs) b).boxes)],[]))
 | _,_=>Zy
def fI:Sp
 | [.agg [.sl 1 ks,.sl 1 bs],.bs b],[]=>aA (Kerb.eo ks bs&&Zz (b.length<=70368744160000)) (Zx (.bool (Kerb.AC (Zq ks bs) b),[]))
 | _,_=>Zy
def Jo:List (Nat×Nat×List CT×Sp):=[(19,1,[.sl 1,.sl 1],Yt),(25,1,[.eL,.int .u16],YA),(26,1,[.int .i64],YB),(36,1,[.eL,.eL],YE),(48,1,[.sl 1,.int .u64],jh),(66,1,[.sl 1,.int .u64],RV),(71,1,[.int .i64],YG),(72,1,[.eL],RY),(74,1,[.int .i64],YH),(108,1,[],Rv),(117,1,[.other,.other],IA),(152,1,[.int .i64,.int .i64],Rx),(154,1,[.int .i64,.bool],Ry),(155,1,[.eL,.str],lJ),(160,1,[.int .i64,.int .i64],Rz),(168,1,[.int .i64],RA),(169,1,[.int .i64,.int .i64],RB),(186,1,[.sl 1,.int .i64,.int .i64],IH),(192,1,[.int .u64],IJ),(193,1,[.int .i64,.int .i64],RE),(197,1,[.str,.str],yw),(204,1,[.eL],RG),(228,1,[.int .i64,.int .i64],RH),(232,1,[.eL,.int .i64,.int .i64,.bool],yx),(235,1,[.int .u64],o_),(236,1,[.eL],mK),(247,1,[.int .i64],RI),(248,1,[.int .i64],RJ),(260,1,[.ptr],I0),(263,1,[.int .u64],RK),(362,1,[.int .i64,.int .i64],RO),(401,1,[.ptr,.int .i64,.int .i64],RP),(404,1,[.eL,.int .i64,.int .i64],CP),(405,1,[.eL,.int .i64],Jb),(42,2,[.other,.int .u64],YF),(60,2,[.int .i64],RU),(119,2,[.int .u64],CL),(120,2,[.int .u64],nT),(124,2,[.str],yv),(131,2,[.other,.sl 1,.sl 1],Rw),(153,2,[.eL,.int .i64],gV),(156,2,[.str],vD),(157,2,[.str],vE),(158,2,[.eL,.int .i64,.bool],gQ),(161,2,[.eL,.other],lK),(162,2,[.eL,.int .i64,.bool],pu),(179,2,[.int .u64],IC),(188,2,[.int .u64,.int .u64],RD),(337,2,[.eL,.sl 1],RM),(342,2,[.ptr,.int .i64],gA),(344,2,[.ptr],px),(425,2,[.eL,.int .i64,.int .i64,.bool],yy),(27,3,[.int .i64],YC),(73,3,[.eL],vF),(94,3,[.other],K5),(104,3,[.other],Ru),(114,3,[.int .u64],Iz),(132,3,[.int .u64],vC),(159,3,[.other],lY),(182,3,[.sl 1,.int .i64,.int .i64],ID),(187,3,[.sl 1,.int .i64,.int .i64],II),(189,3,[.sl 1,.int .i64,.int .i64,.int .i64],EJ),(190,3,[.sl 1,.int .i64,.int .i64,.int .i64],EK),(230,3,[.int .u64],CM),(258,3,[.sl 1,.int .i64,.int .i64,.int .i64],EL),(259,3,[.int .i64],IZ),(304,3,[.other],I7),(308,3,[.eL,.bool],RL),(338,3,[.ptr],nU),(345,3,[.eL,.bool],RN),(346,3,[.sl 1,.int .i64,.int .i64,.ptr],CO),(400,3,[.eL,.int .i64,.bool],I_),(402,3,[.eL,.int .i64],I'),(403,3,[.eL,.int .i64,.bool],Ja),(50,4,[.eL],RS),(70,4,[.eL],RX),(96,4,[.other],RZ),(97,4,[.other],R2),(100,4,[.other],Iy),(103,4,[.other],Rt),(166,4,[.other],IB),(183,4,[.sl 1,.int .i64,.int .i64],IE),(184,4,[.sl 1,.int .i64,.int .i64],IF),(231,4,[.other],IK),(262,4,[.sl 1,.int .i64,.int .i64,.int .i64,.ptr],Ab),(292,4,[.other,.bool],I6),(306,4,[.other],I8),(339,4,[.ptr],js),(340,4,[.ptr],iJ),(341,4,[.ptr],pw),(347,4,[.other],I9),(47,5,[.eL],K4),(49,5,[.eL],RR),(233,5,[.other],IL),(249,5,[.eL],IM),(253,5,[.eL],IU),(254,5,[.eL],IV),(255,5,[.eL],IW),(256,5,[.eL],IX),(257,5,[.eL],IY),(261,5,[.sl 1,.int .i64,.ptr],CN),(270,5,[.eL,.bool],EM),(271,5,[.eL],I2),(272,5,[.eL],I3),(273,5,[.eL],I4),(274,5,[.eL],I5),(46,6,[.eL],RQ),(185,6,[.sl 1,.int .i64,.int .i64],IG),(250,6,[.sl 1],pc),(251,6,[.eL],IP),(252,6,[.eL],IQ),(269,6,[.eL],I1)]
def K':List (Nat×Nat×List CT×Sp):=[(61,7,[.eL],OE),(118,7,[.sl 1,.int .i64,.int .i64,.int .i64],EI),(181,7,[.eL],RC),(203,7,[.other],RF)]
def OH:List (Nat×Nat×List CT×Sp):=[(31,8,[.eL,.eL],YD),(68,8,[.sl 1],RW),(133,8,[.other],Mo),(201,8,[.other,.eL],Mp),(45,9,[.sl 1,.int .u64],OD),(85,9,[.other,.int .u64],ji),(116,9,[.other,.eL],fH),(130,9,[.other,.eL],fI)]
def YT:List (Nat×Nat×List CT×Sp):=Jo++K'++OH
def aaO:List (Nat×List AV):=[]
noncomputable def XE:List (Nat×Func):=[(28,Tryz.f28),(29,Tryz.f29),(33,Tryz.f33),(34,Tryz.f34),(37,Tryz.f37),(38,Tryz.f38),(43,Tryz.f43),(44,Tryz.f44),(54,Tryz.f54),(69,Tryz.f69),(86,Tryz.f86),(137,Tryz.f137),(202,Tryz.f202),(237,Tryz.f237),(10,Tryz.f10),(35,Tryz.f35),(67,Tryz.f67),(83,Tryz.f83),(141,Tryz.f141),(172,Tryz.f172),(13,Tryz.f13),(109,Tryz.f109),(128,Tryz.f128),(149,Tryz.f149),(62,Tryz.f62),(148,Tryz.f148),(39,Tryz.f39),(343,Tryz.f343),(135,Tryz.f135),(30,Tryz.f30),(8,Tryz.f8),(84,Tryz.f84),(139,Tryz.f139),(88,Tryz.f88),(89,Tryz.f89),(90,Tryz.f90),(91,Tryz.f91),(92,Tryz.f92),(93,Tryz.f93),(134,Tryz.f134),(136,Tryz.f136),(87,Tryz.f87),(53,Tryz.f53),(40,Tryz.f40),(15,Tryz.f15)]
def look{α:Type}(k:Nat):List (Nat×α)->Option α
 | []=>Zy
 | (j,x)::r=>cond (Nat.beq j k) (Zx x) (look k r)
def HL{α:Type}(k m:Nat):List (Nat×Nat×List α)->List α
 | []=>[]
 | (j,i,x)::r=>cond (Nat.beq j k) (cond (Nat.beq i m) x (HL k m r)) (HL k m r)
noncomputable def G0:iY:={ ty:=fun t=>(YU[t]?).join,keep:=fun f r=>HL f r UQ,own:=fun f=>agx.contains f,qY:=fun q=>look q aaO,rts:=fun f=>look f agM,uc:=fun f=>look f YT,inl:=fun f=>look f XE }
noncomputable def U2:List (Nat×Nat×List CT×Func):=[(18,1,[.sl 51,.int .u64,.int .i64],Tryz.f18),(55,1,[.u8,.int .i64],Tryz.f55),(56,1,[.other,.other],Tryz.f56),(57,1,[.other,.other],Tryz.f57),(75,1,[.other,.int .i64],Tryz.f75),(105,1,[.other,.int .i64],Tryz.f105),(107,1,[.other,.other],Tryz.f107),(123,1,[.int .i64],Tryz.f123),(125,1,[.sl 4,.str,.str,.int .i64],Tryz.f125),(129,1,[.str,.str],Tryz.f129),(170,1,[.other,.int .i64],Tryz.f170),(171,1,[.eL,.other],Tryz.f171),(195,1,[.other,.other],Tryz.f195),(196,1,[.other,.other],Tryz.f196),(213,1,[.sl 7,.other],Tryz.f213),(216,1,[.int .i64,.int .i64],Tryz.f216),(218,1,[.other],Tryz.f218),(222,1,[.int .i64,.int .i64],Tryz.f222),(229,1,[.int .i64,.int .i64],Tryz.f229),(264,1,[.int .i64,.int .i64],Tryz.f264),(266,1,[.int .i64,.int .i64],Tryz.f266),(267,1,[.other,.other],Tryz.f267),(268,1,[.sl 5,.other,.int .i64],Tryz.f268),(275,1,[.int .i64,.int .i64],Tryz.f275),(282,1,[.sl 1,.int .i64],Tryz.f282),(299,1,[.int .i64],Tryz.f299),(300,1,[.int .i64],Tryz.f300),(303,1,[.int .i64],Tryz.f303),(348,1,[.other,.str,.str],Tryz.f348),(353,1,[.int .i64],Tryz.f353),(354,1,[.sl 4,.str,.str],Tryz.f354),(356,1,[.other,.int .i64,.other],Tryz.f356),(358,1,[.int .i64],Tryz.f358),(363,1,[.int .i64,.int .i64],Tryz.f363),(407,1,[.other,.int .i64,.other],Tryz.f407),(17,2,[.sl 51,.int .u64,.int .i64],Tryz.f17),(79,2,[.sl 13,.sl 2],Tryz.f79),(101,2,[.other,.u8],Tryz.f101),(106,2,[.other,.int .i64],Tryz.f106),(150,2,[.other],Tryz.f150),(220,2,[.other,.other],Tryz.f220),(223,2,[.int .i64,.int .i64],Tryz.f223),(225,2,[.sl 1,.int .i64,.int .i64],Tryz.f225),(281,2,[.int .i64,.int .i64,.sl 1],Tryz.f281),(288,2,[.other,.int .i64,.int .i64],Tryz.f288),(296,2,[.int .i64,.int .i64,.int .i64],Tryz.f296),(360,2,[.other,.int .i64],Tryz.f360),(59,3,[.other,.int .i64,.int .i64,.u8,.int .i64],Tryz.f59),(76,3,[.int .i64,.int .i64],Tryz.f76),(78,3,[.sl 4],Tryz.f78),(95,3,[.other,.u8,.int .i64],Tryz.f95),(145,3,[.sl 1,.int .i64,.int .i64],Tryz.f145),(167,3,[.int .i64,.int .u64,.eL],Tryz.f167),(194,3,[.other],Tryz.f194),(276,3,[.other,.sl 4],Tryz.f276),(302,3,[.other,.int .i64],Tryz.f302),(305,3,[.other,.str,.str,.int .i64,.int .i64,.int .i64,.int .i64],Tryz.f305),(351,3,[.int .i64,.int .i64,.int .i64,.int .i64],Tryz.f351),(7,4,[.other,.other],Tryz.f7),(51,4,[.other],Tryz.f51),(82,4,[.sl 13,.sl 4,.sl 31,.sl 10],Tryz.f82),(99,4,[.other],Tryz.f99),(121,4,[.other],Tryz.f121),(122,4,[.other],Tryz.f122),(163,4,[.other,.u8,.int .i64],Tryz.f163),(199,4,[.other],Tryz.f199),(200,4,[.sl 5],Tryz.f200),(217,4,[.other],Tryz.f217),(219,4,[.other,.other,.int .i64],Tryz.f219),(226,4,[.other,.str,.str,.int .i64],Tryz.f226),(227,4,[.other,.str,.str,.int .i64],Tryz.f227),(265,4,[.other],Tryz.f265),(286,4,[.int .i64,.int .i64],Tryz.f286),(307,4,[.other],Tryz.f307),(361,4,[.other,.bool],Tryz.f361),(77,5,[.sl 13],Tryz.f77),(102,5,[.other,.other,.other,.other],Tryz.f102),(127,5,[.other],Tryz.f127),(147,5,[.other,.other,.other,.int .i64,.int .i64,.int .i64,.int .u64],Tryz.f147),(151,5,[.other],Tryz.f151),(198,5,[.other,.int .i64,.int .i64,.bool],Tryz.f198),(224,5,[.other,.other,.int .u64],Tryz.f224),(234,5,[.other,.bool],Tryz.f234),(279,5,[.other,.int .i64,.int .i64,.bool],Tryz.f279),(280,5,[.other,.sl 4,.str,.str,.int .i64],Tryz.f280),(284,5,[.other,.other,.int .u64],Tryz.f284),(287,5,[.eL,.int .i64,.int .u64],Tryz.f287),(291,5,[.other],Tryz.f291),(293,5,[.eL],Tryz.f293),(295,5,[.eL],Tryz.f295),(297,5,[.other,.other],Tryz.f297),(298,5,[.eL,.bool],Tryz.f298),(301,5,[.other,.bool],Tryz.f301),(352,5,[.other,.other,.int .i64,.int .i64],Tryz.f352),(357,5,[.int .i64,.other,.int .u64],Tryz.f357),(359,5,[.other,.int .i64,.int .u64],Tryz.f359),(21,6,[.sl 51,.int .u64,.int .i64],Tryz.f21),(81,6,[.sl 2,.sl 10],Tryz.f81),(126,6,[.other],Tryz.f126),(164,6,[.other,.int .u64],Tryz.f164),(165,6,[.other,.bool,.int .u64],Tryz.f165),(212,6,[.other,.int .u64,.eL],Tryz.f212),(289,6,[.other,.int .i64,.int .i64,.int .i64,.eL],Tryz.f289),(294,6,[.eL,.int .i64,.bool],Tryz.f294),(355,6,[.int .i64,.str,.int .i64,.other,.other,.int .u64],Tryz.f355),(406,6,[.eL,.bool],Tryz.f406),(80,7,[.sl 2,.sl 31],Tryz.f80),(98,7,[.other,.other,.other,.other,.bool],Tryz.f98),(138,7,[.other,.int .i64,.int .i64],Tryz.f138),(143,7,[.other,.int .u64,.int .i64,.int .i64],Tryz.f143),(144,7,[.other,.other,.int .i64,.int .i64],Tryz.f144),(146,7,[.other,.int .u64,.int .u64,.int .i64],Tryz.f146),(207,7,[.other,.int .i64,.eL],Tryz.f207),(209,7,[.other,.int .u64,.eL,.int .i64],Tryz.f209),(210,7,[.other,.eL],Tryz.f210),(211,7,[.other,.other,.int .u64,.eL],Tryz.f211),(214,7,[.other,.other,.eL],Tryz.f214),(221,7,[.other,.other,.bool,.int .i64,.int .i64,.int .i64],Tryz.f221),(283,7,[.other,.other,.other,.int .i64,.bool,.int .i64,.int .i64,.int .u64,.int .u64,.int .u64,.int .i64],Tryz.f283),(349,7,[.eL,.int .u64],Tryz.f349),(350,7,[.eL,.bool,.int .u64],Tryz.f350),(52,8,[.sl 13,.sl 4,.sl 2,.sl 31,.sl 10],Tryz.f52),(58,8,[.other,.other],Tryz.f58),(140,8,[.other,.other,.int .i64,.int .i64,.int .i64],Tryz.f140),(142,8,[.other,.other,.bool,.int .i64,.int .i64,.int .i64],Tryz.f142),(208,8,[.other,.sl 4,.int .i64,.int .i64,.bool,.int .u64,.eL],Tryz.f208),(277,8,[.other,.other,.int .i64,.int .i64],Tryz.f277),(278,8,[.other,.other,.int .i64,.int .i64,.bool],Tryz.f278),(285,8,[.other,.int .i64,.int .i64,.int .i64,.int .u64,.other],Tryz.f285),(290,8,[.other,.int .i64,.int .i64,.int .i64,.int .i64,.int .u64,.other,.eL],Tryz.f290),(22,9,[.other],Tryz.f22),(24,9,[.other,.other],Tryz.f24),(205,9,[.other,.sl 4,.other,.int .i64,.int .i64,.bool,.int .u64,.eL],Tryz.f205),(206,9,[.other,.int .i64,.int .i64,.int .i64,.int .u64,.eL],Tryz.f206),(215,9,[.other,.eL,.int .i64,.int .i64],Tryz.f215),(20,10,[.sl 51,.int .u64,.int .i64],Tryz.f20),(23,14,[.other,.other],Tryz.f23),(6,15,[.other,.sl 6],Tryz.f6),(5,18,[],Tryz.f5),(4,19,[.other,.sl 6,.other,.int .u64,.int .i64,.u8],Tryz.f4)]
noncomputable def ow:OM:=fun f=>look f U2
@[irreducible] noncomputable def sp18:Sp:=ownSp G0 ow 1 18 Tryz.f18
@[irreducible] noncomputable def sp55:Sp:=ownSp G0 ow 1 55 Tryz.f55
@[irreducible] noncomputable def sp56:Sp:=ownSp G0 ow 1 56 Tryz.f56
@[irreducible] noncomputable def sp57:Sp:=ownSp G0 ow 1 57 Tryz.f57
@[irreducible] noncomputable def sp75:Sp:=ownSp G0 ow 1 75 Tryz.f75
@[irreducible] noncomputable def sp105:Sp:=ownSp G0 ow 1 105 Tryz.f105
@[irreducible] noncomputable def sp107:Sp:=ownSp G0 ow 1 107 Tryz.f107
@[irreducible] noncomputable def sp123:Sp:=ownSp G0 ow 1 123 Tryz.f123
@[irreducible] noncomputable def sp125:Sp:=ownSp G0 ow 1 125 Tryz.f125
@[irreducible] noncomputable def sp129:Sp:=ownSp G0 ow 1 129 Tryz.f129
@[irreducible] noncomputable def sp170:Sp:=ownSp G0 ow 1 170 Tryz.f170
@[irreducible] noncomputable def sp171:Sp:=ownSp G0 ow 1 171 Tryz.f171
@[irreducible] noncomputable def sp195:Sp:=ownSp G0 ow 1 195 Tryz.f195
@[irreducible] noncomputable def sp196:Sp:=ownSp G0 ow 1 196 Tryz.f196
@[irreducible] noncomputable def sp213:Sp:=ownSp G0 ow 1 213 Tryz.f213
@[irreducible] noncomputable def sp216:Sp:=ownSp G0 ow 1 216 Tryz.f216
@[irreducible] noncomputable def sp218:Sp:=ownSp G0 ow 1 218 Tryz.f218
@[irreducible] noncomputable def sp222:Sp:=ownSp G0 ow 1 222 Tryz.f222
@[irreducible] noncomputable def sp229:Sp:=ownSp G0 ow 1 229 Tryz.f229
@[irreducible] noncomputable def sp264:Sp:=ownSp G0 ow 1 264 Tryz.f264
@[irreducible] noncomputable def sp266:Sp:=ownSp G0 ow 1 266 Tryz.f266
@[irreducible] noncomputable def sp267:Sp:=ownSp G0 ow 1 267 Tryz.f267
@[irreducible] noncomputable def sp268:Sp:=ownSp G0 ow 1 268 Tryz.f268
@[irreducible] noncomputable def sp275:Sp:=ownSp G0 ow 1 275 Tryz.f275
@[irreducible] noncomputable def sp282:Sp:=ownSp G0 ow 1 282 Tryz.f282
@[irreducible] noncomputable def sp299:Sp:=ownSp G0 ow 1 299 Tryz.f299
@[irreducible] noncomputable def sp300:Sp:=ownSp G0 ow 1 300 Tryz.f300
@[irreducible] noncomputable def sp303:Sp:=ownSp G0 ow 1 303 Tryz.f303
@[irreducible] noncomputable def sp348:Sp:=ownSp G0 ow 1 348 Tryz.f348
@[irreducible] noncomputable def sp353:Sp:=ownSp G0 ow 1 353 Tryz.f353
@[irreducible] noncomputable def sp354:Sp:=ownSp G0 ow 1 354 Tryz.f354
@[irreducible] noncomputable def sp356:Sp:=ownSp G0 ow 1 356 Tryz.f356
@[irreducible] noncomputable def sp358:Sp:=ownSp G0 ow 1 358 Tryz.f358
@[irreducible] noncomputable def sp363:Sp:=ownSp G0 ow 1 363 Tryz.f363
@[irreducible] noncomputable def sp407:Sp:=ownSp G0 ow 1 407 Tryz.f407
@[irreducible] noncomputable def sp17:Sp:=ownSp G0 ow 2 17 Tryz.f17
@[irreducible] noncomputable def sp79:Sp:=ownSp G0 ow 2 79 Tryz.f79
@[irreducible] noncomputable def sp101:Sp:=ownSp G0 ow 2 101 Tryz.f101
@[irreducible] noncomputable def sp106:Sp:=ownSp G0 ow 2 106 Tryz.f106
@[irreducible] noncomputable def sp150:Sp:=ownSp G0 ow 2 150 Tryz.f150
@[irreducible] noncomputable def sp220:Sp:=ownSp G0 ow 2 220 Tryz.f220
@[irreducible] noncomputable def sp223:Sp:=ownSp G0 ow 2 223 Tryz.f223
@[irreducible] noncomputable def sp225:Sp:=ownSp G0 ow 2 225 Tryz.f225
@[irreducible] noncomputable def sp281:Sp:=ownSp G0 ow 2 281 Tryz.f281
@[irreducible] noncomputable def sp288:Sp:=ownSp G0 ow 2 288 Tryz.f288
@[irreducible] noncomputable def sp296:Sp:=ownSp G0 ow 2 296 Tryz.f296
@[irreducible] noncomputable def sp360:Sp:=ownSp G0 ow 2 360 Tryz.f360
@[irreducible] noncomputable def sp59:Sp:=ownSp G0 ow 3 59 Tryz.f59
@[irreducible] noncomputable def sp76:Sp:=ownSp G0 ow 3 76 Tryz.f76
@[irreducible] noncomputable def sp78:Sp:=ownSp G0 ow 3 78 Tryz.f78
@[irreducible] noncomputable def sp95:Sp:=ownSp G0 ow 3 95 Tryz.f95
@[irreducible] noncomputable def sp145:Sp:=ownSp G0 ow 3 145 Tryz.f145
@[irreducible] noncomputable def sp167:Sp:=ownSp G0 ow 3 167 Tryz.f167
@[irreducible] noncomputable def sp194:Sp:=ownSp G0 ow 3 194 Tryz.f194
@[irreducible] noncomputable def sp276:Sp:=ownSp G0 ow 3 276 Tryz.f276
@[irreducible] noncomputable def sp302:Sp:=ownSp G0 ow 3 302 Tryz.f302
@[irreducible] noncomputable def sp305:Sp:=ownSp G0 ow 3 305 Tryz.f305
@[irreducible] noncomputable def sp351:Sp:=ownSp G0 ow 3 351 Tryz.f351
@[irreducible] noncomputable def sp7:Sp:=ownSp G0 ow 4 7 Tryz.f7
@[irreducible] noncomputable def sp51:Sp:=ownSp G0 ow 4 51 Tryz.f51
@[irreducible] noncomputable def sp82:Sp:=ownSp G0 ow 4 82 Tryz.f82
@[irreducible] noncomputable def sp99:Sp:=ownSp G0 ow 4 99 Tryz.f99
@[irreducible] noncomputable def sp121:Sp:=ownSp G0 ow 4 121 Tryz.f121
@[irreducible] noncomputable def sp122:Sp:=ownSp G0 ow 4 122 Tryz.f122
@[irreducible] noncomputable def sp163:Sp:=ownSp G0 ow 4 163 Tryz.f163
@[irreducible] noncomputable def sp199:Sp:=ownSp G0 ow 4 199 Tryz.f199
@[irreducible] noncomputable def sp200:Sp:=ownSp G0 ow 4 200 Tryz.f200
@[irreducible] noncomputable def sp217:Sp:=ownSp G0 ow 4 217 Tryz.f217
@[irreducible] noncomputable def sp219:Sp:=ownSp G0 ow 4 219 Tryz.f219
@[irreducible] noncomputable def sp226:Sp:=ownSp G0 ow 4 226 Tryz.f226
@[irreducible] noncomputable def sp227:Sp:=ownSp G0 ow 4 227 Tryz.f227
@[irreducible] noncomputable def sp265:Sp:=ownSp G0 ow 4 265 Tryz.f265
@[irreducible] noncomputable def sp286:Sp:=ownSp G0 ow 4 286 Tryz.f286
@[irreducible] noncomputable def sp307:Sp:=ownSp G0 ow 4 307 Tryz.f307
@[irreducible] noncomputable def sp361:Sp:=ownSp G0 ow 4 361 Tryz.f361
@[irreducible] noncomputable def sp77:Sp:=ownSp G0 ow 5 77 Tryz.f77
@[irreducible] noncomputable def sp102:Sp:=ownSp G0 ow 5 102 Tryz.f102
@[irreducible] noncomputable def sp127:Sp:=ownSp G0 ow 5 127 Tryz.f127
@[irreducible] noncomputable def sp147:Sp:=ownSp G0 ow 5 147 Tryz.f147
@[irreducible] noncomputable def sp151:Sp:=ownSp G0 ow 5 151 Tryz.f151
@[irreducible] noncomputable def sp198:Sp:=ownSp G0 ow 5 198 Tryz.f198
@[irreducible] noncomputable def sp224:Sp:=ownSp G0 ow 5 224 Tryz.f224
@[irreducible] noncomputable def sp234:Sp:=ownSp G0 ow 5 234 Tryz.f234
@[irreducible] noncomputable def sp279:Sp:=ownSp G0 ow 5 279 Tryz.f279
@[irreducible] noncomputable def sp280:Sp:=ownSp G0 ow 5 280 Tryz.f280
@[irreducible] noncomputable def sp284:Sp:=ownSp G0 ow 5 284 Tryz.f284
@[irreducible] noncomputable def sp287:Sp:=ownSp G0 ow 5 287 Tryz.f287
@[irreducible] noncomputable def sp291:Sp:=ownSp G0 ow 5 291 Tryz.f291
@[irreducible] noncomputable def sp293:Sp:=ownSp G0 ow 5 293 Tryz.f293
@[irreducible] noncomputable def sp295:Sp:=ownSp G0 ow 5 295 Tryz.f295
@[irreducible] noncomputable def sp297:Sp:=ownSp G0 ow 5 297 Tryz.f297
@[irreducible] noncomputable def sp298:Sp:=ownSp G0 ow 5 298 Tryz.f298
@[irreducible] noncomputable def sp301:Sp:=ownSp G0 ow 5 301 Tryz.f301
@[irreducible] noncomputable def sp352:Sp:=ownSp G0 ow 5 352 Tryz.f352
@[irreducible] noncomputable def sp357:Sp:=ownSp G0 ow 5 357 Tryz.f357
@[irreducible] noncomputable def sp359:Sp:=ownSp G0 ow 5 359 Tryz.f359
@[irreducible] noncomputable def sp21:Sp:=ownSp G0 ow 6 21 Tryz.f21
@[irreducible] noncomputable def sp81:Sp:=ownSp G0 ow 6 81 Tryz.f81
@[irreducible] noncomputable def sp126:Sp:=ownSp G0 ow 6 126 Tryz.f126
@[irreducible] noncomputable def sp164:Sp:=ownSp G0 ow 6 164 Tryz.f164
@[irreducible] noncomputable def sp165:Sp:=ownSp G0 ow 6 165 Tryz.f165
@[irreducible] noncomputable def sp212:Sp:=ownSp G0 ow 6 212 Tryz.f212
@[irreducible] noncomputable def sp289:Sp:=ownSp G0 ow 6 289 Tryz.f289
@[irreducible] noncomputable def sp294:Sp:=ownSp G0 ow 6 294 Tryz.f294
@[irreducible] noncomputable def sp355:Sp:=ownSp G0 ow 6 355 Tryz.f355
@[irreducible] noncomputable def sp406:Sp:=ownSp G0 ow 6 406 Tryz.f406
@[irreducible] noncomputable def sp80:Sp:=ownSp G0 ow 7 80 Tryz.f80
@[irreducible] noncomputable def sp98:Sp:=ownSp G0 ow 7 98 Tryz.f98
@[irreducible] noncomputable def sp138:Sp:=ownSp G0 ow 7 138 Tryz.f138
@[irreducible] noncomputable def sp143:Sp:=ownSp G0 ow 7 143 Tryz.f143
@[irreducible] noncomputable def sp144:Sp:=ownSp G0 ow 7 144 Tryz.f144
@[irreducible] noncomputable def sp146:Sp:=ownSp G0 ow 7 146 Tryz.f146
@[irreducible] noncomputable def sp207:Sp:=ownSp G0 ow 7 207 Tryz.f207
@[irreducible] noncomputable def sp209:Sp:=ownSp G0 ow 7 209 Tryz.f209
@[irreducible] noncomputable def sp210:Sp:=ownSp G0 ow 7 210 Tryz.f210
@[irreducible] noncomputable def sp211:Sp:=ownSp G0 ow 7 211 Tryz.f211
@[irreducible] noncomputable def sp214:Sp:=ownSp G0 ow 7 214 Tryz.f214
@[irreducible] noncomputable def sp221:Sp:=ownSp G0 ow 7 221 Tryz.f221
@[irreducible] noncomputable def sp283:Sp:=ownSp G0 ow 7 283 Tryz.f283
@[irreducible] noncomputable def sp349:Sp:=ownSp G0 ow 7 349 Tryz.f349
@[irreducible] noncomputable def sp350:Sp:=ownSp G0 ow 7 350 Tryz.f350
@[irreducible] noncomputable def sp52:Sp:=ownSp G0 ow 8 52 Tryz.f52
@[irreducible] noncomputable def sp58:Sp:=ownSp G0 ow 8 58 Tryz.f58
@[irreducible] noncomputable def sp140:Sp:=ownSp G0 ow 8 140 Tryz.f140
@[irreducible] noncomputable def sp142:Sp:=ownSp G0 ow 8 142 Tryz.f142
@[irreducible] noncomputable def sp208:Sp:=ownSp G0 ow 8 208 Tryz.f208
@[irreducible] noncomputable def sp277:Sp:=ownSp G0 ow 8 277 Tryz.f277
@[irreducible] noncomputable def sp278:Sp:=ownSp G0 ow 8 278 Tryz.f278
@[irreducible] noncomputable def sp285:Sp:=ownSp G0 ow 8 285 Tryz.f285
@[irreducible] noncomputable def sp290:Sp:=ownSp G0 ow 8 290 Tryz.f290
@[irreducible] noncomputable def sp22:Sp:=ownSp G0 ow 9 22 Tryz.f22
@[irreducible] noncomputable def sp24:Sp:=ownSp G0 ow 9 24 Tryz.f24
@[irreducible] noncomputable def sp205:Sp:=ownSp G0 ow 9 205 Tryz.f205
@[irreducible] noncomputable def sp206:Sp:=ownSp G0 ow 9 206 Tryz.f206
@[irreducible] noncomputable def sp215:Sp:=ownSp G0 ow 9 215 Tryz.f215
@[irreducible] noncomputable def sp20:Sp:=ownSp G0 ow 10 20 Tryz.f20
@[irreducible] noncomputable def sp23:Sp:=ownSp G0 ow 14 23 Tryz.f23
@[irreducible] noncomputable def sp6:Sp:=ownSp G0 ow 15 6 Tryz.f6
@[irreducible] noncomputable def sp5:Sp:=ownSp G0 ow 18 5 Tryz.f5
@[irreducible] noncomputable def sp4:Sp:=ownSp G0 ow 19 4 Tryz.f4
noncomputable def Jp:List (Nat×Nat×List CT×Sp):=[(18,1,[.sl 51,.int .u64,.int .i64],sp18),(55,1,[.u8,.int .i64],sp55),(56,1,[.other,.other],sp56),(57,1,[.other,.other],sp57),(75,1,[.other,.int .i64],sp75),(105,1,[.other,.int .i64],sp105),(107,1,[.other,.other],sp107),(123,1,[.int .i64],sp123),(125,1,[.sl 4,.str,.str,.int .i64],sp125),(129,1,[.str,.str],sp129),(170,1,[.other,.int .i64],sp170),(171,1,[.eL,.other],sp171),(195,1,[.other,.other],sp195),(196,1,[.other,.other],sp196),(213,1,[.sl 7,.other],sp213),(216,1,[.int .i64,.int .i64],sp216),(218,1,[.other],sp218),(222,1,[.int .i64,.int .i64],sp222),(229,1,[.int .i64,.int .i64],sp229),(264,1,[.int .i64,.int .i64],sp264),(266,1,[.int .i64,.int .i64],sp266),(267,1,[.other,.other],sp267),(268,1,[.sl 5,.other,.int .i64],sp268),(275,1,[.int .i64,.int .i64],sp275),(282,1,[.sl 1,.int .i64],sp282),(299,1,[.int .i64],sp299),(300,1,[.int .i64],sp300),(303,1,[.int .i64],sp303),(348,1,[.other,.str,.str],sp348),(353,1,[.int .i64],sp353),(354,1,[.sl 4,.str,.str],sp354),(356,1,[.other,.int .i64,.other],sp356),(358,1,[.int .i64],sp358),(363,1,[.int .i64,.int .i64],sp363),(407,1,[.other,.int .i64,.other],sp407),(17,2,[.sl 51,.int .u64,.int .i64],sp17),(79,2,[.sl 13,.sl 2],sp79),(101,2,[.other,.u8],sp101),(106,2,[.other,.int .i64],sp106),(150,2,[.other],sp150),(220,2,[.other,.other],sp220),(223,2,[.int .i64,.int .i64],sp223),(225,2,[.sl 1,.int .i64,.int .i64],sp225),(281,2,[.int .i64,.int .i64,.sl 1],sp281),(288,2,[.other,.int .i64,.int .i64],sp288),(296,2,[.int .i64,.int .i64,.int .i64],sp296),(360,2,[.other,.int .i64],sp360),(59,3,[.other,.int .i64,.int .i64,.u8,.int .i64],sp59),(76,3,[.int .i64,.int .i64],sp76),(78,3,[.sl 4],sp78),(95,3,[.other,.u8,.int .i64],sp95),(145,3,[.sl 1,.int .i64,.int .i64],sp145),(167,3,[.int .i64,.int .u64,.eL],sp167),(194,3,[.other],sp194),(276,3,[.other,.sl 4],sp276),(302,3,[.other,.int .i64],sp302),(305,3,[.other,.str,.str,.int .i64,.int .i64,.int .i64,.int .i64],sp305),(351,3,[.int .i64,.int .i64,.int .i64,.int .i64],sp351),(7,4,[.other,.other],sp7),(51,4,[.other],sp51),(82,4,[.sl 13,.sl 4,.sl 31,.sl 10],sp82),(99,4,[.other],sp99),(121,4,[.other],sp121),(122,4,[.other],sp122),(163,4,[.other,.u8,.int .i64],sp163),(199,4,[.other],sp199),(200,4,[.sl 5],sp200),(217,4,[.other],sp217),(219,4,[.other,.other,.int .i64],sp219),(226,4,[.other,.str,.str,.int .i64],sp226),(227,4,[.other,.str,.str,.int .i64],sp227),(265,4,[.other],sp265),(286,4,[.int .i64,.int .i64],sp286),(307,4,[.other],sp307),(361,4,[.other,.bool],sp361),(77,5,[.sl 13],sp77),(102,5,[.other,.other,.other,.other],sp102),(127,5,[.other],sp127),(147,5,[.other,.other,.other,.int .i64,.int .i64,.int .i64,.int .u64],sp147),(151,5,[.other],sp151),(198,5,[.other,.int .i64,.int .i64,.bool],sp198),(224,5,[.other,.other,.int .u64],sp224),(234,5,[.other,.bool],sp234),(279,5,[.other,.int .i64,.int .i64,.bool],sp279),(280,5,[.other,.sl 4,.str,.str,.int .i64],sp280),(284,5,[.other,.other,.int .u64],sp284),(287,5,[.eL,.int .i64,.int .u64],sp287),(291,5,[.other],sp291),(293,5,[.eL],sp293),(295,5,[.eL],sp295),(297,5,[.other,.other],sp297),(298,5,[.eL,.bool],sp298),(301,5,[.other,.bool],sp301),(352,5,[.other,.other,.int .i64,.int .i64],sp352),(357,5,[.int .i64,.other,.int .u64],sp357),(359,5,[.other,.int .i64,.int .u64],sp359),(21,6,[.sl 51,.int .u64,.int .i64],sp21),(81,6,[.sl 2,.sl 10],sp81),(126,6,[.other],sp126),(164,6,[.other,.int .u64],sp164),(165,6,[.other,.bool,.int .u64],sp165),(212,6,[.other,.int .u64,.eL],sp212),(289,6,[.other,.int .i64,.int .i64,.int .i64,.eL],sp289),(294,6,[.eL,.int .i64,.bool],sp294),(355,6,[.int .i64,.str,.int .i64,.other,.other,.int .u64],sp355),(406,6,[.eL,.bool],sp406),(80,7,[.sl 2,.sl 31],sp80),(98,7,[.other,.other,.other,.other,.bool],sp98),(138,7,[.other,.int .i64,.int .i64],sp138),(143,7,[.other,.int .u64,.int .i64,.int .i64],sp143),(144,7,[.other,.other,.int .i64,.int .i64],sp144),(146,7,[.other,.int .u64,.int .u64,.int .i64],sp146),(207,7,[.other,.int .i64,.eL],sp207),(209,7,[.other,.int .u64,.eL,.int .i64],sp209),(210,7,[.other,.eL],sp210),(211,7,[.other,.other,.int .u64,.eL],sp211),(214,7,[.other,.other,.eL],sp214),(221,7,[.other,.other,.bool,.int .i64,.int .i64,.int .i64],sp221),(283,7,[.other,.other,.other,.int .i64,.bool,.int .i64,.int .i64,.int .u64,.int .u64,.int .u64,.int .i64],sp283),(349,7,[.eL,.int .u64],sp349),(350,7,[.eL,.bool,.int .u64],sp350),(52,8,[.sl 13,.sl 4,.sl 2,.sl 31,.sl 10],sp52),(58,8,[.other,.other],sp58),(140,8,[.other,.other,.int .i64,.int .i64,.int .i64],sp140),(142,8,[.other,.other,.bool,.int .i64,.int .i64,.int .i64],sp142),(208,8,[.other,.sl 4,.int .i64,.int .i64,.bool,.int .u64,.eL],sp208),(277,8,[.other,.other,.int .i64,.int .i64],sp277),(278,8,[.other,.other,.int .i64,.int .i64,.bool],sp278),(285,8,[.other,.int .i64,.int .i64,.int .i64,.int .u64,.other],sp285),(290,8,[.other,.int .i64,.int .i64,.int .i64,.int .i64,.int .u64,.other,.eL],sp290),(22,9,[.other],sp22),(24,9,[.other,.other],sp24),(205,9,[.other,.sl 4,.other,.int .i64,.int .i64,.bool,.int .u64,.eL],sp205),(206,9,[.other,.int .i64,.int .i64,.int .i64,.int .u64,.eL],sp206),(215,9,[.other,.eL,.int .i64,.int .i64],sp215),(20,10,[.sl 51,.int .u64,.int .i64],sp20),(23,14,[.other,.other],sp23),(6,15,[.other,.sl 6],sp6),(5,18,[],sp5),(4,19,[.other,.sl 6,.other,.int .u64,.int .i64,.u8],sp4)]++YT
noncomputable def G:iY:={ G0 with uc:=fun f=>look f Jp }
set_option maxRecDepth 100000
theorem HM{G:iY}{o:OM}{f:Nat}{B:List (Nat×Nat×List CT×Sp)}:∀ L:List (Nat×Nat×List CT×Func),look f (L.map (fun e=>(e.1,e.2.1,e.2.2.1,ownSp G o e.2.1 e.1 e.2.2.2))++B)=match look f L with | some x=>Zx (x.1,x.2.1,ownSp G o x.1 f x.2.2) | none=>look f B
 | []=>rfl
 | (j,k,c,fn)::r=>by
  simp only[List.map_cons,List.cons_append,look];cases h:Nat.beq j f with
  | false=>simp only[Qa7];exact HM r
  | true =>
   have e:j=f:=Nat.eq_of_beq_eq_true h;subst e;simp only[Qa6]
theorem Sr:Jp=U2.map (fun e=>(e.1,e.2.1,e.2.2.1,ownSp G0 ow e.2.1 e.1 e.2.2.2))++YT:=by kernel_rfl
theorem fw:G=G0.full ow:=by
 have h:(fun f=>look f Jp)=fun f=>match ow f with | some x=>Zx (x.1,x.2.1,ownSp G0 ow x.1 f x.2.2) | none=>G0.uc f:=by
  funext f;rw[Sr];exact HM U2
 show({ G0 with uc:=fun f=>look f Jp }:iY)=_;rw[h];rfl
end
abbrev Wk(f k:Nat)(s:Sp):Prop:=Ba Tryz.prog G f k s
abbrev Rb:=Option (AV×aZ)
theorem il{a c:Rb}(b:Rb)(g:b=c)(h:a=b:=by kernel_rfl):a=c:=h.trans g
theorem Dp{E:Env}{rts:Nat->Option (List Nat)}{own:Bool}{fn:Func}{xs:List AV}{bl:List (Nat×List AV)}{c:Rb}(hand:List Nat)(b:Rb)(g:b=c)(e:bl.map (·.1)=hand:=by rfl)(h:tP E rts own fn xs bl hand=b:=by kernel_rfl):vp E rts own fn xs bl=c:=by
 subst e;exact h.trans g
theorem hZ{b:Bool}{v r:AV×aZ}(h:aA b (Zx v)=Zx r):b=Zn/\v=r:=by
 cases b
 ·cases h
 ·cases h;exact⟨rfl,rfl⟩
theorem UZ : (Tryz.prog.funcs.all fun fn => fn.name != "runtime.NumGoroutine") = Zn := by kernel_rfl
theorem gi{f k:Nat}{s:Sp}{fn:Func}(h1:Tryz.prog.funcs[f]? = Zx fn)(h:∀ xs bl r,s xs bl=Zx r->vp (G.env f k) G.rts (G.own f) fn xs bl=Zx r)(h2:G.rts f=Zx fn.resultTypes.toList:=by rfl):Wk f k s :=
 ⟨fn,h1,fun e=>by
  have h0:=UZ;rw[Array.all_eq_true_iff_forall_mem] at h0;have:=h0 fn (Array.mem_of_getElem? h1);rw[e] at this;simp at this,h2,h⟩
end Go.Proofs.YtpelamlfpffacaaGreat
