/- The table of functions of this seat. -/
import Derived.Test.YtmdppipjjnfanaaGreatDoorAbsSpec
import Derived.Test.YtmdppipjjnfanaaGreatDoorKerbDefs
import Derived.Test.YtmdppipjjnfanaaGreatDoorAbsPlain
import Derived.Test.YtmdppipjjnfanaaGreatDoorKerbKaRef
import Derived.Test.YtmdppipjjnfanaaGreatDoorKerbCli2
import Derived.Test.YtmdppipjjnfanaaGreatDoorKerbTkt
import Derived.Test.YtmdppipjjnfanaaGreatDoorKerbDb
import Derived.Test.YtmdppipjjnfanaaGreatDoorKerbVerL
import Derived.Test.YtmdppipjjnfanaaGreatDoorKerbKaRef
import Derived.Test.YtmdppipjjnfanaaGreatDoorKerbCli2
import Derived.Test.YtmdppipjjnfanaaGreatDoorKerbTkt
import Derived.Test.YtmdppipjjnfanaaGreatDoorKerbDb
import Derived.Test.YtmdppipjjnfanaaGreatDoorKerbKac
import Derived.Test.YtmdppipjjnfanaaGreatDoorKerbSrv
import Derived.Test.YtmdppipjjnfanaaGreatDoorKerbSrvD
import Derived.Test.YtmdppipjjnfanaaGreatDoorKerbAuthL
import Derived.Test.YtmdppipjjnfanaaGreatDoorKerbVerL
import Derived.Test.YtmdppipjjnfanaaGreatDoorKerbGrtL
import Derived.Test.YtmdppipjjnfanaaGreatDoorProg
import Derived.KernelRfl
open Kerb.ApRequest renaming mk→Zz
open Kerb.Server renaming mk→Zy
open Kerb renaming toMark→Zx,toSKey→Zw,toEntry→Zv,toCross→Zu,decodeTicket→Zk,tgsAnswer→Zp,grant→Zf,get→Zg,tgsServe→Zb,verify→Zm,openReq→Zh,noIssue→Yz,openTicket→Yy,decodeTgs→Yw,decodeReply→Yv,decodePart→Yu,within→Yq,readBox→Yj,isSKey→Yp,decodeAuth→Yd,isMark→Yf,bytes→Yg,openAuth→Yb,isU64→Yn,text→Ym,isEntry→Yh,putN→Xz,readHead→Xy,readAp→Xv,isCross→Xu,encodeTicket→Xq,keyValid→Xj
open Kerb.Db renaming mk→Zq
open Kerb.TgsRequest renaming mk→Zj
open Kerb.Accepted renaming mk→Zd
open Kerb.Case renaming mk→Zn
open Kerb.Ticket renaming mk→Yx
open Kerb.Auth renaming mk→Yk
open Kerb.RCache renaming mk→Xx
open Kerb.Mark renaming mk→Xw
namespace Go.Proofs.YtmdppipjjnfanaaGreatDoor
open Go Go.Abs
set_option linter.unusedVariables false
def tbl:List (Option TI):=[
 none,
 none,
 some ⟨1,8,.int .i64,[.int .i64 0],[.int .i64],[.int .i64]⟩,
 some ⟨1,8,.int .i64,[.int .i64 0],[.int .i64],[.int .i64]⟩,
 some ⟨1,1,.bool,[.bool false],[.bool],[.bool]⟩,
 some ⟨1,1,.u8,[.u8 0],[.u8],[.u8]⟩,
 some ⟨1,1,.u8,[.u8 0],[.u8],[.u8]⟩,
 some ⟨4,24,.struct [(0,2),(1,3),(2,4),(3,6)],[.int .i64 0,.int .i64 0,.bool false,.u8 0],[.int .i64,.int .i64,.bool,.u8],[.int .i64,.int .i64,.bool,.u8]⟩,
 none,
 some ⟨1,16,.str,[.str []],[.str],[.str]⟩,
 none,
 none,
 some ⟨1,8,.int .u64,[.int .u64 0],[.int .u64],[.int .u64]⟩,
 none,
 none,
 some ⟨1,8,.ptr 233,[.nilp],[.ptr],[]⟩,
 some ⟨1,8,.ptr 236,[.nilp],[.ptr],[]⟩,
 some ⟨1,8,.ptr 244,[.nilp],[.ptr],[]⟩,
 some ⟨1,8,.struct [(0,17)],[.nilp],[.ptr],[]⟩,
 some ⟨1,8,.struct [(0,17)],[.nilp],[.ptr],[]⟩,
 none,
 some ⟨1,4,.int .i32,[.int .i32 0],[.int .i32],[.int .i32]⟩,
 some ⟨1,24,.slice 5 true,[.nils],[.bsl],[]⟩,
 some ⟨1,24,.slice 45 false,[.nils],[.sl 26],[]⟩,
 none,
 some ⟨1,24,.slice 80 false,[.nils],[.sl 4],[]⟩,
 none,
 some ⟨1,24,.slice 83 false,[.nils],[.sl 9],[]⟩,
 some ⟨2,40,.struct [(0,9),(1,27)],[.str [],.nils],[.str,.sl 9],[]⟩,
 some ⟨2,40,.struct [(0,9),(1,27)],[.str [],.nils],[.str,.sl 9],[]⟩,
 none,
 some ⟨1,4,.int .u32,[.int .u32 0],[.int .u32],[.int .u32]⟩,
 some ⟨1,2,.int .u16,[.int .u16 0],[.int .u16],[.int .u16]⟩,
 some ⟨19,28,.struct [(0,5),(1,5),(2,5),(3,5),(4,4),(5,4),(6,4),(7,5),(8,5),(9,5),(10,5),(11,5),(12,5),(13,31),(14,5),(15,5),(16,5),(17,32),(18,32)],[.u8 0,.u8 0,.u8 0,.u8 0,.bool false,.bool false,.bool false,.u8 0,.u8 0,.u8 0,.u8 0,.u8 0,.u8 0,.int .u32 0,.u8 0,.u8 0,.u8 0,.int .u16 0,.int .u16 0],[.u8,.u8,.u8,.u8,.bool,.bool,.bool,.u8,.u8,.u8,.u8,.u8,.u8,.int .u32,.u8,.u8,.u8,.int .u16,.int .u16],[.u8,.u8,.u8,.u8,.bool,.bool,.bool,.u8,.u8,.u8,.u8,.u8,.u8,.int .u32,.u8,.u8,.u8,.int .u16,.int .u16]⟩,
 some ⟨19,28,.struct [(0,5),(1,5),(2,5),(3,5),(4,4),(5,4),(6,4),(7,5),(8,5),(9,5),(10,5),(11,5),(12,5),(13,31),(14,5),(15,5),(16,5),(17,32),(18,32)],[.u8 0,.u8 0,.u8 0,.u8 0,.bool false,.bool false,.bool false,.u8 0,.u8 0,.u8 0,.u8 0,.u8 0,.u8 0,.int .u32 0,.u8 0,.u8 0,.u8 0,.int .u16 0,.int .u16 0],[.u8,.u8,.u8,.u8,.bool,.bool,.bool,.u8,.u8,.u8,.u8,.u8,.u8,.int .u32,.u8,.u8,.u8,.int .u16,.int .u16],[.u8,.u8,.u8,.u8,.bool,.bool,.bool,.u8,.u8,.u8,.u8,.u8,.u8,.int .u32,.u8,.u8,.u8,.int .u16,.int .u16]⟩,
 some ⟨3,48,.struct [(0,9),(1,9),(2,9)],[.str [],.str [],.str []],[.str,.str,.str],[.str,.str,.str]⟩,
 some ⟨3,48,.struct [(0,9),(1,9),(2,9)],[.str [],.str [],.str []],[.str,.str,.str],[.str,.str,.str]⟩,
 some ⟨1,24,.slice 86 false,[.nils],[.sl 5],[]⟩,
 some ⟨1,24,.slice 90 false,[.nils],[.sl 5],[]⟩,
 some ⟨3,40,.struct [(0,3),(1,3),(2,38)],[.int .i64 0,.int .i64 0,.nils],[.int .i64,.int .i64,.sl 5],[]⟩,
 some ⟨3,40,.struct [(0,3),(1,3),(2,38)],[.int .i64 0,.int .i64 0,.nils],[.int .i64,.int .i64,.sl 5],[]⟩,
 some ⟨8,120,.struct [(0,36),(3,37),(4,40),(7,3)],[.str [],.str [],.str [],.nils,.int .i64 0,.int .i64 0,.nils,.int .i64 0],[.str,.str,.str,.sl 5,.int .i64,.int .i64,.sl 5,.int .i64],[]⟩,
 some ⟨8,120,.struct [(0,36),(3,37),(4,40),(7,3)],[.str [],.str [],.str [],.nils,.int .i64 0,.int .i64 0,.nils,.int .i64 0],[.str,.str,.str,.sl 5,.int .i64,.int .i64,.sl 5,.int .i64],[]⟩,
 none,
 some ⟨26,36,.struct [(0,34),(19,5),(20,5),(21,5),(22,5),(23,5),(24,5),(25,32)],[.u8 0,.u8 0,.u8 0,.u8 0,.bool false,.bool false,.bool false,.u8 0,.u8 0,.u8 0,.u8 0,.u8 0,.u8 0,.int .u32 0,.u8 0,.u8 0,.u8 0,.int .u16 0,.int .u16 0,.u8 0,.u8 0,.u8 0,.u8 0,.u8 0,.u8 0,.int .u16 0],[.u8,.u8,.u8,.u8,.bool,.bool,.bool,.u8,.u8,.u8,.u8,.u8,.u8,.int .u32,.u8,.u8,.u8,.int .u16,.int .u16,.u8,.u8,.u8,.u8,.u8,.u8,.int .u16],[.u8,.u8,.u8,.u8,.bool,.bool,.bool,.u8,.u8,.u8,.u8,.u8,.u8,.int .u32,.u8,.u8,.u8,.int .u16,.int .u16,.u8,.u8,.u8,.u8,.u8,.u8,.int .u16]⟩,
 some ⟨26,36,.struct [(0,34),(19,5),(20,5),(21,5),(22,5),(23,5),(24,5),(25,32)],[.u8 0,.u8 0,.u8 0,.u8 0,.bool false,.bool false,.bool false,.u8 0,.u8 0,.u8 0,.u8 0,.u8 0,.u8 0,.int .u32 0,.u8 0,.u8 0,.u8 0,.int .u16 0,.int .u16 0,.u8 0,.u8 0,.u8 0,.u8 0,.u8 0,.u8 0,.int .u16 0],[.u8,.u8,.u8,.u8,.bool,.bool,.bool,.u8,.u8,.u8,.u8,.u8,.u8,.int .u32,.u8,.u8,.u8,.int .u16,.int .u16,.u8,.u8,.u8,.u8,.u8,.u8,.int .u16],[.u8,.u8,.u8,.u8,.bool,.bool,.bool,.u8,.u8,.u8,.u8,.u8,.u8,.int .u32,.u8,.u8,.u8,.int .u16,.int .u16,.u8,.u8,.u8,.u8,.u8,.u8,.int .u16]⟩,
 some ⟨1,8,.int .u64,[.int .u64 0],[.int .u64],[.int .u64]⟩,
 some ⟨1,8,.int .u64,[.int .u64 0],[.int .u64],[.int .u64]⟩,
 some ⟨16,216,.struct [(0,3),(1,36),(4,36),(7,36),(10,47),(11,47),(12,47),(13,22),(14,3),(15,3)],[.int .i64 0,.str [],.str [],.str [],.str [],.str [],.str [],.str [],.str [],.str [],.int .u64 0,.int .u64 0,.int .u64 0,.nils,.int .i64 0,.int .i64 0],[.int .i64,.str,.str,.str,.str,.str,.str,.str,.str,.str,.int .u64,.int .u64,.int .u64,.bsl,.int .i64,.int .i64],[]⟩,
 some ⟨16,216,.struct [(0,3),(1,36),(4,36),(7,36),(10,47),(11,47),(12,47),(13,22),(14,3),(15,3)],[.int .i64 0,.str [],.str [],.str [],.str [],.str [],.str [],.str [],.str [],.str [],.int .u64 0,.int .u64 0,.int .u64 0,.nils,.int .i64 0,.int .i64 0],[.int .i64,.str,.str,.str,.str,.str,.str,.str,.str,.str,.int .u64,.int .u64,.int .u64,.bsl,.int .i64,.int .i64],[]⟩,
 none,
 none,
 none,
 none,
 none,
 some ⟨8,104,.struct [(0,4),(1,36),(4,3),(5,3),(6,3),(7,22)],[.bool false,.str [],.str [],.str [],.int .i64 0,.int .i64 0,.int .i64 0,.nils],[.bool,.str,.str,.str,.int .i64,.int .i64,.int .i64,.bsl],[]⟩,
 some ⟨8,104,.struct [(0,4),(1,36),(4,3),(5,3),(6,3),(7,22)],[.bool false,.str [],.str [],.str [],.int .i64 0,.int .i64 0,.int .i64 0,.nils],[.bool,.str,.str,.str,.int .i64,.int .i64,.int .i64,.bsl],[]⟩,
 some ⟨1,8,.int .i64,[.int .i64 0],[.int .i64],[.int .i64]⟩,
 none,
 none,
 none,
 none,
 some ⟨8,104,.struct [(0,47),(1,36),(4,3),(5,3),(6,22),(7,3)],[.int .u64 0,.str [],.str [],.str [],.int .i64 0,.int .i64 0,.nils,.int .i64 0],[.int .u64,.str,.str,.str,.int .i64,.int .i64,.bsl,.int .i64],[]⟩,
 some ⟨8,104,.struct [(0,47),(1,36),(4,3),(5,3),(6,22),(7,3)],[.int .u64 0,.str [],.str [],.str [],.int .i64 0,.int .i64 0,.nils,.int .i64 0],[.int .u64,.str,.str,.str,.int .i64,.int .i64,.bsl,.int .i64],[]⟩,
 none,
 none,
 none,
 some ⟨3,40,.struct [(0,3),(1,47),(2,22)],[.int .i64 0,.int .u64 0,.nils],[.int .i64,.int .u64,.bsl],[]⟩,
 some ⟨3,40,.struct [(0,3),(1,47),(2,22)],[.int .i64 0,.int .u64 0,.nils],[.int .i64,.int .u64,.bsl],[]⟩,
 none,
 none,
 some ⟨10,120,.struct [(0,4),(1,36),(4,3),(5,47),(6,3),(7,3),(8,9),(9,9)],[.bool false,.str [],.str [],.str [],.int .i64 0,.int .u64 0,.int .i64 0,.int .i64 0,.str [],.str []],[.bool,.str,.str,.str,.int .i64,.int .u64,.int .i64,.int .i64,.str,.str],[.bool,.str,.str,.str,.int .i64,.int .u64,.int .i64,.int .i64,.str,.str]⟩,
 some ⟨10,120,.struct [(0,4),(1,36),(4,3),(5,47),(6,3),(7,3),(8,9),(9,9)],[.bool false,.str [],.str [],.str [],.int .i64 0,.int .u64 0,.int .i64 0,.int .i64 0,.str [],.str []],[.bool,.str,.str,.str,.int .i64,.int .u64,.int .i64,.int .i64,.str,.str],[.bool,.str,.str,.str,.int .i64,.int .u64,.int .i64,.int .i64,.str,.str]⟩,
 none,
 none,
 none,
 none,
 none,
 none,
 some ⟨4,48,.struct [(0,9),(1,9),(2,3),(3,47)],[.str [],.str [],.int .i64 0,.int .u64 0],[.str,.str,.int .i64,.int .u64],[.str,.str,.int .i64,.int .u64]⟩,
 some ⟨4,48,.struct [(0,9),(1,9),(2,3),(3,47)],[.str [],.str [],.int .i64 0,.int .u64 0],[.str,.str,.int .i64,.int .u64],[.str,.str,.int .i64,.int .u64]⟩,
 some ⟨1,24,.slice 36 false,[.nils],[.sl 3],[]⟩,
 some ⟨9,88,.struct [(0,9),(1,9),(2,47),(3,3),(4,3),(5,3),(6,3),(7,3),(8,3)],[.str [],.str [],.int .u64 0,.int .i64 0,.int .i64 0,.int .i64 0,.int .i64 0,.int .i64 0,.int .i64 0],[.str,.str,.int .u64,.int .i64,.int .i64,.int .i64,.int .i64,.int .i64,.int .i64],[.str,.str,.int .u64,.int .i64,.int .i64,.int .i64,.int .i64,.int .i64,.int .i64]⟩,
 some ⟨9,88,.struct [(0,9),(1,9),(2,47),(3,3),(4,3),(5,3),(6,3),(7,3),(8,3)],[.str [],.str [],.int .u64 0,.int .i64 0,.int .i64 0,.int .i64 0,.int .i64 0,.int .i64 0,.int .i64 0],[.str,.str,.int .u64,.int .i64,.int .i64,.int .i64,.int .i64,.int .i64,.int .i64],[.str,.str,.int .u64,.int .i64,.int .i64,.int .i64,.int .i64,.int .i64,.int .i64]⟩,
 none,
 some ⟨5,64,.struct [(0,36),(3,3),(4,47)],[.str [],.str [],.str [],.int .i64 0,.int .u64 0],[.str,.str,.str,.int .i64,.int .u64],[.str,.str,.str,.int .i64,.int .u64]⟩,
 some ⟨5,64,.struct [(0,36),(3,3),(4,47)],[.str [],.str [],.str [],.int .i64 0,.int .u64 0],[.str,.str,.str,.int .i64,.int .u64],[.str,.str,.str,.int .i64,.int .u64]⟩,
 none,
 none,
 some ⟨5,64,.struct [(0,36),(3,3),(4,3)],[.str [],.str [],.str [],.int .i64 0,.int .i64 0],[.str,.str,.str,.int .i64,.int .i64],[.str,.str,.str,.int .i64,.int .i64]⟩,
 some ⟨5,64,.struct [(0,36),(3,3),(4,3)],[.str [],.str [],.str [],.int .i64 0,.int .i64 0],[.str,.str,.str,.int .i64,.int .i64],[.str,.str,.str,.int .i64,.int .i64]⟩,
 some ⟨6,80,.struct [(0,4),(1,4),(2,3),(3,9),(4,22),(5,22)],[.bool false,.bool false,.int .i64 0,.str [],.nils,.nils],[.bool,.bool,.int .i64,.str,.bsl,.bsl],[]⟩,
 some ⟨6,80,.struct [(0,4),(1,4),(2,3),(3,9),(4,22),(5,22)],[.bool false,.bool false,.int .i64 0,.str [],.nils,.nils],[.bool,.bool,.int .i64,.str,.bsl,.bsl],[]⟩,
 some ⟨10,128,.struct [(0,92),(6,3),(7,3),(8,9),(9,9)],[.bool false,.bool false,.int .i64 0,.str [],.nils,.nils,.int .i64 0,.int .i64 0,.str [],.str []],[.bool,.bool,.int .i64,.str,.bsl,.bsl,.int .i64,.int .i64,.str,.str],[]⟩,
 some ⟨10,128,.struct [(0,92),(6,3),(7,3),(8,9),(9,9)],[.bool false,.bool false,.int .i64 0,.str [],.nils,.nils,.int .i64 0,.int .i64 0,.str [],.str []],[.bool,.bool,.int .i64,.str,.bsl,.bsl,.int .i64,.int .i64,.str,.str],[]⟩,
 none,
 none,
 none,
 some ⟨6,88,.struct [(0,29),(2,25),(3,3),(4,4),(5,47)],[.str [],.nils,.nils,.int .i64 0,.bool false,.int .u64 0],[.str,.sl 9,.sl 4,.int .i64,.bool,.int .u64],[]⟩,
 some ⟨6,88,.struct [(0,29),(2,25),(3,3),(4,4),(5,47)],[.str [],.nils,.nils,.int .i64 0,.bool false,.int .u64 0],[.str,.sl 9,.sl 4,.int .i64,.bool,.int .u64],[]⟩,
 some ⟨12,152,.struct [(0,36),(3,47),(4,3),(5,3),(6,3),(7,3),(8,3),(9,3),(10,22),(11,22)],[.str [],.str [],.str [],.int .u64 0,.int .i64 0,.int .i64 0,.int .i64 0,.int .i64 0,.int .i64 0,.int .i64 0,.nils,.nils],[.str,.str,.str,.int .u64,.int .i64,.int .i64,.int .i64,.int .i64,.int .i64,.int .i64,.bsl,.bsl],[]⟩,
 some ⟨12,152,.struct [(0,36),(3,47),(4,3),(5,3),(6,3),(7,3),(8,3),(9,3),(10,22),(11,22)],[.str [],.str [],.str [],.int .u64 0,.int .i64 0,.int .i64 0,.int .i64 0,.int .i64 0,.int .i64 0,.int .i64 0,.nils,.nils],[.str,.str,.str,.int .u64,.int .i64,.int .i64,.int .i64,.int .i64,.int .i64,.int .i64,.bsl,.bsl],[]⟩,
 none,
 none,
 none,
 none,
 none,
 none,
 none,
 none,
 none,
 some ⟨1,8,.ptr 113,[.nilp],[.ptr],[]⟩,
 some ⟨4,40,.struct [(0,22),(1,3),(2,4),(3,4)],[.nils,.int .i64 0,.bool false,.bool false],[.bsl,.int .i64,.bool,.bool],[]⟩,
 some ⟨4,40,.struct [(0,22),(1,3),(2,4),(3,4)],[.nils,.int .i64 0,.bool false,.bool false],[.bsl,.int .i64,.bool,.bool],[]⟩,
 none,
 none,
 none,
 none,
 none,
 none,
 none,
 some ⟨1,24,.slice 9 false,[.nils],[.sl 1],[]⟩,
 none,
 some ⟨1,8,.int .u64,[.int .u64 0],[.int .u64],[.int .u64]⟩,
 none,
 none,
 none,
 none,
 none,
 none,
 none,
 some ⟨1,8,.ptr 133,[.nilp],[.ptr],[]⟩,
 some ⟨2,32,.struct [(0,22),(1,3)],[.nils,.int .i64 0],[.bsl,.int .i64],[]⟩,
 some ⟨2,32,.struct [(0,22),(1,3)],[.nils,.int .i64 0],[.bsl,.int .i64],[]⟩,
 none,
 none,
 none,
 none,
 none,
 none,
 none,
 none,
 none,
 none,
 none,
 some ⟨6,72,.struct [(0,36),(3,3),(4,3),(5,3)],[.str [],.str [],.str [],.int .i64 0,.int .i64 0,.int .i64 0],[.str,.str,.str,.int .i64,.int .i64,.int .i64],[.str,.str,.str,.int .i64,.int .i64,.int .i64]⟩,
 some ⟨6,72,.struct [(0,36),(3,3),(4,3),(5,3)],[.str [],.str [],.str [],.int .i64 0,.int .i64 0,.int .i64 0],[.str,.str,.str,.int .i64,.int .i64,.int .i64],[.str,.str,.str,.int .i64,.int .i64,.int .i64]⟩,
 none,
 none,
 none,
 none,
 none,
 none,
 none,
 none,
 none,
 none,
 none,
 none,
 none,
 none,
 none,
 none,
 none,
 some ⟨1,24,.slice 3 false,[.nils],[.sl 1],[]⟩,
 none,
 none,
 none,
 none,
 none,
 none,
 none,
 none,
 none,
 none,
 none,
 none,
 none,
 none,
 none,
 none,
 none,
 none,
 none,
 none,
 none,
 none,
 none,
 none,
 none,
 none,
 none,
 none,
 none,
 none,
 none,
 none,
 none,
 none,
 none,
 none,
 some ⟨7,88,.struct [(0,4),(1,36),(4,3),(5,57),(6,9)],[.bool false,.str [],.str [],.str [],.int .i64 0,.int .i64 0,.str []],[.bool,.str,.str,.str,.int .i64,.int .i64,.str],[.bool,.str,.str,.str,.int .i64,.int .i64,.str]⟩,
 some ⟨7,88,.struct [(0,4),(1,36),(4,3),(5,57),(6,9)],[.bool false,.str [],.str [],.str [],.int .i64 0,.int .i64 0,.str []],[.bool,.str,.str,.str,.int .i64,.int .i64,.str],[.bool,.str,.str,.str,.int .i64,.int .i64,.str]⟩,
 none,
 none,
 none,
 none,
 none,
 none,
 none,
 none,
 none,
 none,
 none,
 none,
 some ⟨4,56,.struct [(0,36),(3,3)],[.str [],.str [],.str [],.int .i64 0],[.str,.str,.str,.int .i64],[.str,.str,.str,.int .i64]⟩,
 some ⟨4,56,.struct [(0,36),(3,3)],[.str [],.str [],.str [],.int .i64 0],[.str,.str,.str,.int .i64],[.str,.str,.str,.int .i64]⟩,
 none,
 none,
 none,
 some ⟨10,160,.arr 10 9 false,[.str [],.str [],.str [],.str [],.str [],.str [],.str [],.str [],.str [],.str []],[.str,.str,.str,.str,.str,.str,.str,.str,.str,.str],[]⟩,
 none,
 none,
 none,
 none,
 none,
 none,
 none,
 some ⟨1,24,.slice 22 false,[.nils],[.sl 1],[]⟩,
 some ⟨4,4,.arr 4 5 true,[.u8 0,.u8 0,.u8 0,.u8 0],[.u8,.u8,.u8,.u8],[]⟩,
 some ⟨1,8,.ptr 9,[.nilp],[.ptr],[]⟩,
 some ⟨1,24,.slice 230 false,[.nils],[.sl 1],[]⟩,
 some ⟨4,40,.struct [(0,17),(1,17),(2,17),(3,9)],[.nilp,.nilp,.nilp,.str []],[.ptr,.ptr,.ptr,.str],[]⟩,
 none,
 some ⟨0,0,.arr 0 16 false,[],[],[]⟩,
 none,
 none,
 some ⟨1,1,.u8,[.u8 0],[.u8],[.u8]⟩,
 some ⟨1,1,.u8,[.u8 0],[.u8],[.u8]⟩,
 none,
 some ⟨1,8,.ptr 5,[.nilp],[.ptr],[]⟩,
 some ⟨1,4,.int .i32,[.int .i32 0],[.int .i32],[.int .i32]⟩,
 some ⟨1,4,.int .i32,[.int .i32 0],[.int .i32],[.int .i32]⟩,
 none,
 none,
 none]
def keepT:List (Nat×Nat×List Keep):=[(3,11,[.val 1 23,.val 7 4,.val 16 4,.val 17 25,.cells 18 [.str,.sl 9],.ptr 18 18 0,.cells 20 [.str,.str,.str,.sl 5,.int .i64,.int .i64,.sl 5,.int .i64],.ptr 20 20 0,.val 21 3,.val 22 3]),
 (5,4,[.val 3 25,.rowL 4 80 4 false,.val 5 3]),
 (5,8,[.val 3 25,.rowL 4 80 4 false,.val 5 3,.val 6 4,.val 7 3]),
 (6,4,[.val 0 5,.val 1 5,.val 2 5,.cells 6 [.str,.sl 9],.ptr 6 6 0,.cellsR 7 [.imm (.str),.own 20701 83 9 false],.ptr 7 7 0,.val 8 81,.val 9 3]),
 (6,3000008,[.val 0 5,.val 1 5,.val 2 5,.cells 6 [.str,.sl 9],.ptr 6 6 0,.cellsR 7 [.imm (.str),.own 20701 83 9 false],.ptr 7 7 0,.val 8 81,.val 9 3,.cells 10 [.str,.str,.int .u64,.int .i64,.int .i64,.int .i64,.int .i64,.int .i64,.int .i64],.ptr 10 10 0]),
 (6,3000010,[.val 0 5,.val 1 5,.val 2 5,.cells 6 [.str,.sl 9],.ptr 6 6 0,.cellsR 7 [.imm (.str),.own 20701 83 9 false],.ptr 7 7 0,.val 8 81,.val 9 3,.cells 10 [.str,.str,.int .u64,.int .i64,.int .i64,.int .i64,.int .i64,.int .i64,.int .i64],.ptr 10 10 0]),
 (11,4,[.val 0 37,.val 1 37,.val 4 4,.val 5 3]),
 (22,9,[.cells 2 [.str,.sl 9],.ptr 2 2 0,.rowL 5 86 5 false,.val 45 25,.val 46 3,.val 47 3]),
 (23,3,[.cells 7 [.bsl,.int .i64],.ptr 3 7 0,.rowL 4 80 4 false]),
 (31,2,[.cells 2 [.str,.str,.str,.sl 5,.int .i64,.int .i64,.sl 5,.int .i64],.ptr 2 2 0,.cells 3 [.bool,.bool,.int .i64,.str,.bsl,.bsl],.ptr 3 3 0,.cells 4 [.str,.str,.str],.ptr 4 4 0,.val 10 37,.val 11 3,.val 12 3]),
 (33,1000038,[.val 0 3]),
 (33,1000042,[.val 0 3]),
 (34,5,[.val 1 164,.val 4 4,.val 5 57,.val 6 3,.val 7 4,.val 9 3]),
 (41,5,[.val 0 22,.val 4 47,.val 5 3]),
 (46,3000003,[.val 2 47,.val 3 3,.cells 4 [.u8,.u8,.u8,.u8,.bool,.bool,.bool,.u8,.u8,.u8,.u8,.u8,.u8,.int .u32,.u8,.u8,.u8,.int .u16,.int .u16],.ptr 4 4 0,.cells 5 [.str,.str,.str],.ptr 5 5 0,.cells 8 [.bool,.bool,.int .i64,.str,.bsl,.bsl],.ptr 8 8 0,.cells 9 [.bool,.str,.str,.str,.int .i64,.int .u64,.int .i64,.int .i64,.str,.str],.ptr 9 9 0]),
 (46,3000006,[.val 2 47,.val 3 3,.cells 4 [.u8,.u8,.u8,.u8,.bool,.bool,.bool,.u8,.u8,.u8,.u8,.u8,.u8,.int .u32,.u8,.u8,.u8,.int .u16,.int .u16],.ptr 4 4 0,.cells 5 [.str,.str,.str],.ptr 5 5 0,.cells 8 [.bool,.bool,.int .i64,.str,.bsl,.bsl],.ptr 8 8 0,.cells 9 [.bool,.str,.str,.str,.int .i64,.int .u64,.int .i64,.int .i64,.str,.str],.ptr 9 9 0,.cells 10 [.str,.str,.str,.int .i64,.int .i64,.int .i64],.ptr 10 10 0]),
 (46,3000011,[.cells 4 [.u8,.u8,.u8,.u8,.bool,.bool,.bool,.u8,.u8,.u8,.u8,.u8,.u8,.int .u32,.u8,.u8,.u8,.int .u16,.int .u16],.ptr 4 4 0,.cells 8 [.bool,.bool,.int .i64,.str,.bsl,.bsl],.ptr 8 8 0,.val 13 22,.cells 15 [.bool,.bool,.int .i64,.str,.bsl,.bsl],.ptr 15 15 0]),
 (46,3000013,[.cells 4 [.u8,.u8,.u8,.u8,.bool,.bool,.bool,.u8,.u8,.u8,.u8,.u8,.u8,.int .u32,.u8,.u8,.u8,.int .u16,.int .u16],.ptr 4 4 0,.cells 8 [.bool,.bool,.int .i64,.str,.bsl,.bsl],.ptr 8 8 0,.cells 15 [.bool,.bool,.int .i64,.str,.bsl,.bsl],.ptr 15 15 0]),
 (46,3000015,[.cells 4 [.u8,.u8,.u8,.u8,.bool,.bool,.bool,.u8,.u8,.u8,.u8,.u8,.u8,.int .u32,.u8,.u8,.u8,.int .u16,.int .u16],.ptr 4 4 0,.cells 8 [.bool,.bool,.int .i64,.str,.bsl,.bsl],.ptr 8 8 0,.cells 15 [.bool,.bool,.int .i64,.str,.bsl,.bsl],.ptr 15 15 0]),
 (46,3000017,[.cells 4 [.u8,.u8,.u8,.u8,.bool,.bool,.bool,.u8,.u8,.u8,.u8,.u8,.u8,.int .u32,.u8,.u8,.u8,.int .u16,.int .u16],.ptr 4 4 0,.cells 8 [.bool,.bool,.int .i64,.str,.bsl,.bsl],.ptr 8 8 0,.cells 15 [.bool,.bool,.int .i64,.str,.bsl,.bsl],.ptr 15 15 0]),
 (46,3000019,[.cells 8 [.bool,.bool,.int .i64,.str,.bsl,.bsl],.ptr 8 8 0,.cells 15 [.bool,.bool,.int .i64,.str,.bsl,.bsl],.ptr 15 15 0]),
 (48,3,[.val 1 9,.val 2 9,.val 6 3,.val 7 57,.val 8 3,.val 9 4,.val 13 27,.val 14 3,.val 15 3]),
 (63,13,[.cells 4 [.int .i64,.int .i64,.sl 5],.ptr 4 4 0,.cells 5 [.str,.str,.str,.int .i64,.int .i64],.ptr 5 5 0,.cells 8 [.int .i64,.int .i64,.sl 5],.ptr 8 8 0,.cellsR 10 [.imm (.int .i64),.imm (.int .i64),.own 21002 90 5 false],.ptr 10 10 0,.val 60 38,.val 61 3,.val 62 3]),
 (69,1000018,[.val 0 3]),
 (88,3,[.val 0 47,.rowB 3 5 false,.val 4 3]),
 (89,2,[.rowB 3 5 false]),
 (91,4,[.val 0 22,.val 1 3,.val 4 9,.val 5 3,.val 6 57,.val 7 3]),
 (102,2,[.val 0 3,.val 4 4,.val 7 164,.val 8 3,.val 9 3]),
 (104,6,[.val 0 22,.val 1 3,.val 2 3,.val 3 4,.val 12 3,.val 22 3,.val 23 3]),
 (115,4,[.val 0 37,.val 2 57,.val 8 37,.val 9 3,.val 10 3]),
 (116,6,[.cells 1 [.int .i64,.int .i64,.sl 5],.ptr 1 1 0,.val 2 57,.val 22 38,.val 23 3,.val 24 3]),
 (130,3,[.val 0 25,.val 1 9,.val 2 9,.val 8 3,.val 9 4,.val 12 25,.val 13 3,.val 14 3]),
 (138,6,[.val 2 3,.val 3 4,.val 11 22,.val 12 3,.val 14 3,.val 15 3]),
 (140,3,[.val 1 3,.val 2 3,.val 3 4,.rowB 9 5 false,.val 10 3]),
 (144,1000023,[.val 0 3]),
 (146,2,[.val 0 9,.val 1 9,.val 4 4,.val 5 3]),
 (146,7,[.val 0 9,.val 1 9,.val 4 4,.val 5 3,.val 6 3]),
 (152,3,[.val 0 228,.val 3 3,.val 9 228,.val 10 3,.val 11 3]),
 (152,11,[.rowB 6 5 false,.val 25 228,.val 26 3,.val 27 3]),
 (153,2,[.val 0 9,.val 1 9,.val 4 4,.val 7 3,.val 8 3]),
 (154,3,[.val 0 22,.val 1 3,.val 2 3,.val 3 4,.barr 9 false,.ptr 9 9 0,.val 12 3,.val 13 3]),
 (155,2,[.val 0 37,.cells 3 [.str,.str,.str,.int .i64],.ptr 3 3 0,.val 4 3,.val 7 37,.val 8 3,.val 9 3]),
 (157,2,[.cells 3 [.str,.str,.str,.int .i64,.int .i64],.ptr 3 3 0,.val 4 4,.val 7 38,.val 8 3,.val 9 3]),
 (165,4,[.val 0 22,.val 1 3,.cells 4 [.str,.str,.str],.ptr 4 4 0,.val 5 3,.val 6 57,.cells 7 [.str,.str,.str],.ptr 7 7 0,.psl 14 7 [0,1,2],.val 15 3,.val 16 3]),
 (166,5,[.val 4 47,.val 10 22,.val 11 3,.val 12 3]),
 (169,2,[.val 0 3,.val 7 164,.val 8 3,.val 9 3]),
 (171,3,[.val 0 47,.rowB 3 5 false,.val 7 3,.val 8 3])]
def ownT:List Nat:=[25,26,89,140,176,83,84,85,152,87,154,111,112,174]
def rtsT:List (Nat×List Nat):=[(9,[47]),(11,[4]),(20,[47]),(25,[37]),(26,[38]),(28,[36]),(33,[22]),(48,[3,57]),(50,[4]),(51,[3]),(58,[4]),(64,[22]),(67,[4]),(73,[3,4,57]),(75,[]),(78,[22,3,57]),(80,[4]),(82,[22]),(88,[22]),(89,[22]),(90,[121]),(91,[9,3,57]),(93,[22]),(99,[4]),(102,[4]),(105,[57]),(110,[4]),(117,[4]),(119,[36]),(123,[4]),(125,[9]),(130,[3,4]),(140,[22]),(141,[47]),(143,[4]),(146,[4]),(147,[4]),(148,[4]),(149,[4]),(150,[3]),(156,[216]),(157,[4]),(159,[4]),(160,[4]),(161,[4]),(169,[3]),(171,[22]),(173,[4]),(176,[22]),(180,[4]),(182,[3]),(183,[4]),(184,[4]),(34,[4,57]),(39,[22]),(43,[9]),(44,[9]),(59,[42]),(81,[22]),(83,[22]),(84,[22]),(85,[22]),(86,[4]),(97,[4]),(98,[4]),(100,[3,3,4]),(101,[3,4,57]),(103,[22,3,57]),(104,[3,3,57]),(106,[3]),(121,[4]),(124,[4]),(132,[3]),(138,[3,3,57]),(139,[4]),(151,[22]),(152,[22]),(155,[3]),(170,[3,4]),(178,[3]),(15,[36]),(19,[36]),(21,[36]),(23,[25]),(35,[36]),(41,[47,4]),(49,[4]),(52,[4,57]),(54,[3,3,57]),(55,[3,3,57]),(56,[9,3,57]),(70,[3]),(74,[3,3,57]),(76,[3,3,57]),(77,[3,3,57]),(79,[4]),(87,[22]),(96,[22,57]),(113,[22]),(118,[47,4]),(122,[57]),(133,[3,4]),(142,[3]),(144,[22,57]),(154,[22]),(162,[3]),(172,[22]),(5,[25]),(6,[29]),(16,[68,3,57]),(22,[37]),(24,[36]),(36,[3]),(37,[3]),(38,[3]),(40,[22,57]),(42,[22,57]),(47,[22,57]),(53,[92,3]),(62,[57]),(69,[3,4]),(92,[57]),(111,[22]),(112,[22]),(136,[22,57]),(153,[4]),(163,[22]),(166,[47,4]),(168,[3,57]),(174,[22]),(175,[57]),(7,[42]),(12,[56,57]),(13,[22,4]),(14,[63,57]),(45,[22,57]),(108,[4]),(109,[4]),(131,[3,57]),(145,[22,57]),(164,[68,3,57]),(17,[72,57]),(94,[22,57]),(95,[22,57]),(127,[22,4]),(129,[4]),(46,[92]),(68,[47,3,3,3,57]),(107,[22,57]),(114,[4]),(18,[22]),(57,[22,57]),(115,[57]),(116,[57]),(126,[22,57]),(135,[22,57]),(137,[22,57]),(165,[36,3,57]),(179,[57]),(181,[57]),(10,[22]),(27,[94,57]),(60,[57]),(63,[40,57]),(65,[22]),(72,[22,57]),(167,[22,57]),(177,[22,57]),(30,[22,49,4]),(128,[72,57]),(134,[22,57]),(158,[146,57]),(66,[72,57]),(71,[49,63,57]),(120,[146,57]),(31,[36]),(32,[22,49,4]),(61,[72,146,57]),(29,[42,101,57]),(8,[42,22,49,4]),(4,[4]),(3,[4])]
def sp9:Abs.Spec:=fun xs bl=>match xs,bl with
 | [.int .i64 n],[]=>chk (decide (0≤n)&&decide (n≤1000)) (some (.int .u64 (Kerb.session n),[]))
 | _,_=>none
def sp11:Abs.Spec:=fun xs bl=>match xs,bl with
 | [.sl 5 kls,.sl 5 jls],[]=>chk (kls.all Yp&&decide (kls.length≤1000000)&&jls.all Yp) (some (.bool (Kerb.sameSKeys (kls.map Zw) (jls.map Zw)),[]))
 | _,_=>none
def sp20:Abs.Spec:=fun xs bl=>match xs,bl with
 | [.int .i64 n],[]=>chk (decide (0≤n)&&decide (n≤1000)) (some (.int .u64 (Kerb.long n),[]))
 | _,_=>none
def sp25:Abs.Spec:=fun xs bl=>match xs,bl with
 | [.sl 5 kls],[]=>chk (decide (kls.length≤1000000)) (some (.ownL kls,[]))
 | _,_=>none
def sp26:Abs.Spec:=fun xs bl=>match xs,bl with
 | [.sl 5 mls],[]=>chk (decide (mls.length≤1000000)) (some (.ownL mls,[]))
 | _,_=>none
def sp28:Abs.Spec:=fun xs bl=>match xs,bl with
 | [.str r,.str t],[]=>some (.agg [.str [107,114,98,116,103,116],.str t,.str r],[])
 | _,_=>none
def sp33:Abs.Spec:=fun xs bl=>match xs,bl with
 | [.bs b,.int .u16 how],[]=>chk (decide (b.length≤1000000)&&decide (0≤how)&&decide (how≤65535)) (some (.bs (Kerb.spoil b how),[]))
 | _,_=>none
def sp48:Abs.Spec:=fun xs bl=>match xs,bl with
 | [.agg [.str rl,.sl 9 els],.str n,.str i],[]=>chk (els.all Yh&&decide (els.length≤1000000)) (some (.tup [.int .i64 (Kerb.findEnt (els.map Zv) n i).1,.int .i64 (Kerb.findEnt (els.map Zv) n i).2],[]))
 | _,_=>none
def sp50:Abs.Spec:=fun xs bl=>match xs,bl with
 | [.ptr 0 0],[(0,[.bs l,.int .i64 pos])]=>some (.bool (decide (pos<(l.length:Int))),[[.bs l,.int .i64 pos]])
 | _,_=>none
def sp51:Abs.Spec:=fun xs bl=>match xs,bl with
 | [.ptr 0 0,.int .i64 n],[(0,[.bs l,.int .i64 pos])]=>chk (decide (l.length≤4611686018427387904)&&decide (0≤pos)) (some (.int .i64 (Kerb.next l pos n),[[.bs l,.int .i64 (Kerb.nextPos l pos n)]]))
 | _,_=>none
def sp58:Abs.Spec:=fun xs bl=>match xs,bl with
 | [.bs a,.bs b],[]=>some (.bool (a==b),[])
 | _,_=>none
def sp64:Abs.Spec:=fun xs bl=>match xs,bl with
 | [.bs b],[]=>chk (decide (b.length≤140737488355328)) (some (.bs b,[]))
 | _,_=>none
def sp67:Abs.Spec:=fun xs bl=>match xs,bl with
 | [.agg [.str x,.str y,.str z]],[]=>some (.bool (x==Kerb.krbtgt),[])
 | _,_=>none
def sp73:Abs.Spec:=fun xs bl=>match xs,bl with
 | [.bs b],[]=>some (.tup [.int .i64 (Xy b).kind,.bool (Xy b).little,.int .i64 (Xy b).err],[])
 | _,_=>none
def sp75:Abs.Spec:=fun xs bl=>match xs,bl with
 | [.ptr 0 0,.int .i64 nx,.int .i64 e],[(0,[.bs B,.int .i64 at_,.bool li,.bool bad])]=>some (.tup [],[[.bs B,.int .i64 (cond (bad || !(e==0)) at_ nx),.bool li,.bool (bad || !(e==0))]])
 | _,_=>none
def sp78:Abs.Spec:=fun xs bl=>match xs,bl with
 | [.bs b,.int .i64 pos,.int .i64 n],[]=>chk (decide (b.length≤140737488355328)) (some (.tup [.bs (Yg b pos n).val,.int .i64 (Yg b pos n).next,.int .i64 (Yg b pos n).err],[]))
 | _,_=>none
def sp80:Abs.Spec:=fun xs bl=>match xs,bl with
 | [.int .i64 n,.int .i64 m],[]=>some (.bool (Yq n m),[])
 | _,_=>none
def sp82:Abs.Spec:=fun xs bl=>match xs,bl with
 | [.int .i64 k,.bool little],[]=>some (.bs (Kerb.header k little),[])
 | _,_=>none
def sp88:Abs.Spec:=fun xs bl=>match xs,bl with
 | [.int .u64 k],[]=>chk (decide (0≤k)&&decide (k<18446744073709551616)) (some (.bs (Kerb.keyBytes k),[]))
 | _,_=>none
def sp89:Abs.Spec:=fun xs bl=>match xs,bl with
 | [.bs b],[]=>chk (decide (b.length≤70368744177664)) (some (.ownB (Kerb.pad b),[]))
 | _,_=>none
def sp90:Abs.Spec:=fun xs bl=>match xs,bl with
 | [],[]=>some (.sl 1 [.str [65,84,72],.str [66,79,83],.str [67,65,77]],[])
 | _,_=>none
def sp91:Abs.Spec:=fun xs bl=>match xs,bl with
 | [.bs b,.int .i64 pos],[]=>chk (decide (b.length≤140737488355328)) (some (.tup [.str (Ym b pos).val,.int .i64 (Ym b pos).next,.int .i64 (Ym b pos).err],[]))
 | _,_=>none
def sp93:Abs.Spec:=fun xs bl=>match xs,bl with
 | [.bs b,.str s],[]=>chk (decide (b.length+s.length≤70368744177664)) (some (.bs (Kerb.putText b s),[]))
 | _,_=>none
def sp99:Abs.Spec:=fun xs bl=>match xs,bl with
 | [.int .i64 n,.int .i64 m],[]=>some (.bool (Yq n m),[])
 | _,_=>none
def sp102:Abs.Spec:=fun xs bl=>match xs,bl with
 | [.int .i64 k,.sl 1 els],[]=>chk (allInts els&&decide (els.length≤1000)) (some (.bool ((intsIn els).contains k),[]))
 | _,_=>none
def sp105:Abs.Spec:=fun xs bl=>match xs,bl with
 | [.bs b,.int .i64 pos,.int .i64 n],[]=>chk (decide (b.length≤4611686018427387904)) (some (.int .i64 (Kerb.room b pos n),[]))
 | _,_=>none
def sp110:Abs.Spec:=fun xs bl=>match xs,bl with
 | [.int .i64 n,.int .i64 m],[]=>some (.bool (Yq n m),[])
 | _,_=>none
def sp117:Abs.Spec:=fun xs bl=>match xs,bl with
 | [.int .i64 n],[]=>some (.bool (Yq n 4294967295),[])
 | _,_=>none
def sp119:Abs.Spec:=fun xs bl=>match xs,bl with
 | [.agg [.bool ali,.str b1,.str b2,.str b3,.int .i64 aad,.int .u64 ak,.int .i64 alf,.int .i64 ais,.str asv,.str ain],.str rl],[]=>some (.agg [.str asv,.str ain,.str rl],[])
 | _,_=>none
def sp123:Abs.Spec:=fun xs bl=>match xs,bl with
 | [.int .i64 n,.int .i64 l,.int .i64 m],[]=>some (.bool (decide (l≤n)&&decide (n≤m)),[])
 | _,_=>none
def sp125:Abs.Spec:=fun xs bl=>match xs,bl with
 | [.int .i64 code],[]=>some (.str (Kerb.message code),[])
 | _,_=>none
def sp130:Abs.Spec:=fun xs bl=>match xs,bl with
 | [.sl 4 xls,.str a,.str b],[]=>chk (xls.all Xu&&decide (xls.length≤1000000)) (some (.tup [.int .i64 (Kerb.findCross (xls.map Zu) a b).1,.bool (Kerb.findCross (xls.map Zu) a b).2],[]))
 | _,_=>none
def sp140:Abs.Spec:=fun xs bl=>match xs,bl with
 | [.bs b,.int .i64 n,.int .i64 k,.bool little],[]=>chk (decide (k=1∨k=2∨k=4)&&decide (b.length≤70368744177664)) (some (.ownB (b++Xz n k.toNat little),[]))
 | _,_=>none
def sp141:Abs.Spec:=fun xs bl=>match xs,bl with
 | [.int .i64 c,.int .i64 n],[]=>some (.int .u64 (cond (Kerb.isClass c&&Kerb.isSerial n) (c*72057594037927936+n) 0),[])
 | _,_=>none
def sp143:Abs.Spec:=fun xs bl=>match xs,bl with
 | [.int .i64 n,.int .i64 m],[]=>some (.bool (Yq n m),[])
 | _,_=>none
def sp146:Abs.Spec:=fun xs bl=>match xs,bl with
 | [.str s,.str bad],[]=>chk (decide (s.length≤9223372036854775807)&&decide (bad.length≤100)) (some (.bool (Kerb.printable s bad&&decide (s.length≤39)),[]))
 | _,_=>none
def sp147:Abs.Spec:=fun xs bl=>match xs,bl with
 | [.int .i64 k],[]=>some (.bool (Kerb.isClass k),[])
 | _,_=>none
def sp148:Abs.Spec:=fun xs bl=>match xs,bl with
 | [.int .i64 k],[]=>some (.bool (Kerb.isSerial k),[])
 | _,_=>none
def sp149:Abs.Spec:=fun xs bl=>match xs,bl with
 | [.int .i64 k],[]=>some (.bool (Kerb.isKind k),[])
 | _,_=>none
def sp150:Abs.Spec:=fun xs bl=>match xs,bl with
 | [.bs s,.u8 c],[]=>some (.int .i64 (Kerb.indexOf c s),[])
 | _,_=>none
def sp156:Abs.Spec:=fun xs bl=>match xs,bl with
 | [.agg [.str x,.str y,.str z,.int .i64 v,.int .u64 k]],[]=>some (.agg [.str x,.str y,.str z,.int .i64 v],[])
 | _,_=>none
def sp157:Abs.Spec:=fun xs bl=>match xs,bl with
 | [.sl 5 mls,.agg [.str a1,.str a2,.str a3,.int .i64 at_,.int .i64 atk]],[]=>chk (mls.all Yf&&decide (mls.length≤1000000)) (some (.bool (Kerb.hasMark (mls.map Zx) (Xw ⟨a1,a2,a3⟩ at_ atk)),[]))
 | _,_=>none
def sp159:Abs.Spec:=fun xs bl=>match xs,bl with
 | [.int .i64 n],[]=>some (.bool (Yq n 4294967295),[])
 | _,_=>none
def sp160:Abs.Spec:=fun xs bl=>match xs,bl with
 | [.int .i64 n],[]=>some (.bool (Yq n 255),[])
 | _,_=>none
def sp161:Abs.Spec:=fun xs bl=>match xs,bl with
 | [.int .i64 n,.int .i64 m],[]=>some (.bool (Yq n m),[])
 | _,_=>none
def sp169:Abs.Spec:=fun xs bl=>match xs,bl with
 | [.int .i64 n,.sl 1 els],[]=>chk (allInts els&&decide (els.length≤1000000)) (some (.int .i64 (Kerb.least n (intsIn els)),[]))
 | _,_=>none
def sp171:Abs.Spec:=fun xs bl=>match xs,bl with
 | [.int .u64 k],[]=>chk (decide (0≤k)&&decide (k<18446744073709551616)) (some (.bs (Kerb.keyBytes k),[]))
 | _,_=>none
def sp173:Abs.Spec:=fun xs bl=>match xs,bl with
 | [.int .i64 k],[]=>some (.bool (Kerb.isKind k),[])
 | _,_=>none
def sp176:Abs.Spec:=fun xs bl=>match xs,bl with
 | [.nils,.int .i64 n],[]=>chk (decide (0≤n)&&decide (n≤140737488355328)) (some (.ownB [],[]))
 | _,_=>none
def sp180:Abs.Spec:=fun xs bl=>match xs,bl with
 | [.int .i64 n,.int .i64 m],[]=>some (.bool (Yq n m),[])
 | _,_=>none
def sp182:Abs.Spec:=fun xs bl=>match xs,bl with
 | [.str s,.u8 c],[]=>some (.int .i64 (Kerb.indexOf c s),[])
 | _,_=>none
def sp183:Abs.Spec:=fun xs bl=>match xs,bl with
 | [.int .i64 n,.int .i64 m],[]=>some (.bool (Yq n m),[])
 | _,_=>none
def sp184:Abs.Spec:=fun xs bl=>match xs,bl with
 | [.int .i64 n,.int .i64 m],[]=>some (.bool (Yq n m),[])
 | _,_=>none
def sp34:Abs.Spec:=fun xs bl=>match xs,bl with
 | [.bs b,.sl 1 els],[]=>chk (allInts els&&decide (els.length≤1000)) (some (.tup [.bool (Kerb.headIs b (intsIn els)).1,.int .i64 (Kerb.headIs b (intsIn els)).2],[]))
 | _,_=>none
def sp39:Abs.Spec:=fun xs bl=>match xs,bl with
 | [.ptr 0 0,.int .i64 n],[(0,[.bs B,.int .i64 at_,.bool li,.bool bad])]=>chk (decide (B.length≤140737488355328)) (some (.bs (Yg B at_ n).val,[[.bs B,.int .i64 (cond (bad || !((Yg B at_ n).err==0)) at_ (Yg B at_ n).next),.bool li,.bool (bad || !((Yg B at_ n).err==0))]]))
 | _,_=>none
def sp43:Abs.Spec:=fun xs bl=>match xs,bl with
 | [.int .i64 n],[]=>chk (decide (0≤n)) (some (.str (Kerb.realm n),[]))
 | _,_=>none
def sp44:Abs.Spec:=fun xs bl=>match xs,bl with
 | [.ptr 0 0],[(0,[.bs B,.int .i64 at_,.bool li,.bool bad])]=>chk (decide (B.length≤140737488355328)) (some (.str (Ym B at_).val,[[.bs B,.int .i64 (cond (bad || !((Ym B at_).err==0)) at_ (Ym B at_).next),.bool li,.bool (bad || !((Ym B at_).err==0))]]))
 | _,_=>none
def sp59:Abs.Spec:=fun xs bl=>match xs,bl with
 | [.agg [.str m1,.str m2,.str m3,.sl 5 kls,.int .i64 sz,.int .i64 fl,.sl 5 mls,.int .i64 sk]],[]=>chk (decide (kls.length≤1000000)&&decide (mls.length≤1000000)) (some (.agg [.str m1,.str m2,.str m3,.sl 5 kls,.int .i64 sz,.int .i64 fl,.sl 5 mls,.int .i64 sk],[]))
 | _,_=>none
def sp81:Abs.Spec:=fun xs bl=>match xs,bl with
 | [.bs b,.agg [.str x,.str y,.str z]],[]=>chk (decide (b.length+x.length+y.length+z.length≤70368744170000)) (some (.bs (Kerb.putPrin b ⟨x,y,z⟩),[]))
 | _,_=>none
def sp83:Abs.Spec:=fun xs bl=>match xs,bl with
 | [.bs b,.int .i64 n],[]=>chk (decide (b.length≤70368744177664)) (some (.ownB (b++Xz n 1 false),[]))
 | _,_=>none
def sp84:Abs.Spec:=fun xs bl=>match xs,bl with
 | [.bs b,.int .i64 n,.bool little],[]=>chk (decide (b.length≤70368744177664)) (some (.ownB (b++Xz n 4 little),[]))
 | _,_=>none
def sp85:Abs.Spec:=fun xs bl=>match xs,bl with
 | [.bs b,.int .i64 n,.bool little],[]=>chk (decide (b.length≤70368744177664)) (some (.ownB (b++Xz n 2 little),[]))
 | _,_=>none
def sp86:Abs.Spec:=fun xs bl=>match xs,bl with
 | [.int .u64 k],[]=>chk (decide (0≤k)&&decide (k<18446744073709551616)) (some (.bool (Xj k),[]))
 | _,_=>none
def sp97:Abs.Spec:=fun xs bl=>match xs,bl with
 | [.str s],[]=>chk (decide (s.length≤9223372036854775807)) (some (.bool (Kerb.validName s),[]))
 | _,_=>none
def sp98:Abs.Spec:=fun xs bl=>match xs,bl with
 | [.str s],[]=>chk (decide (s.length≤9223372036854775807)) (some (.bool (Kerb.validInst s),[]))
 | _,_=>none
def sp100:Abs.Spec:=fun xs bl=>match xs,bl with
 | [.int .u64 k],[]=>chk (decide (0≤k)&&decide (k<18446744073709551616)) (some (.tup [.int .i64 (cond (Xj k) (Kerb.keyClass k) 0),.int .i64 (cond (Xj k) (Kerb.keySerial k) 0),.bool (Xj k)],[]))
 | _,_=>none
def sp101:Abs.Spec:=fun xs bl=>match xs,bl with
 | [.bs b],[]=>some (.tup [.int .i64 (Xy b).kind,.bool (Xy b).little,.int .i64 (Xy b).err],[])
 | _,_=>none
def sp103:Abs.Spec:=fun xs bl=>match xs,bl with
 | [.bs b,.int .i64 pos,.int .i64 n],[]=>chk (decide (b.length≤140737488355328)) (some (.tup [.bs (Yg b pos n).val,.int .i64 (Yg b pos n).next,.int .i64 (Yg b pos n).err],[]))
 | _,_=>none
def sp104:Abs.Spec:=fun xs bl=>match xs,bl with
 | [.bs b,.int .i64 pos,.int .i64 k,.bool little],[]=>chk (decide (b.length≤4611686018427387904)&&decide (0≤k)&&decide (k≤4)) (some (.tup [.int .i64 (Zg b pos k little).val,.int .i64 (Zg b pos k little).next,.int .i64 (Zg b pos k little).err],[]))
 | _,_=>none
def sp106:Abs.Spec:=fun xs bl=>match xs,bl with
 | [.bs s,.u8 c],[]=>some (.int .i64 (Kerb.indexOf c s),[])
 | _,_=>none
def sp121:Abs.Spec:=fun xs bl=>match xs,bl with
 | [.int .i64 a,.int .i64 b,.int .i64 s],[]=>some (.bool (Kerb.near a b s),[])
 | _,_=>none
def sp124:Abs.Spec:=fun xs bl=>match xs,bl with
 | [.agg [.int .i64 sz,.int .i64 fl,.sl 5 mls],.agg [.str a1,.str a2,.str a3,.int .i64 at_,.int .i64 atk]],[]=>chk (mls.all Yf&&decide (mls.length≤1000000)) (some (.bool (Kerb.hasMark (mls.map Zx) (Xw ⟨a1,a2,a3⟩ at_ atk)),[]))
 | _,_=>none
def sp132:Abs.Spec:=fun xs bl=>match xs,bl with
 | [.int .i64 i,.int .i64 l],[]=>some (.int .i64 (Kerb.tEnd i l),[])
 | _,_=>none
def sp138:Abs.Spec:=fun xs bl=>match xs,bl with
 | [.bs b,.int .i64 pos,.int .i64 k,.bool little],[]=>chk (decide (b.length≤140737488355328)&&decide (0≤k)&&decide (k≤4)) (some (.tup [.int .i64 (Zg b pos k little).val,.int .i64 (Zg b pos k little).next,.int .i64 (Zg b pos k little).err],[]))
 | _,_=>none
def sp139:Abs.Spec:=fun xs bl=>match xs,bl with
 | [.str s],[]=>chk (decide (s.length≤9223372036854775807)) (some (.bool (Kerb.validRealm s),[]))
 | _,_=>none
def sp151:Abs.Spec:=fun xs bl=>match xs,bl with
 | [.int .i64 k,.bool little],[]=>some (.bs (Kerb.header k little),[])
 | _,_=>none
def sp152:Abs.Spec:=fun xs bl=>match xs,bl with
 | [.sl 1 els],[]=>chk (allB els&&decide ((catB els).length≤140737488355328)&&decide (els.length≤1000)) (some (.ownB (catB els),[]))
 | _,_=>none
def sp155:Abs.Spec:=fun xs bl=>match xs,bl with
 | [.sl 5 kls,.agg [.str x,.str y,.str z,.int .i64 v]],[]=>chk (kls.all Yp&&decide (kls.length≤1000000)) (some (.int .i64 ((Kerb.skAt (kls.map Zw) ⟨x,y,z⟩ v:Nat):Int),[]))
 | _,_=>none
def sp170:Abs.Spec:=fun xs bl=>match xs,bl with
 | [.int .i64 n],[]=>chk (decide (-9223372036854775808≤n)&&decide (n≤9223372036854775807)) (some (.tup [.int .i64 (cond (decide (n<300)) 0 (Kerb.fromSec n)),.bool (!decide (n<300))],[]))
 | _,_=>none
def sp178:Abs.Spec:=fun xs bl=>match xs,bl with
 | [.str s,.u8 c],[]=>some (.int .i64 (Kerb.indexOf c s),[])
 | _,_=>none
def sp15:Abs.Spec:=fun xs bl=>match xs,bl with
 | [.int .i64 n],[]=>chk (decide (0≤n)&&decide (n≤4611686018427387904)) (some (.agg [.str (Kerb.user n).name,.str (Kerb.user n).inst,.str (Kerb.user n).realm],[]))
 | _,_=>none
def sp19:Abs.Spec:=fun xs bl=>match xs,bl with
 | [.int .i64 n,.int .i64 m],[]=>chk (decide (0≤n)&&decide (0≤m)) (some (.agg [.str Kerb.krbtgt,.str (Kerb.realm m),.str (Kerb.realm n)],[]))
 | _,_=>none
def sp21:Abs.Spec:=fun xs bl=>match xs,bl with
 | [.int .i64 n],[]=>chk (decide (0≤n)&&decide (n≤4611686018427387904)) (some (.agg [.str (Kerb.service n).name,.str (Kerb.service n).inst,.str (Kerb.service n).realm],[]))
 | _,_=>none
def sp23:Abs.Spec:=fun xs bl=>match xs,bl with
 | [.bs l],[]=>chk (decide (l.length≤100000)) (some (.sl 4 ((Kerb.dataCross l).map Kerb.Cross.av),[]))
 | _,_=>none
def sp35:Abs.Spec:=fun xs bl=>match xs,bl with
 | [.ptr 0 0],[(0,[.bs B,.int .i64 at_,.bool li,.bool bad])]=>chk (decide (B.length≤140737488355328)) (some (.agg [.str (Kerb.rdPrin B at_ bad).p.name,.str (Kerb.rdPrin B at_ bad).p.inst,.str (Kerb.rdPrin B at_ bad).p.realm],[[.bs B,.int .i64 (Kerb.rdPrin B at_ bad).pos,.bool li,.bool (Kerb.rdPrin B at_ bad).bad]]))
 | _,_=>none
def sp41:Abs.Spec:=fun xs bl=>match xs,bl with
 | [.bs b],[]=>chk (decide (b.length≤4611686018427387904)) (some (.tup [.int .u64 (Kerb.keyRead b).1,.bool (Kerb.keyRead b).2],[]))
 | _,_=>none
def sp49:Abs.Spec:=fun xs bl=>match xs,bl with
 | [.int .u64 k],[]=>chk (decide (0≤k)&&decide (k<18446744073709551616)) (some (.bool (Xj k),[]))
 | _,_=>none
def sp52:Abs.Spec:=fun xs bl=>match xs,bl with
 | [.bs b,.sl 1 els],[]=>chk (allInts els&&decide (els.length≤1000)) (some (.tup [.bool (Kerb.headIs b (intsIn els)).1,.int .i64 (Kerb.headIs b (intsIn els)).2],[]))
 | _,_=>none
def sp54:Abs.Spec:=fun xs bl=>match xs,bl with
 | [.bs b,.int .i64 pos,.bool little],[]=>chk (decide (b.length≤4611686018427387904)) (some (.tup [.int .i64 (Zg b pos 4 little).val,.int .i64 (Zg b pos 4 little).next,.int .i64 (Zg b pos 4 little).err],[]))
 | _,_=>none
def sp55:Abs.Spec:=fun xs bl=>match xs,bl with
 | [.bs b,.int .i64 pos],[]=>chk (decide (b.length≤4611686018427387904)) (some (.tup [.int .i64 (Zg b pos 1 false).val,.int .i64 (Zg b pos 1 false).next,.int .i64 (Zg b pos 1 false).err],[]))
 | _,_=>none
def sp56:Abs.Spec:=fun xs bl=>match xs,bl with
 | [.bs b,.int .i64 pos],[]=>chk (decide (b.length≤4611686018427387904)) (some (.tup [.str (Ym b pos).val,.int .i64 (Ym b pos).next,.int .i64 (Ym b pos).err],[]))
 | _,_=>none
def sp70:Abs.Spec:=fun xs bl=>match xs,bl with
 | [.int .u64 k],[]=>chk (decide (0≤k)&&decide (k<18446744073709551616)) (some (.int .i64 (Kerb.classOf k),[]))
 | _,_=>none
def sp74:Abs.Spec:=fun xs bl=>match xs,bl with
 | [.bs b,.int .i64 pos,.bool little],[]=>chk (decide (b.length≤140737488355328)) (some (.tup [.int .i64 (Zg b pos 4 little).val,.int .i64 (Zg b pos 4 little).next,.int .i64 (Zg b pos 4 little).err],[]))
 | _,_=>none
def sp76:Abs.Spec:=fun xs bl=>match xs,bl with
 | [.bs b,.int .i64 pos],[]=>chk (decide (b.length≤140737488355328)) (some (.tup [.int .i64 (Zg b pos 1 false).val,.int .i64 (Zg b pos 1 false).next,.int .i64 (Zg b pos 1 false).err],[]))
 | _,_=>none
def sp77:Abs.Spec:=fun xs bl=>match xs,bl with
 | [.bs b,.int .i64 pos,.bool little],[]=>chk (decide (b.length≤140737488355328)) (some (.tup [.int .i64 (Zg b pos 2 little).val,.int .i64 (Zg b pos 2 little).next,.int .i64 (Zg b pos 2 little).err],[]))
 | _,_=>none
def sp79:Abs.Spec:=fun xs bl=>match xs,bl with
 | [.agg [.str a,.str b,.str c]],[]=>chk (decide (a.length≤9223372036854775807)&&decide (b.length≤9223372036854775807)&&decide (c.length≤9223372036854775807)) (some (.bool (Kerb.Prin.valid ⟨a,b,c⟩),[]))
 | _,_=>none
def sp87:Abs.Spec:=fun xs bl=>match xs,bl with
 | [.bs b,.bool little],[]=>chk (decide (b.length≤70368744177664)) (some (.ownB (b++Xz (cond little 1 0) 1 false),[]))
 | _,_=>none
def sp96:Abs.Spec:=fun xs bl=>match xs,bl with
 | [.agg [.bool li,.bool mu,.int .i64 kv,.str rl,.bs tk,.bs au]],[]=>chk (decide (rl.length≤9223372036854775807)) (some (.tup [.bs (Kerb.encodeAp (Zz li mu kv rl tk au)).val,.int .i64 (Kerb.encodeAp (Zz li mu kv rl tk au)).err],[]))
 | _,_=>none
def sp113:Abs.Spec:=fun xs bl=>match xs,bl with
 | [.bs b,.str s],[]=>chk (decide (b.length+s.length≤70368744177664)) (some (.bs (Kerb.putText b s),[]))
 | _,_=>none
def sp118:Abs.Spec:=fun xs bl=>match xs,bl with
 | [.sl 5 kls,.agg [.str x,.str y,.str z],.int .i64 v],[]=>chk (kls.all Yp&&decide (kls.length≤1000000)) (some (.tup [.int .u64 (Kerb.skFind (kls.map Zw) ⟨x,y,z⟩ v).1,.bool (Kerb.skFind (kls.map Zw) ⟨x,y,z⟩ v).2],[]))
 | _,_=>none
def sp122:Abs.Spec:=fun xs bl=>match xs,bl with
 | [.int .i64 i,.int .i64 l,.int .i64 n,.int .i64 s],[]=>some (.int .i64 (Kerb.stateErr i l n s),[])
 | _,_=>none
def sp133:Abs.Spec:=fun xs bl=>match xs,bl with
 | [.int .i64 n,.int .i64 w,.sl 1 els],[]=>chk (allInts els&&decide (els.length≤1000000)&&(intsIn els).all Kerb.isI64) (some (.tup [.int .i64 (Kerb.grantLife n w (intsIn els)).1,.bool (Kerb.grantLife n w (intsIn els)).2],[]))
 | _,_=>none
def sp142:Abs.Spec:=fun xs bl=>match xs,bl with
 | [.int .u64 k],[]=>chk (decide (0≤k)&&decide (k<18446744073709551616)) (some (.int .i64 (Kerb.classOf k),[]))
 | _,_=>none
def sp144:Abs.Spec:=fun xs bl=>match xs,bl with
 | [.int .i64 kd,.int .u64 k,.bs bd],[]=>chk (decide (0≤k)&&decide (k<18446744073709551616)) (some (.tup [.bs (Kerb.makeBox kd k bd).val,.int .i64 (Kerb.makeBox kd k bd).err],[]))
 | _,_=>none
def sp154:Abs.Spec:=fun xs bl=>match xs,bl with
 | [.bs b,.int .i64 n,.int .i64 k,.bool little],[]=>chk (decide (k=1∨k=2∨k=4)&&decide (b.length≤70368744177664)) (some (.ownB (b++Xz n k.toNat little),[]))
 | _,_=>none
def sp162:Abs.Spec:=fun xs bl=>match xs,bl with
 | [.str s,.u8 c],[]=>some (.int .i64 (Kerb.indexOf c s),[])
 | _,_=>none
def sp172:Abs.Spec:=fun xs bl=>match xs,bl with
 | [.bs b],[]=>chk (decide (b.length≤70368744177664)) (some (.bs (Kerb.pad b),[]))
 | _,_=>none
def sp5:Abs.Spec:=fun xs bl=>match xs,bl with
 | [.bs l],[]=>chk (decide (l.length≤100000)) (some (.sl 4 ((Kerb.goodCross l).map Kerb.Cross.av),[]))
 | _,_=>none
def sp6:Abs.Spec:=fun xs bl=>match xs,bl with
 | [.u8 lf,.u8 xp,.u8 bd],[]=>some (.agg [.str (Kerb.simpleDb lf xp bd).realm,.sl 9 ((Kerb.simpleDb lf xp bd).entries.map Kerb.Entry.av)],[])
 | _,_=>none
def sp16:Abs.Spec:=fun xs bl=>match xs,bl with
 | [.bs b],[]=>chk (decide (b.length≤140737488355328)) (some (.tup [.agg [.int .i64 (Yj b).box.kind,.int .u64 (Yj b).box.key,.bs (Yj b).box.body],.int .i64 (Yj b).n,.int .i64 (Yj b).err],[]))
 | _,_=>none
def sp22:Abs.Spec:=fun xs bl=>match xs,bl with
 | [.agg [.str rl,.sl 9 els],.sl 4 xls],[]=>chk (els.all Yh&&decide (els.length≤1000000)&&xls.all Xu&&decide (xls.length≤1000000)&&decide (rl.length≤9223372036854775807)) (some (.sl 5 ((Kerb.grantKeys (Zq rl (els.map Zv)) (xls.map Zu)).map Kerb.SKey.av),[]))
 | _,_=>none
def sp24:Abs.Spec:=fun xs bl=>match xs,bl with
 | [.agg [.u8 cu,.u8 co,.u8 cv,.u8 cr,.bool lt,.bool tn,.bool mt,.u8 cad,.u8 cfr,.u8 cis,.u8 ctm,.u8 ctk,.u8 clf,.int .u32 ccs,.u8 cky,.u8 ckv,.u8 css,.int .u16 ctt,.int .u16 cau]],[]=>some (.agg [.str ((Zn cu co cv cr lt tn mt cad cfr cis ctm ctk clf ccs cky ckv css ctt cau).me).name,.str ((Zn cu co cv cr lt tn mt cad cfr cis ctm ctk clf ccs cky ckv css ctt cau).me).inst,.str ((Zn cu co cv cr lt tn mt cad cfr cis ctm ctk clf ccs cky ckv css ctt cau).me).realm],[])
 | _,_=>none
def sp36:Abs.Spec:=fun xs bl=>match xs,bl with
 | [.ptr 0 0],[(0,[.bs B,.int .i64 at_,.bool li,.bool bad])]=>chk (decide (B.length≤140737488355328)) (some (.int .i64 (Zg B at_ 4 li).val,[[.bs B,.int .i64 (cond (bad || !((Zg B at_ 4 li).err==0)) at_ (Zg B at_ 4 li).next),.bool li,.bool (bad || !((Zg B at_ 4 li).err==0))]]))
 | _,_=>none
def sp37:Abs.Spec:=fun xs bl=>match xs,bl with
 | [.ptr 0 0],[(0,[.bs B,.int .i64 at_,.bool li,.bool bad])]=>chk (decide (B.length≤140737488355328)) (some (.int .i64 (Zg B at_ 1 false).val,[[.bs B,.int .i64 (cond (bad || !((Zg B at_ 1 false).err==0)) at_ (Zg B at_ 1 false).next),.bool li,.bool (bad || !((Zg B at_ 1 false).err==0))]]))
 | _,_=>none
def sp38:Abs.Spec:=fun xs bl=>match xs,bl with
 | [.ptr 0 0],[(0,[.bs B,.int .i64 at_,.bool li,.bool bad])]=>chk (decide (B.length≤140737488355328)) (some (.int .i64 (Zg B at_ 2 li).val,[[.bs B,.int .i64 (cond (bad || !((Zg B at_ 2 li).err==0)) at_ (Zg B at_ 2 li).next),.bool li,.bool (bad || !((Zg B at_ 2 li).err==0))]]))
 | _,_=>none
def sp40:Abs.Spec:=fun xs bl=>match xs,bl with
 | [.agg [.bool li,.str x,.str y,.str z,.int .i64 t,.int .i64 ex,.int .i64 kv,.bs sd]],[]=>chk (decide (x.length≤9223372036854775807)&&decide (y.length≤9223372036854775807)&&decide (z.length≤9223372036854775807)) (some (.tup [.bs (Kerb.encodeReply ⟨li,⟨x,y,z⟩,t,ex,kv,sd⟩).val,.int .i64 (Kerb.encodeReply ⟨li,⟨x,y,z⟩,t,ex,kv,sd⟩).err],[]))
 | _,_=>none
def sp42:Abs.Spec:=fun xs bl=>match xs,bl with
 | [.agg [.int .u64 k,.str x,.str y,.str z,.int .i64 lf,.int .i64 kv,.bs tk,.int .i64 t],.bool little],[]=>chk (decide (x.length≤9223372036854775807)&&decide (y.length≤9223372036854775807)&&decide (z.length≤9223372036854775807)&&decide (0≤k)&&decide (k<18446744073709551616)) (some (.tup [.bs (Kerb.encodePart ⟨k,⟨x,y,z⟩,lf,kv,tk,t⟩ little).val,.int .i64 (Kerb.encodePart ⟨k,⟨x,y,z⟩,lf,kv,tk,t⟩ little).err],[]))
 | _,_=>none
def sp47:Abs.Spec:=fun xs bl=>match xs,bl with
 | [.agg [.bool li,.bool mu,.int .i64 kv,.str rl,.bs tk,.bs au,.int .i64 tm,.int .i64 lf,.str sv,.str ins]],[]=>chk (decide (rl.length≤9223372036854775807)&&decide (sv.length≤9223372036854775807)&&decide (ins.length≤9223372036854775807)) (some (.tup [.bs (Kerb.encodeTgs (Zj (Zz li mu kv rl tk au) tm lf sv ins)).val,.int .i64 (Kerb.encodeTgs (Zj (Zz li mu kv rl tk au) tm lf sv ins)).err],[]))
 | _,_=>none
def sp53:Abs.Spec:=fun xs bl=>match xs,bl with
 | [.bs b],[]=>chk (decide (b.length≤140737488355328)) (some (.tup [.agg [.bool ((Xv b).val).little,.bool ((Xv b).val).mutual_,.int .i64 ((Xv b).val).kvno,.str ((Xv b).val).realm,.bs ((Xv b).val).ticket,.bs ((Xv b).val).auth],.int .i64 (Xv b).next],[]))
 | _,_=>none
def sp62:Abs.Spec:=fun xs bl=>match xs,bl with
 | [.agg [.bool ali,.str b1,.str b2,.str b3,.int .i64 aad,.int .u64 ak,.int .i64 alf,.int .i64 ais,.str asv,.str ain],.agg [.str x,.str y,.str z,.int .i64 ck,.int .i64 tc,.int .i64 tm],.int .i64 src,.int .i64 now,.int .i64 skw],[]=>some (.int .i64 (Kerb.judge (Yx ali ⟨b1,b2,b3⟩ aad ak alf ais asv ain) (Yk ⟨x,y,z⟩ ck tc tm) src now skw),[])
 | _,_=>none
def sp69:Abs.Spec:=fun xs bl=>match xs,bl with
 | [.agg [.str rl,.sl 9 els,.sl 4 xls,.int .i64 now,.bool li,.int .u64 se],.int .i64 wn,.int .i64 mo,.int .i64 xp,.agg [.str cx,.str cy,.str cz,.int .u64 ck2,.int .i64 cad,.int .i64 ccs,.int .i64 ctm,.int .i64 ctc,.int .i64 cis,.int .i64 clf,.bs ctk,.bs cau]],[]=>chk (Kerb.isI64 xp) (some (.tup [.int .i64 (Kerb.tgsLife now wn mo xp cis clf).1,.bool (Kerb.tgsLife now wn mo xp cis clf).2],[]))
 | _,_=>none
def sp92:Abs.Spec:=fun xs bl=>match xs,bl with
 | [.agg [.bool li,.str x,.str y,.str z,.int .i64 ad,.int .u64 k,.int .i64 lf,.int .i64 iss,.str sv,.str ins]],[]=>chk (decide (x.length≤9223372036854775807)&&decide (y.length≤9223372036854775807)&&decide (z.length≤9223372036854775807)&&decide (sv.length≤9223372036854775807)&&decide (ins.length≤9223372036854775807)&&decide (0≤k)&&decide (k<18446744073709551616)) (some (.int .i64 (Yx li ⟨x,y,z⟩ ad k lf iss sv ins).err,[]))
 | _,_=>none
def sp111:Abs.Spec:=fun xs bl=>match xs,bl with
 | [.bs b,.int .i64 n,.bool little],[]=>chk (decide (b.length≤70368744177664)) (some (.ownB (b++Xz n 4 little),[]))
 | _,_=>none
def sp112:Abs.Spec:=fun xs bl=>match xs,bl with
 | [.bs b,.int .i64 n],[]=>chk (decide (b.length≤70368744177664)) (some (.ownB (b++Xz n 1 false),[]))
 | _,_=>none
def sp136:Abs.Spec:=fun xs bl=>match xs,bl with
 | [.int .i64 kd,.int .u64 k,.bs bd],[]=>chk (decide (0≤k)&&decide (k<18446744073709551616)) (some (.tup [.bs (Kerb.makeBox kd k bd).val,.int .i64 (Kerb.makeBox kd k bd).err],[]))
 | _,_=>none
def sp153:Abs.Spec:=fun xs bl=>match xs,bl with
 | [.str s,.str bad],[]=>chk (decide (s.length≤9223372036854775807)) (some (.bool (Kerb.printable s bad),[]))
 | _,_=>none
def sp163:Abs.Spec:=fun xs bl=>match xs,bl with
 | [.bs b,.agg [.str x,.str y,.str z]],[]=>chk (decide (b.length+x.length+y.length+z.length≤70368744170000)) (some (.bs (Kerb.putPrin b ⟨x,y,z⟩),[]))
 | _,_=>none
def sp166:Abs.Spec:=fun xs bl=>match xs,bl with
 | [.bs b],[]=>chk (decide (b.length≤4611686018427387904)) (some (.tup [.int .u64 (Kerb.keyRead b).1,.bool (Kerb.keyRead b).2],[]))
 | _,_=>none
def sp168:Abs.Spec:=fun xs bl=>match xs,bl with
 | [.agg [.str rl,.sl 9 els],.str n,.str i,.int .i64 now,.int .i64 bit,.int .i64 xp,.int .i64 br],[]=>chk (els.all Yh&&decide (els.length≤1000000)) (some (.tup [.int .i64 (Kerb.useEnt (Zq rl (els.map Zv)) n i now bit xp br).1,.int .i64 (Kerb.useEnt (Zq rl (els.map Zv)) n i now bit xp br).2],[]))
 | _,_=>none
def sp174:Abs.Spec:=fun xs bl=>match xs,bl with
 | [.bs b,.int .i64 n,.bool little],[]=>chk (decide (b.length≤70368744177664)) (some (.ownB (b++Xz n 2 little),[]))
 | _,_=>none
def sp175:Abs.Spec:=fun xs bl=>match xs,bl with
 | [.agg [.str x,.str y,.str z,.int .i64 ck,.int .i64 tc,.int .i64 tm]],[]=>chk (decide (x.length≤9223372036854775807)&&decide (y.length≤9223372036854775807)&&decide (z.length≤9223372036854775807)) (some (.int .i64 (Yk ⟨x,y,z⟩ ck tc tm).check,[]))
 | _,_=>none
def sp7:Abs.Spec:=fun xs bl=>match xs,bl with
 | [.agg [.u8 cu,.u8 co,.u8 cv,.u8 cr,.bool lt,.bool tn,.bool mt,.u8 cad,.u8 cfr,.u8 cis,.u8 ctm,.u8 ctk,.u8 clf,.int .u32 ccs,.u8 cky,.u8 ckv,.u8 css,.int .u16 ctt,.int .u16 cau],.u8 sz,.u8 sk],[]=>some (.agg [.str (((Zn cu co cv cr lt tn mt cad cfr cis ctm ctk clf ccs cky ckv css ctt cau).server sz sk)).me.name,.str (((Zn cu co cv cr lt tn mt cad cfr cis ctm ctk clf ccs cky ckv css ctt cau).server sz sk)).me.inst,.str (((Zn cu co cv cr lt tn mt cad cfr cis ctm ctk clf ccs cky ckv css ctt cau).server sz sk)).me.realm,.sl 5 ((((Zn cu co cv cr lt tn mt cad cfr cis ctm ctk clf ccs cky ckv css ctt cau).server sz sk)).keys.map Kerb.SKey.av),.int .i64 ((((Zn cu co cv cr lt tn mt cad cfr cis ctm ctk clf ccs cky ckv css ctt cau).server sz sk)).replay).size,.int .i64 ((((Zn cu co cv cr lt tn mt cad cfr cis ctm ctk clf ccs cky ckv css ctt cau).server sz sk)).replay).floor,.sl 5 (((((Zn cu co cv cr lt tn mt cad cfr cis ctm ctk clf ccs cky ckv css ctt cau).server sz sk)).replay).marks.map Kerb.Mark.av),.int .i64 (((Zn cu co cv cr lt tn mt cad cfr cis ctm ctk clf ccs cky ckv css ctt cau).server sz sk)).skew],[])
 | _,_=>none
def sp12:Abs.Spec:=fun xs bl=>match xs,bl with
 | [.bs b],[]=>chk (decide (b.length≤140737488355328)) (some (.tup [.agg [.bool ((Yv b).val).little,.str ((Yv b).val).client.name,.str ((Yv b).val).client.inst,.str ((Yv b).val).client.realm,.int .i64 ((Yv b).val).time,.int .i64 ((Yv b).val).expires,.int .i64 ((Yv b).val).kvno,.bs ((Yv b).val).sealed],.int .i64 (Yv b).err],[]))
 | _,_=>none
def sp13:Abs.Spec:=fun xs bl=>match xs,bl with
 | [.bs b,.int .i64 kd,.int .u64 k],[]=>chk (decide (b.length≤140737488355328)) (some (.tup [.bs (Kerb.openBox b kd k).1,.bool (Kerb.openBox b kd k).2],[]))
 | _,_=>none
def sp14:Abs.Spec:=fun xs bl=>match xs,bl with
 | [.bs b,.bool little],[]=>chk (decide (b.length≤140737488355328)) (some (.tup [.agg [.int .u64 ((Yu b little).val).session,.str ((Yu b little).val).service.name,.str ((Yu b little).val).service.inst,.str ((Yu b little).val).service.realm,.int .i64 ((Yu b little).val).life,.int .i64 ((Yu b little).val).kvno,.bs ((Yu b little).val).ticket,.int .i64 ((Yu b little).val).time],.int .i64 (Yu b little).err],[]))
 | _,_=>none
def sp45:Abs.Spec:=fun xs bl=>match xs,bl with
 | [.agg [.bool li,.str x,.str y,.str z,.int .i64 ad,.int .u64 k,.int .i64 lf,.int .i64 iss,.str sv,.str ins]],[]=>chk (decide (x.length≤9223372036854775807)&&decide (y.length≤9223372036854775807)&&decide (z.length≤9223372036854775807)&&decide (sv.length≤9223372036854775807)&&decide (ins.length≤9223372036854775807)&&decide (0≤k)&&decide (k<18446744073709551616)) (some (.tup [.bs (Xq (Yx li ⟨x,y,z⟩ ad k lf iss sv ins)).val,.int .i64 (Xq (Yx li ⟨x,y,z⟩ ad k lf iss sv ins)).err],[]))
 | _,_=>none
def sp108:Abs.Spec:=fun xs bl=>match xs,bl with
 | [.str s],[]=>chk (decide (s.length≤9223372036854775807)) (some (.bool (Kerb.validName s),[]))
 | _,_=>none
def sp109:Abs.Spec:=fun xs bl=>match xs,bl with
 | [.str s],[]=>chk (decide (s.length≤9223372036854775807)) (some (.bool (Kerb.validInst s),[]))
 | _,_=>none
def sp131:Abs.Spec:=fun xs bl=>match xs,bl with
 | [.agg [.str rl,.sl 9 els],.str n,.str i,.int .i64 now],[]=>chk (els.all Yh&&decide (els.length≤1000000)) (some (.tup [.int .i64 (Kerb.serviceEnt (Zq rl (els.map Zv)) n i now).1,.int .i64 (Kerb.serviceEnt (Zq rl (els.map Zv)) n i now).2],[]))
 | _,_=>none
def sp145:Abs.Spec:=fun xs bl=>match xs,bl with
 | [.agg [.str x,.str y,.str z,.int .i64 ck,.int .i64 tc,.int .i64 tm],.bool li],[]=>chk (decide (x.length≤9223372036854775807)&&decide (y.length≤9223372036854775807)&&decide (z.length≤9223372036854775807)) (some (.tup [.bs (Kerb.encodeAuth (Yk ⟨x,y,z⟩ ck tc tm) li).val,.int .i64 (Kerb.encodeAuth (Yk ⟨x,y,z⟩ ck tc tm) li).err],[]))
 | _,_=>none
def sp164:Abs.Spec:=fun xs bl=>match xs,bl with
 | [.bs b],[]=>chk (decide (b.length≤140737488355328)) (some (.tup [.agg [.int .i64 (Yj b).box.kind,.int .u64 (Yj b).box.key,.bs (Yj b).box.body],.int .i64 (Yj b).n,.int .i64 (Yj b).err],[]))
 | _,_=>none
def sp17:Abs.Spec:=fun xs bl=>match xs,bl with
 | [.bs b],[]=>chk (decide (b.length≤140737488355328)) (some (.tup [.agg [.bool ((Zk b).val).little,.str ((Zk b).val).client.name,.str ((Zk b).val).client.inst,.str ((Zk b).val).client.realm,.int .i64 ((Zk b).val).address,.int .u64 ((Zk b).val).session,.int .i64 ((Zk b).val).life,.int .i64 ((Zk b).val).issued,.str ((Zk b).val).service,.str ((Zk b).val).inst],.int .i64 (Zk b).err],[]))
 | _,_=>none
def sp94:Abs.Spec:=fun xs bl=>match xs,bl with
 | [.agg [.bool li,.str x,.str y,.str z,.int .i64 ad,.int .u64 k,.int .i64 lf,.int .i64 iss,.str sv,.str ins],.int .u64 key],[]=>chk (decide (x.length≤9223372036854775807)&&decide (y.length≤9223372036854775807)&&decide (z.length≤9223372036854775807)&&decide (sv.length≤9223372036854775807)&&decide (ins.length≤9223372036854775807)&&decide (0≤k)&&decide (k<18446744073709551616)&&decide (0≤key)&&decide (key<18446744073709551616)) (some (.tup [.bs (Kerb.sealTicket (Yx li ⟨x,y,z⟩ ad k lf iss sv ins) key).val,.int .i64 (Kerb.sealTicket (Yx li ⟨x,y,z⟩ ad k lf iss sv ins) key).err],[]))
 | _,_=>none
def sp95:Abs.Spec:=fun xs bl=>match xs,bl with
 | [.agg [.str x,.str y,.str z,.int .i64 ck,.int .i64 tc,.int .i64 tm],.bool li,.int .u64 k],[]=>chk (decide (x.length≤9223372036854775807)&&decide (y.length≤9223372036854775807)&&decide (z.length≤9223372036854775807)&&decide (0≤k)&&decide (k<18446744073709551616)) (some (.tup [.bs (Kerb.sealAuth (Yk ⟨x,y,z⟩ ck tc tm) li k).val,.int .i64 (Kerb.sealAuth (Yk ⟨x,y,z⟩ ck tc tm) li k).err],[]))
 | _,_=>none
def sp127:Abs.Spec:=fun xs bl=>match xs,bl with
 | [.bs b,.int .i64 kd,.int .u64 k],[]=>chk (decide (b.length≤140737488355328)) (some (.tup [.bs (Kerb.openBox b kd k).1,.bool (Kerb.openBox b kd k).2],[]))
 | _,_=>none
def sp129:Abs.Spec:=fun xs bl=>match xs,bl with
 | [.str s],[]=>chk (decide (s.length≤9223372036854775807)) (some (.bool (Kerb.validRealm s),[]))
 | _,_=>none
def sp46:Abs.Spec:=fun xs bl=>match xs,bl with
 | [.agg [.u8 cu,.u8 co,.u8 cv,.u8 cr,.bool lt,.bool tn,.bool mt,.u8 cad,.u8 cfr,.u8 cis,.u8 ctm,.u8 ctk,.u8 clf,.int .u32 ccs,.u8 cky,.u8 ckv,.u8 css,.int .u16 ctt,.int .u16 cau],.agg [.str x,.str y,.str z],.int .u64 k,.int .i64 v],[]=>chk (decide (x.length≤9223372036854775807)&&decide (y.length≤9223372036854775807)&&decide (z.length≤9223372036854775807)&&Yn k&&decide (0≤v)&&decide (v≤1000)&&decide (0≤ccs)&&decide (ccs≤4294967295)&&decide (0≤ctt)&&decide (ctt≤65535)&&decide (0≤cau)&&decide (cau≤65535)) (some (.agg [.bool (((Zn cu co cv cr lt tn mt cad cfr cis ctm ctk clf ccs cky ckv css ctt cau).req ⟨x,y,z⟩ k v)).little,.bool (((Zn cu co cv cr lt tn mt cad cfr cis ctm ctk clf ccs cky ckv css ctt cau).req ⟨x,y,z⟩ k v)).mutual_,.int .i64 (((Zn cu co cv cr lt tn mt cad cfr cis ctm ctk clf ccs cky ckv css ctt cau).req ⟨x,y,z⟩ k v)).kvno,.str (((Zn cu co cv cr lt tn mt cad cfr cis ctm ctk clf ccs cky ckv css ctt cau).req ⟨x,y,z⟩ k v)).realm,.bs (((Zn cu co cv cr lt tn mt cad cfr cis ctm ctk clf ccs cky ckv css ctt cau).req ⟨x,y,z⟩ k v)).ticket,.bs (((Zn cu co cv cr lt tn mt cad cfr cis ctm ctk clf ccs cky ckv css ctt cau).req ⟨x,y,z⟩ k v)).auth],[]))
 | _,_=>none
def sp68:Abs.Spec:=fun xs bl=>match xs,bl with
 | [.agg [.str rl,.sl 9 els],.sl 4 xls,.str n,.str i,.int .i64 now],[]=>chk (els.all Yh&&decide (els.length≤1000000)&&xls.all Xu&&decide (xls.length≤1000000)&&decide (i.length≤9223372036854775807)) (some (.tup [.int .u64 (Kerb.svc (Zq rl (els.map Zv)) (xls.map Zu) n i now).key,.int .i64 (Kerb.svc (Zq rl (els.map Zv)) (xls.map Zu) n i now).kvno,.int .i64 (Kerb.svc (Zq rl (els.map Zv)) (xls.map Zu) n i now).life,.int .i64 (Kerb.svc (Zq rl (els.map Zv)) (xls.map Zu) n i now).expires,.int .i64 (Kerb.svc (Zq rl (els.map Zv)) (xls.map Zu) n i now).err],[]))
 | _,_=>none
def sp107:Abs.Spec:=fun xs bl=>match xs,bl with
 | [.agg [.bool li,.bool mu,.int .i64 kv,.str rl,.bs tk,.bs au]],[]=>chk (decide (rl.length≤9223372036854775807)) (some (.tup [.bs (Kerb.encodeAp (Zz li mu kv rl tk au)).val,.int .i64 (Kerb.encodeAp (Zz li mu kv rl tk au)).err],[]))
 | _,_=>none
def sp114:Abs.Spec:=fun xs bl=>match xs,bl with
 | [.agg [.str a,.str b,.str c]],[]=>chk (decide (a.length≤9223372036854775807)&&decide (b.length≤9223372036854775807)&&decide (c.length≤9223372036854775807)) (some (.bool (Kerb.Prin.valid ⟨a,b,c⟩),[]))
 | _,_=>none
def sp18:Abs.Spec:=fun xs bl=>match xs,bl with
 | [.agg [.u8 cu,.u8 co,.u8 cv,.u8 cr,.bool lt,.bool tn,.bool mt,.u8 cad,.u8 cfr,.u8 cis,.u8 ctm,.u8 ctk,.u8 clf,.int .u32 ccs,.u8 cky,.u8 ckv,.u8 css,.int .u16 ctt,.int .u16 cau],.agg [.str x,.str y,.str z],.int .u64 k,.int .i64 v,.int .i64 wtm,.int .i64 wlf,.agg [.str s1,.str s2,.str s3]],[]=>chk (decide (x.length≤9223372036854775807)&&decide (y.length≤9223372036854775807)&&decide (z.length≤9223372036854775807)&&Yn k&&decide (0≤v)&&decide (v≤1000)&&decide (0≤ccs)&&decide (ccs≤4294967295)&&decide (0≤ctt)&&decide (ctt≤65535)&&decide (0≤cau)&&decide (cau≤65535)&&decide (s1.length≤9223372036854775807)&&decide (s2.length≤9223372036854775807)) (some (.bs ((Zn cu co cv cr lt tn mt cad cfr cis ctm ctk clf ccs cky ckv css ctt cau).tgsMsg ⟨x,y,z⟩ k v wtm wlf ⟨s1,s2,s3⟩),[]))
 | _,_=>none
def sp57:Abs.Spec:=fun xs bl=>match xs,bl with
 | [.agg [.bool li,.bool mu,.int .i64 kv,.str rl,.bs tk,.bs au,.int .i64 tm,.int .i64 lf,.str sv,.str ins]],[]=>chk (decide (rl.length≤9223372036854775807)&&decide (sv.length≤9223372036854775807)&&decide (ins.length≤9223372036854775807)) (some (.tup [.bs (Kerb.encodeTgs (Zj (Zz li mu kv rl tk au) tm lf sv ins)).val,.int .i64 (Kerb.encodeTgs (Zj (Zz li mu kv rl tk au) tm lf sv ins)).err],[]))
 | _,_=>none
def sp115:Abs.Spec:=fun xs bl=>match xs,bl with
 | [.sl 5 kls],[]=>chk (kls.all Yp&&decide (kls.length≤1000000)) (some (.int .i64 (Kerb.skErr (kls.map Zw)),[]))
 | _,_=>none
def sp116:Abs.Spec:=fun xs bl=>match xs,bl with
 | [.agg [.int .i64 sz,.int .i64 fl,.sl 5 mls]],[]=>chk (mls.all Yf&&decide (mls.length≤1000000)) (some (.int .i64 (Xx sz fl (mls.map Zx)).err,[]))
 | _,_=>none
def sp126:Abs.Spec:=fun xs bl=>match xs,bl with
 | [.agg [.bool li,.str x,.str y,.str z,.int .i64 t,.int .i64 cd,.str tx]],[]=>chk (decide (x.length≤9223372036854775807)&&decide (y.length≤9223372036854775807)&&decide (z.length≤9223372036854775807)&&decide (tx.length≤9223372036854775807)) (some (.tup [.bs (Kerb.encodeError ⟨li,⟨x,y,z⟩,t,cd,tx⟩).val,.int .i64 (Kerb.encodeError ⟨li,⟨x,y,z⟩,t,cd,tx⟩).err],[]))
 | _,_=>none
def sp135:Abs.Spec:=fun xs bl=>match xs,bl with
 | [.agg [.int .u64 k,.str x,.str y,.str z,.int .i64 lf,.int .i64 kv,.bs tk,.int .i64 t],.bool little],[]=>chk (decide (x.length≤9223372036854775807)&&decide (y.length≤9223372036854775807)&&decide (z.length≤9223372036854775807)&&decide (0≤k)&&decide (k<18446744073709551616)) (some (.tup [.bs (Kerb.encodePart ⟨k,⟨x,y,z⟩,lf,kv,tk,t⟩ little).val,.int .i64 (Kerb.encodePart ⟨k,⟨x,y,z⟩,lf,kv,tk,t⟩ little).err],[]))
 | _,_=>none
def sp137:Abs.Spec:=fun xs bl=>match xs,bl with
 | [.agg [.bool li,.str x,.str y,.str z,.int .i64 t,.int .i64 ex,.int .i64 kv,.bs sd]],[]=>chk (decide (x.length≤9223372036854775807)&&decide (y.length≤9223372036854775807)&&decide (z.length≤9223372036854775807)) (some (.tup [.bs (Kerb.encodeReply ⟨li,⟨x,y,z⟩,t,ex,kv,sd⟩).val,.int .i64 (Kerb.encodeReply ⟨li,⟨x,y,z⟩,t,ex,kv,sd⟩).err],[]))
 | _,_=>none
def sp165:Abs.Spec:=fun xs bl=>match xs,bl with
 | [.bs b,.int .i64 pos],[]=>chk (decide (b.length≤4611686018427387904)) (some (.tup [.agg [.str (Kerb.prin b pos).val.name,.str (Kerb.prin b pos).val.inst,.str (Kerb.prin b pos).val.realm],.int .i64 (Kerb.prin b pos).next,.int .i64 (Kerb.prin b pos).err],[]))
 | _,_=>none
def sp179:Abs.Spec:=fun xs bl=>match xs,bl with
 | [.agg [.bool li,.str x,.str y,.str z,.int .i64 ad,.int .u64 k,.int .i64 lf,.int .i64 iss,.str sv,.str ins]],[]=>chk (decide (x.length≤9223372036854775807)&&decide (y.length≤9223372036854775807)&&decide (z.length≤9223372036854775807)&&decide (sv.length≤9223372036854775807)&&decide (ins.length≤9223372036854775807)&&decide (0≤k)&&decide (k<18446744073709551616)) (some (.int .i64 (Yx li ⟨x,y,z⟩ ad k lf iss sv ins).err,[]))
 | _,_=>none
def sp181:Abs.Spec:=fun xs bl=>match xs,bl with
 | [.agg [.str x,.str y,.str z,.int .i64 ck,.int .i64 tc,.int .i64 tm]],[]=>chk (decide (x.length≤9223372036854775807)&&decide (y.length≤9223372036854775807)&&decide (z.length≤9223372036854775807)) (some (.int .i64 (Yk ⟨x,y,z⟩ ck tc tm).check,[]))
 | _,_=>none
def sp10:Abs.Spec:=fun xs bl=>match xs,bl with
 | [.agg [.u8 cu,.u8 co,.u8 cv,.u8 cr,.bool lt,.bool tn,.bool mt,.u8 cad,.u8 cfr,.u8 cis,.u8 ctm,.u8 ctk,.u8 clf,.int .u32 ccs,.u8 cky,.u8 ckv,.u8 css,.int .u16 ctt,.int .u16 cau,.u8 qf,.u8 qt_,.u8 qp,.u8 ql,.u8 qn,.u8 qk,.int .u16 qh],.sl 4 xls],[]=>chk (decide (0≤ccs)&&decide (ccs≤4294967295)&&decide (0≤ctt)&&decide (ctt≤65535)&&decide (0≤cau)&&decide (cau≤65535)&&decide (0≤qh)&&decide (qh≤65535)&&xls.all Xu&&decide (xls.length≤1000000)&&(xls.map Zu).all Kerb.isKv) (some (.bs ((Kerb.TAsk.mk (Zn cu co cv cr lt tn mt cad cfr cis ctm ctk clf ccs cky ckv css ctt cau) qf qt_ qp ql qn qk qh).msg (xls.map Zu)),[]))
 | _,_=>none
def sp27:Abs.Spec:=fun xs bl=>match xs,bl with
 | [.bs b],[]=>chk (decide (b.length≤140737488355328)) (some (.tup [.agg [.bool ((Yw b).val).ap.little,.bool ((Yw b).val).ap.mutual_,.int .i64 ((Yw b).val).ap.kvno,.str ((Yw b).val).ap.realm,.bs ((Yw b).val).ap.ticket,.bs ((Yw b).val).ap.auth,.int .i64 ((Yw b).val).time,.int .i64 ((Yw b).val).life,.str ((Yw b).val).service,.str ((Yw b).val).inst],.int .i64 (Yw b).err],[]))
 | _,_=>none
def sp60:Abs.Spec:=fun xs bl=>match xs,bl with
 | [.agg [.str m1,.str m2,.str m3,.sl 5 kls,.int .i64 sz,.int .i64 fl,.sl 5 mls,.int .i64 sk]],[]=>chk (decide (m1.length≤9223372036854775807)&&decide (m2.length≤9223372036854775807)&&decide (m3.length≤9223372036854775807)&&kls.all Yp&&decide (kls.length≤1000000)&&mls.all Yf&&decide (mls.length≤1000000)) (some (.int .i64 (Zy ⟨m1,m2,m3⟩ (kls.map Zw) ⟨sz,fl,mls.map Zx⟩ sk).err,[]))
 | _,_=>none
def sp63:Abs.Spec:=fun xs bl=>match xs,bl with
 | [.agg [.int .i64 sz,.int .i64 fl,.sl 5 mls],.agg [.str a1,.str a2,.str a3,.int .i64 at_,.int .i64 atk],.int .i64 now,.int .i64 skw],[]=>chk (mls.all Yf&&decide (mls.length≤1000000)&&decide (a1.length≤9223372036854775807)&&decide (a2.length≤9223372036854775807)&&decide (a3.length≤9223372036854775807)) (some (.tup [.agg [.int .i64 ((Kerb.addMark (Xx sz fl (mls.map Zx)) (Xw ⟨a1,a2,a3⟩ at_ atk) now skw).val).size,.int .i64 ((Kerb.addMark (Xx sz fl (mls.map Zx)) (Xw ⟨a1,a2,a3⟩ at_ atk) now skw).val).floor,.sl 5 (((Kerb.addMark (Xx sz fl (mls.map Zx)) (Xw ⟨a1,a2,a3⟩ at_ atk) now skw).val).marks.map Kerb.Mark.av)],.int .i64 (Kerb.addMark (Xx sz fl (mls.map Zx)) (Xw ⟨a1,a2,a3⟩ at_ atk) now skw).err],[]))
 | _,_=>none
def sp65:Abs.Spec:=fun xs bl=>match xs,bl with
 | [.agg [.str x,.str y,.str z],.int .i64 cd,.int .i64 now,.bool li],[]=>chk (decide (x.length≤9223372036854775807)&&decide (y.length≤9223372036854775807)&&decide (z.length≤9223372036854775807)) (some (.bs (Kerb.refuse ⟨x,y,z⟩ cd now li),[]))
 | _,_=>none
def sp72:Abs.Spec:=fun xs bl=>match xs,bl with
 | [.agg [.str rl,.sl 9 els,.sl 4 xls,.int .i64 now,.bool li,.int .u64 se],.agg [.bool rli,.bool rmu,.int .i64 rkv,.str rrl,.bs rtk,.bs rau,.int .i64 wtm,.int .i64 wlf,.str wsv,.str win],.agg [.str cx,.str cy,.str cz,.int .u64 ck2,.int .i64 cad,.int .i64 ccs,.int .i64 ctm,.int .i64 ctc,.int .i64 cis,.int .i64 clf,.bs ctk,.bs cau],.agg [.int .u64 pk,.str p1,.str p2,.str p3,.int .i64 pl,.int .i64 pv,.bs pt,.int .i64 pm]],[]=>chk (decide (cx.length≤9223372036854775807)&&decide (cy.length≤9223372036854775807)&&decide (cz.length≤9223372036854775807)&&decide (p1.length≤9223372036854775807)&&decide (p2.length≤9223372036854775807)&&decide (p3.length≤9223372036854775807)&&Yn pk&&Yn ck2) (some (.tup [.bs (Kerb.sealReply ⟨li,⟨cx,cy,cz⟩,wtm,0,0,[]⟩ (Kerb.ReplyPart.mk pk ⟨p1,p2,p3⟩ pl pv pt pm) ck2).val,.int .i64 (Kerb.sealReply ⟨li,⟨cx,cy,cz⟩,wtm,0,0,[]⟩ (Kerb.ReplyPart.mk pk ⟨p1,p2,p3⟩ pl pv pt pm) ck2).err],[]))
 | _,_=>none
def sp167:Abs.Spec:=fun xs bl=>match xs,bl with
 | [.agg [.bool li,.str x,.str y,.str z,.int .i64 ad,.int .u64 k,.int .i64 lf,.int .i64 iss,.str sv,.str ins]],[]=>chk (decide (x.length≤9223372036854775807)&&decide (y.length≤9223372036854775807)&&decide (z.length≤9223372036854775807)&&decide (sv.length≤9223372036854775807)&&decide (ins.length≤9223372036854775807)&&decide (0≤k)&&decide (k<18446744073709551616)) (some (.tup [.bs (Xq (Yx li ⟨x,y,z⟩ ad k lf iss sv ins)).val,.int .i64 (Xq (Yx li ⟨x,y,z⟩ ad k lf iss sv ins)).err],[]))
 | _,_=>none
def sp177:Abs.Spec:=fun xs bl=>match xs,bl with
 | [.agg [.str x,.str y,.str z,.int .i64 ck,.int .i64 tc,.int .i64 tm],.bool li],[]=>chk (decide (x.length≤9223372036854775807)&&decide (y.length≤9223372036854775807)&&decide (z.length≤9223372036854775807)) (some (.tup [.bs (Kerb.encodeAuth (Yk ⟨x,y,z⟩ ck tc tm) li).val,.int .i64 (Kerb.encodeAuth (Yk ⟨x,y,z⟩ ck tc tm) li).err],[]))
 | _,_=>none
def sp30:Abs.Spec:=fun xs bl=>match xs,bl with
 | [.agg [.str rl,.sl 9 els,.sl 4 xls,.int .i64 now,.bool li,.int .u64 se],.agg [.str x,.str y,.str z],.int .i64 cd],[]=>chk (decide (x.length≤9223372036854775807)&&decide (y.length≤9223372036854775807)&&decide (z.length≤9223372036854775807)) (some (.tup [.bs (Kerb.refuse ⟨x,y,z⟩ cd now li),.agg [.int .i64 (Yz).kind,.str (Yz).server.name,.str (Yz).server.inst,.str (Yz).server.realm,.str (Yz).client.name,.str (Yz).client.inst,.str (Yz).client.realm,.str (Yz).service.name,.str (Yz).service.inst,.str (Yz).service.realm,.int .u64 (Yz).session,.int .u64 (Yz).sealer,.int .u64 (Yz).granter,.bs (Yz).text,.int .i64 (Yz).issued,.int .i64 (Yz).stop],.bool false],[]))
 | _,_=>none
def sp128:Abs.Spec:=fun xs bl=>match xs,bl with
 | [.bs b],[]=>chk (decide (b.length≤140737488355328)) (some (.tup [.agg [.bool ((Zk b).val).little,.str ((Zk b).val).client.name,.str ((Zk b).val).client.inst,.str ((Zk b).val).client.realm,.int .i64 ((Zk b).val).address,.int .u64 ((Zk b).val).session,.int .i64 ((Zk b).val).life,.int .i64 ((Zk b).val).issued,.str ((Zk b).val).service,.str ((Zk b).val).inst],.int .i64 (Zk b).err],[]))
 | _,_=>none
def sp134:Abs.Spec:=fun xs bl=>match xs,bl with
 | [.agg [.bool li,.str x,.str y,.str z,.int .i64 ad,.int .u64 k,.int .i64 lf,.int .i64 iss,.str sv,.str ins],.int .u64 key],[]=>chk (decide (x.length≤9223372036854775807)&&decide (y.length≤9223372036854775807)&&decide (z.length≤9223372036854775807)&&decide (sv.length≤9223372036854775807)&&decide (ins.length≤9223372036854775807)&&decide (0≤k)&&decide (k<18446744073709551616)&&decide (0≤key)&&decide (key<18446744073709551616)) (some (.tup [.bs (Kerb.sealTicket (Yx li ⟨x,y,z⟩ ad k lf iss sv ins) key).val,.int .i64 (Kerb.sealTicket (Yx li ⟨x,y,z⟩ ad k lf iss sv ins) key).err],[]))
 | _,_=>none
def sp158:Abs.Spec:=fun xs bl=>match xs,bl with
 | [.bs b,.bool li],[]=>chk (decide (b.length≤140737488355328)) (some (.tup [.agg [.str ((Yd b li).val).client.name,.str ((Yd b li).val).client.inst,.str ((Yd b li).val).client.realm,.int .i64 ((Yd b li).val).checksum,.int .i64 ((Yd b li).val).tick,.int .i64 ((Yd b li).val).time],.int .i64 (Yd b li).err],[]))
 | _,_=>none
def sp66:Abs.Spec:=fun xs bl=>match xs,bl with
 | [.bs b,.int .u64 k],[]=>chk (decide (b.length≤140737488355328)) (some (.tup [.agg [.bool ((Yy b k).val).little,.str ((Yy b k).val).client.name,.str ((Yy b k).val).client.inst,.str ((Yy b k).val).client.realm,.int .i64 ((Yy b k).val).address,.int .u64 ((Yy b k).val).session,.int .i64 ((Yy b k).val).life,.int .i64 ((Yy b k).val).issued,.str ((Yy b k).val).service,.str ((Yy b k).val).inst],.int .i64 (Yy b k).err],[]))
 | _,_=>none
def sp71:Abs.Spec:=fun xs bl=>match xs,bl with
 | [.agg [.str rl,.sl 9 els],.agg [.str x,.str y,.str z],.agg [.str u,.str v,.str w],.int .i64 ad,.bool li,.int .i64 now,.int .i64 lf,.int .u64 se,.int .u64 sl,.int .u64 tg,.int .i64 kv],[]=>chk (decide (x.length≤9223372036854775807)&&decide (y.length≤9223372036854775807)&&decide (z.length≤9223372036854775807)&&decide (u.length≤9223372036854775807)&&decide (v.length≤9223372036854775807)&&decide (w.length≤9223372036854775807)&&Yn se&&Yn tg) (some (.tup [.agg [.int .i64 ((Zf rl ⟨x,y,z⟩ ⟨u,v,w⟩ ad li now lf se sl tg kv).issue).kind,.str ((Zf rl ⟨x,y,z⟩ ⟨u,v,w⟩ ad li now lf se sl tg kv).issue).server.name,.str ((Zf rl ⟨x,y,z⟩ ⟨u,v,w⟩ ad li now lf se sl tg kv).issue).server.inst,.str ((Zf rl ⟨x,y,z⟩ ⟨u,v,w⟩ ad li now lf se sl tg kv).issue).server.realm,.str ((Zf rl ⟨x,y,z⟩ ⟨u,v,w⟩ ad li now lf se sl tg kv).issue).client.name,.str ((Zf rl ⟨x,y,z⟩ ⟨u,v,w⟩ ad li now lf se sl tg kv).issue).client.inst,.str ((Zf rl ⟨x,y,z⟩ ⟨u,v,w⟩ ad li now lf se sl tg kv).issue).client.realm,.str ((Zf rl ⟨x,y,z⟩ ⟨u,v,w⟩ ad li now lf se sl tg kv).issue).service.name,.str ((Zf rl ⟨x,y,z⟩ ⟨u,v,w⟩ ad li now lf se sl tg kv).issue).service.inst,.str ((Zf rl ⟨x,y,z⟩ ⟨u,v,w⟩ ad li now lf se sl tg kv).issue).service.realm,.int .u64 ((Zf rl ⟨x,y,z⟩ ⟨u,v,w⟩ ad li now lf se sl tg kv).issue).session,.int .u64 ((Zf rl ⟨x,y,z⟩ ⟨u,v,w⟩ ad li now lf se sl tg kv).issue).sealer,.int .u64 ((Zf rl ⟨x,y,z⟩ ⟨u,v,w⟩ ad li now lf se sl tg kv).issue).granter,.bs ((Zf rl ⟨x,y,z⟩ ⟨u,v,w⟩ ad li now lf se sl tg kv).issue).text,.int .i64 ((Zf rl ⟨x,y,z⟩ ⟨u,v,w⟩ ad li now lf se sl tg kv).issue).issued,.int .i64 ((Zf rl ⟨x,y,z⟩ ⟨u,v,w⟩ ad li now lf se sl tg kv).issue).stop],.agg [.int .u64 (Zf rl ⟨x,y,z⟩ ⟨u,v,w⟩ ad li now lf se sl tg kv).part.session,.str (Zf rl ⟨x,y,z⟩ ⟨u,v,w⟩ ad li now lf se sl tg kv).part.service.name,.str (Zf rl ⟨x,y,z⟩ ⟨u,v,w⟩ ad li now lf se sl tg kv).part.service.inst,.str (Zf rl ⟨x,y,z⟩ ⟨u,v,w⟩ ad li now lf se sl tg kv).part.service.realm,.int .i64 (Zf rl ⟨x,y,z⟩ ⟨u,v,w⟩ ad li now lf se sl tg kv).part.life,.int .i64 (Zf rl ⟨x,y,z⟩ ⟨u,v,w⟩ ad li now lf se sl tg kv).part.kvno,.bs (Zf rl ⟨x,y,z⟩ ⟨u,v,w⟩ ad li now lf se sl tg kv).part.ticket,.int .i64 (Zf rl ⟨x,y,z⟩ ⟨u,v,w⟩ ad li now lf se sl tg kv).part.time],.int .i64 (Zf rl ⟨x,y,z⟩ ⟨u,v,w⟩ ad li now lf se sl tg kv).err],[]))
 | _,_=>none
def sp120:Abs.Spec:=fun xs bl=>match xs,bl with
 | [.bs b,.bool li,.int .u64 k],[]=>chk (decide (b.length≤140737488355328)) (some (.tup [.agg [.str ((Yb b li k).val).client.name,.str ((Yb b li k).val).client.inst,.str ((Yb b li k).val).client.realm,.int .i64 ((Yb b li k).val).checksum,.int .i64 ((Yb b li k).val).tick,.int .i64 ((Yb b li k).val).time],.int .i64 (Yb b li k).err],[]))
 | _,_=>none
def sp31:Abs.Spec:=fun xs bl=>match xs,bl with
 | [.agg [.str m1,.str m2,.str m3,.sl 5 kls,.int .i64 sz,.int .i64 fl,.sl 5 mls,.int .i64 sk],.agg [.bool rli,.bool rmu,.int .i64 rkv,.str rrl,.bs rtk,.bs rau]],[]=>chk (decide (m1.length≤9223372036854775807)&&decide (m2.length≤9223372036854775807)&&decide (m3.length≤9223372036854775807)&&kls.all Yp&&decide (kls.length≤1000000)&&mls.all Yf&&decide (mls.length≤1000000)&&decide (rtk.length≤1000000)&&decide (rau.length≤1000000)) (some (.agg [.str (Kerb.holder (Zy ⟨m1,m2,m3⟩ (kls.map Zw) ⟨sz,fl,mls.map Zx⟩ sk) (Zz rli rmu rkv rrl rtk rau)).name,.str (Kerb.holder (Zy ⟨m1,m2,m3⟩ (kls.map Zw) ⟨sz,fl,mls.map Zx⟩ sk) (Zz rli rmu rkv rrl rtk rau)).inst,.str (Kerb.holder (Zy ⟨m1,m2,m3⟩ (kls.map Zw) ⟨sz,fl,mls.map Zx⟩ sk) (Zz rli rmu rkv rrl rtk rau)).realm],[]))
 | _,_=>none
def sp32:Abs.Spec:=fun xs bl=>match xs,bl with
 | [.agg [.str rl,.sl 9 els,.sl 4 xls,.int .i64 now,.bool li,.int .u64 se],.agg [.bool rli,.bool rmu,.int .i64 rkv,.str rrl,.bs rtk,.bs rau,.int .i64 wtm,.int .i64 wlf,.str wsv,.str win],.agg [.str cx,.str cy,.str cz,.int .u64 ck2,.int .i64 cad,.int .i64 ccs,.int .i64 ctm,.int .i64 ctc,.int .i64 cis,.int .i64 clf,.bs ctk,.bs cau]],[]=>chk (els.all Yh&&decide (els.length≤1000000)&&xls.all Xu&&decide (xls.length≤1000000)&&decide (rl.length≤9223372036854775807)&&decide (wsv.length≤9223372036854775807)&&decide (win.length≤9223372036854775807)&&decide (cx.length≤9223372036854775807)&&decide (cy.length≤9223372036854775807)&&decide (cz.length≤9223372036854775807)&&Yn se&&Yn ck2) (some (.tup [.bs (Zb (Zq rl (els.map Zv)) (xls.map Zu) now li se (Zj (Zz rli rmu rkv rrl rtk rau) wtm wlf wsv win) (Zd ⟨cx,cy,cz⟩ ck2 cad ccs ctm ctc cis clf ctk cau)).answer,.agg [.int .i64 ((Zb (Zq rl (els.map Zv)) (xls.map Zu) now li se (Zj (Zz rli rmu rkv rrl rtk rau) wtm wlf wsv win) (Zd ⟨cx,cy,cz⟩ ck2 cad ccs ctm ctc cis clf ctk cau)).issue).kind,.str ((Zb (Zq rl (els.map Zv)) (xls.map Zu) now li se (Zj (Zz rli rmu rkv rrl rtk rau) wtm wlf wsv win) (Zd ⟨cx,cy,cz⟩ ck2 cad ccs ctm ctc cis clf ctk cau)).issue).server.name,.str ((Zb (Zq rl (els.map Zv)) (xls.map Zu) now li se (Zj (Zz rli rmu rkv rrl rtk rau) wtm wlf wsv win) (Zd ⟨cx,cy,cz⟩ ck2 cad ccs ctm ctc cis clf ctk cau)).issue).server.inst,.str ((Zb (Zq rl (els.map Zv)) (xls.map Zu) now li se (Zj (Zz rli rmu rkv rrl rtk rau) wtm wlf wsv win) (Zd ⟨cx,cy,cz⟩ ck2 cad ccs ctm ctc cis clf ctk cau)).issue).server.realm,.str ((Zb (Zq rl (els.map Zv)) (xls.map Zu) now li se (Zj (Zz rli rmu rkv rrl rtk rau) wtm wlf wsv win) (Zd ⟨cx,cy,cz⟩ ck2 cad ccs ctm ctc cis clf ctk cau)).issue).client.name,.str ((Zb (Zq rl (els.map Zv)) (xls.map Zu) now li se (Zj (Zz rli rmu rkv rrl rtk rau) wtm wlf wsv win) (Zd ⟨cx,cy,cz⟩ ck2 cad ccs ctm ctc cis clf ctk cau)).issue).client.inst,.str ((Zb (Zq rl (els.map Zv)) (xls.map Zu) now li se (Zj (Zz rli rmu rkv rrl rtk rau) wtm wlf wsv win) (Zd ⟨cx,cy,cz⟩ ck2 cad ccs ctm ctc cis clf ctk cau)).issue).client.realm,.str ((Zb (Zq rl (els.map Zv)) (xls.map Zu) now li se (Zj (Zz rli rmu rkv rrl rtk rau) wtm wlf wsv win) (Zd ⟨cx,cy,cz⟩ ck2 cad ccs ctm ctc cis clf ctk cau)).issue).service.name,.str ((Zb (Zq rl (els.map Zv)) (xls.map Zu) now li se (Zj (Zz rli rmu rkv rrl rtk rau) wtm wlf wsv win) (Zd ⟨cx,cy,cz⟩ ck2 cad ccs ctm ctc cis clf ctk cau)).issue).service.inst,.str ((Zb (Zq rl (els.map Zv)) (xls.map Zu) now li se (Zj (Zz rli rmu rkv rrl rtk rau) wtm wlf wsv win) (Zd ⟨cx,cy,cz⟩ ck2 cad ccs ctm ctc cis clf ctk cau)).issue).service.realm,.int .u64 ((Zb (Zq rl (els.map Zv)) (xls.map Zu) now li se (Zj (Zz rli rmu rkv rrl rtk rau) wtm wlf wsv win) (Zd ⟨cx,cy,cz⟩ ck2 cad ccs ctm ctc cis clf ctk cau)).issue).session,.int .u64 ((Zb (Zq rl (els.map Zv)) (xls.map Zu) now li se (Zj (Zz rli rmu rkv rrl rtk rau) wtm wlf wsv win) (Zd ⟨cx,cy,cz⟩ ck2 cad ccs ctm ctc cis clf ctk cau)).issue).sealer,.int .u64 ((Zb (Zq rl (els.map Zv)) (xls.map Zu) now li se (Zj (Zz rli rmu rkv rrl rtk rau) wtm wlf wsv win) (Zd ⟨cx,cy,cz⟩ ck2 cad ccs ctm ctc cis clf ctk cau)).issue).granter,.bs ((Zb (Zq rl (els.map Zv)) (xls.map Zu) now li se (Zj (Zz rli rmu rkv rrl rtk rau) wtm wlf wsv win) (Zd ⟨cx,cy,cz⟩ ck2 cad ccs ctm ctc cis clf ctk cau)).issue).text,.int .i64 ((Zb (Zq rl (els.map Zv)) (xls.map Zu) now li se (Zj (Zz rli rmu rkv rrl rtk rau) wtm wlf wsv win) (Zd ⟨cx,cy,cz⟩ ck2 cad ccs ctm ctc cis clf ctk cau)).issue).issued,.int .i64 ((Zb (Zq rl (els.map Zv)) (xls.map Zu) now li se (Zj (Zz rli rmu rkv rrl rtk rau) wtm wlf wsv win) (Zd ⟨cx,cy,cz⟩ ck2 cad ccs ctm ctc cis clf ctk cau)).issue).stop],.bool (Zb (Zq rl (els.map Zv)) (xls.map Zu) now li se (Zj (Zz rli rmu rkv rrl rtk rau) wtm wlf wsv win) (Zd ⟨cx,cy,cz⟩ ck2 cad ccs ctm ctc cis clf ctk cau)).ok],[]))
 | _,_=>none
def sp61:Abs.Spec:=fun xs bl=>match xs,bl with
 | [.agg [.str m1,.str m2,.str m3,.sl 5 kls,.int .i64 sz,.int .i64 fl,.sl 5 mls,.int .i64 sk],.agg [.bool rli,.bool rmu,.int .i64 rkv,.str rrl,.bs rtk,.bs rau]],[]=>chk (decide (m1.length≤9223372036854775807)&&decide (m2.length≤9223372036854775807)&&decide (m3.length≤9223372036854775807)&&kls.all Yp&&decide (kls.length≤1000000)&&mls.all Yf&&decide (mls.length≤1000000)&&decide (rtk.length≤1000000)&&decide (rau.length≤1000000)) (some (.tup [.agg [.bool ((Zh (Zy ⟨m1,m2,m3⟩ (kls.map Zw) ⟨sz,fl,mls.map Zx⟩ sk) (Zz rli rmu rkv rrl rtk rau)).ticket).little,.str ((Zh (Zy ⟨m1,m2,m3⟩ (kls.map Zw) ⟨sz,fl,mls.map Zx⟩ sk) (Zz rli rmu rkv rrl rtk rau)).ticket).client.name,.str ((Zh (Zy ⟨m1,m2,m3⟩ (kls.map Zw) ⟨sz,fl,mls.map Zx⟩ sk) (Zz rli rmu rkv rrl rtk rau)).ticket).client.inst,.str ((Zh (Zy ⟨m1,m2,m3⟩ (kls.map Zw) ⟨sz,fl,mls.map Zx⟩ sk) (Zz rli rmu rkv rrl rtk rau)).ticket).client.realm,.int .i64 ((Zh (Zy ⟨m1,m2,m3⟩ (kls.map Zw) ⟨sz,fl,mls.map Zx⟩ sk) (Zz rli rmu rkv rrl rtk rau)).ticket).address,.int .u64 ((Zh (Zy ⟨m1,m2,m3⟩ (kls.map Zw) ⟨sz,fl,mls.map Zx⟩ sk) (Zz rli rmu rkv rrl rtk rau)).ticket).session,.int .i64 ((Zh (Zy ⟨m1,m2,m3⟩ (kls.map Zw) ⟨sz,fl,mls.map Zx⟩ sk) (Zz rli rmu rkv rrl rtk rau)).ticket).life,.int .i64 ((Zh (Zy ⟨m1,m2,m3⟩ (kls.map Zw) ⟨sz,fl,mls.map Zx⟩ sk) (Zz rli rmu rkv rrl rtk rau)).ticket).issued,.str ((Zh (Zy ⟨m1,m2,m3⟩ (kls.map Zw) ⟨sz,fl,mls.map Zx⟩ sk) (Zz rli rmu rkv rrl rtk rau)).ticket).service,.str ((Zh (Zy ⟨m1,m2,m3⟩ (kls.map Zw) ⟨sz,fl,mls.map Zx⟩ sk) (Zz rli rmu rkv rrl rtk rau)).ticket).inst],.agg [.str ((Zh (Zy ⟨m1,m2,m3⟩ (kls.map Zw) ⟨sz,fl,mls.map Zx⟩ sk) (Zz rli rmu rkv rrl rtk rau)).auth).client.name,.str ((Zh (Zy ⟨m1,m2,m3⟩ (kls.map Zw) ⟨sz,fl,mls.map Zx⟩ sk) (Zz rli rmu rkv rrl rtk rau)).auth).client.inst,.str ((Zh (Zy ⟨m1,m2,m3⟩ (kls.map Zw) ⟨sz,fl,mls.map Zx⟩ sk) (Zz rli rmu rkv rrl rtk rau)).auth).client.realm,.int .i64 ((Zh (Zy ⟨m1,m2,m3⟩ (kls.map Zw) ⟨sz,fl,mls.map Zx⟩ sk) (Zz rli rmu rkv rrl rtk rau)).auth).checksum,.int .i64 ((Zh (Zy ⟨m1,m2,m3⟩ (kls.map Zw) ⟨sz,fl,mls.map Zx⟩ sk) (Zz rli rmu rkv rrl rtk rau)).auth).tick,.int .i64 ((Zh (Zy ⟨m1,m2,m3⟩ (kls.map Zw) ⟨sz,fl,mls.map Zx⟩ sk) (Zz rli rmu rkv rrl rtk rau)).auth).time],.int .i64 (Zh (Zy ⟨m1,m2,m3⟩ (kls.map Zw) ⟨sz,fl,mls.map Zx⟩ sk) (Zz rli rmu rkv rrl rtk rau)).err],[]))
 | _,_=>none
def sp29:Abs.Spec:=fun xs bl=>match xs,bl with
 | [.agg [.str m1,.str m2,.str m3,.sl 5 kls,.int .i64 sz,.int .i64 fl,.sl 5 mls,.int .i64 sk],.agg [.bool rli,.bool rmu,.int .i64 rkv,.str rrl,.bs rtk,.bs rau],.int .i64 src,.int .i64 now],[]=>chk (decide (m1.length≤9223372036854775807)&&decide (m2.length≤9223372036854775807)&&decide (m3.length≤9223372036854775807)&&kls.all Yp&&decide (kls.length≤1000000)&&mls.all Yf&&decide (mls.length≤1000000)&&decide (rtk.length≤1000000)&&decide (rau.length≤1000000)) (some (.tup [.agg [.str ((Zm (Zy ⟨m1,m2,m3⟩ (kls.map Zw) ⟨sz,fl,mls.map Zx⟩ sk) (Zz rli rmu rkv rrl rtk rau) src now).s).me.name,.str ((Zm (Zy ⟨m1,m2,m3⟩ (kls.map Zw) ⟨sz,fl,mls.map Zx⟩ sk) (Zz rli rmu rkv rrl rtk rau) src now).s).me.inst,.str ((Zm (Zy ⟨m1,m2,m3⟩ (kls.map Zw) ⟨sz,fl,mls.map Zx⟩ sk) (Zz rli rmu rkv rrl rtk rau) src now).s).me.realm,.sl 5 (((Zm (Zy ⟨m1,m2,m3⟩ (kls.map Zw) ⟨sz,fl,mls.map Zx⟩ sk) (Zz rli rmu rkv rrl rtk rau) src now).s).keys.map Kerb.SKey.av),.int .i64 (((Zm (Zy ⟨m1,m2,m3⟩ (kls.map Zw) ⟨sz,fl,mls.map Zx⟩ sk) (Zz rli rmu rkv rrl rtk rau) src now).s).replay).size,.int .i64 (((Zm (Zy ⟨m1,m2,m3⟩ (kls.map Zw) ⟨sz,fl,mls.map Zx⟩ sk) (Zz rli rmu rkv rrl rtk rau) src now).s).replay).floor,.sl 5 ((((Zm (Zy ⟨m1,m2,m3⟩ (kls.map Zw) ⟨sz,fl,mls.map Zx⟩ sk) (Zz rli rmu rkv rrl rtk rau) src now).s).replay).marks.map Kerb.Mark.av),.int .i64 ((Zm (Zy ⟨m1,m2,m3⟩ (kls.map Zw) ⟨sz,fl,mls.map Zx⟩ sk) (Zz rli rmu rkv rrl rtk rau) src now).s).skew],.agg [.str ((Zm (Zy ⟨m1,m2,m3⟩ (kls.map Zw) ⟨sz,fl,mls.map Zx⟩ sk) (Zz rli rmu rkv rrl rtk rau) src now).a).client.name,.str ((Zm (Zy ⟨m1,m2,m3⟩ (kls.map Zw) ⟨sz,fl,mls.map Zx⟩ sk) (Zz rli rmu rkv rrl rtk rau) src now).a).client.inst,.str ((Zm (Zy ⟨m1,m2,m3⟩ (kls.map Zw) ⟨sz,fl,mls.map Zx⟩ sk) (Zz rli rmu rkv rrl rtk rau) src now).a).client.realm,.int .u64 ((Zm (Zy ⟨m1,m2,m3⟩ (kls.map Zw) ⟨sz,fl,mls.map Zx⟩ sk) (Zz rli rmu rkv rrl rtk rau) src now).a).session,.int .i64 ((Zm (Zy ⟨m1,m2,m3⟩ (kls.map Zw) ⟨sz,fl,mls.map Zx⟩ sk) (Zz rli rmu rkv rrl rtk rau) src now).a).address,.int .i64 ((Zm (Zy ⟨m1,m2,m3⟩ (kls.map Zw) ⟨sz,fl,mls.map Zx⟩ sk) (Zz rli rmu rkv rrl rtk rau) src now).a).checksum,.int .i64 ((Zm (Zy ⟨m1,m2,m3⟩ (kls.map Zw) ⟨sz,fl,mls.map Zx⟩ sk) (Zz rli rmu rkv rrl rtk rau) src now).a).time,.int .i64 ((Zm (Zy ⟨m1,m2,m3⟩ (kls.map Zw) ⟨sz,fl,mls.map Zx⟩ sk) (Zz rli rmu rkv rrl rtk rau) src now).a).tick,.int .i64 ((Zm (Zy ⟨m1,m2,m3⟩ (kls.map Zw) ⟨sz,fl,mls.map Zx⟩ sk) (Zz rli rmu rkv rrl rtk rau) src now).a).issued,.int .i64 ((Zm (Zy ⟨m1,m2,m3⟩ (kls.map Zw) ⟨sz,fl,mls.map Zx⟩ sk) (Zz rli rmu rkv rrl rtk rau) src now).a).life,.bs ((Zm (Zy ⟨m1,m2,m3⟩ (kls.map Zw) ⟨sz,fl,mls.map Zx⟩ sk) (Zz rli rmu rkv rrl rtk rau) src now).a).ticket,.bs ((Zm (Zy ⟨m1,m2,m3⟩ (kls.map Zw) ⟨sz,fl,mls.map Zx⟩ sk) (Zz rli rmu rkv rrl rtk rau) src now).a).auth],.int .i64 (Zm (Zy ⟨m1,m2,m3⟩ (kls.map Zw) ⟨sz,fl,mls.map Zx⟩ sk) (Zz rli rmu rkv rrl rtk rau) src now).err],[]))
 | _,_=>none
def sp8:Abs.Spec:=fun xs bl=>match xs,bl with
 | [.agg [.str rl,.sl 9 els],.sl 4 xls,.agg [.str m1,.str m2,.str m3,.sl 5 kls,.int .i64 sz,.int .i64 fl,.sl 5 mls,.int .i64 sk],.int .i64 now,.int .i64 ad,.bool li,.int .u64 se,.bs msg],[]=>chk (els.all Yh&&decide (els.length≤1000000)&&xls.all Xu&&decide (xls.length≤1000000)&&decide (rl.length≤9223372036854775807)&&decide (m1.length≤9223372036854775807)&&decide (m2.length≤9223372036854775807)&&decide (m3.length≤9223372036854775807)&&kls.all Yp&&decide (kls.length≤1000000)&&mls.all Yf&&decide (mls.length≤1000000)&&Yn se&&decide (msg.length≤1000000)&&decide (xls.length≤900000)) (some (.tup [.agg [.str ((Zp (Zq rl (els.map Zv)) (xls.map Zu) (Zy ⟨m1,m2,m3⟩ (kls.map Zw) ⟨sz,fl,mls.map Zx⟩ sk) now ad li se msg).s).me.name,.str ((Zp (Zq rl (els.map Zv)) (xls.map Zu) (Zy ⟨m1,m2,m3⟩ (kls.map Zw) ⟨sz,fl,mls.map Zx⟩ sk) now ad li se msg).s).me.inst,.str ((Zp (Zq rl (els.map Zv)) (xls.map Zu) (Zy ⟨m1,m2,m3⟩ (kls.map Zw) ⟨sz,fl,mls.map Zx⟩ sk) now ad li se msg).s).me.realm,.sl 5 (((Zp (Zq rl (els.map Zv)) (xls.map Zu) (Zy ⟨m1,m2,m3⟩ (kls.map Zw) ⟨sz,fl,mls.map Zx⟩ sk) now ad li se msg).s).keys.map Kerb.SKey.av),.int .i64 (((Zp (Zq rl (els.map Zv)) (xls.map Zu) (Zy ⟨m1,m2,m3⟩ (kls.map Zw) ⟨sz,fl,mls.map Zx⟩ sk) now ad li se msg).s).replay).size,.int .i64 (((Zp (Zq rl (els.map Zv)) (xls.map Zu) (Zy ⟨m1,m2,m3⟩ (kls.map Zw) ⟨sz,fl,mls.map Zx⟩ sk) now ad li se msg).s).replay).floor,.sl 5 ((((Zp (Zq rl (els.map Zv)) (xls.map Zu) (Zy ⟨m1,m2,m3⟩ (kls.map Zw) ⟨sz,fl,mls.map Zx⟩ sk) now ad li se msg).s).replay).marks.map Kerb.Mark.av),.int .i64 ((Zp (Zq rl (els.map Zv)) (xls.map Zu) (Zy ⟨m1,m2,m3⟩ (kls.map Zw) ⟨sz,fl,mls.map Zx⟩ sk) now ad li se msg).s).skew],.bs (Zp (Zq rl (els.map Zv)) (xls.map Zu) (Zy ⟨m1,m2,m3⟩ (kls.map Zw) ⟨sz,fl,mls.map Zx⟩ sk) now ad li se msg).out.answer,.agg [.int .i64 ((Zp (Zq rl (els.map Zv)) (xls.map Zu) (Zy ⟨m1,m2,m3⟩ (kls.map Zw) ⟨sz,fl,mls.map Zx⟩ sk) now ad li se msg).out.issue).kind,.str ((Zp (Zq rl (els.map Zv)) (xls.map Zu) (Zy ⟨m1,m2,m3⟩ (kls.map Zw) ⟨sz,fl,mls.map Zx⟩ sk) now ad li se msg).out.issue).server.name,.str ((Zp (Zq rl (els.map Zv)) (xls.map Zu) (Zy ⟨m1,m2,m3⟩ (kls.map Zw) ⟨sz,fl,mls.map Zx⟩ sk) now ad li se msg).out.issue).server.inst,.str ((Zp (Zq rl (els.map Zv)) (xls.map Zu) (Zy ⟨m1,m2,m3⟩ (kls.map Zw) ⟨sz,fl,mls.map Zx⟩ sk) now ad li se msg).out.issue).server.realm,.str ((Zp (Zq rl (els.map Zv)) (xls.map Zu) (Zy ⟨m1,m2,m3⟩ (kls.map Zw) ⟨sz,fl,mls.map Zx⟩ sk) now ad li se msg).out.issue).client.name,.str ((Zp (Zq rl (els.map Zv)) (xls.map Zu) (Zy ⟨m1,m2,m3⟩ (kls.map Zw) ⟨sz,fl,mls.map Zx⟩ sk) now ad li se msg).out.issue).client.inst,.str ((Zp (Zq rl (els.map Zv)) (xls.map Zu) (Zy ⟨m1,m2,m3⟩ (kls.map Zw) ⟨sz,fl,mls.map Zx⟩ sk) now ad li se msg).out.issue).client.realm,.str ((Zp (Zq rl (els.map Zv)) (xls.map Zu) (Zy ⟨m1,m2,m3⟩ (kls.map Zw) ⟨sz,fl,mls.map Zx⟩ sk) now ad li se msg).out.issue).service.name,.str ((Zp (Zq rl (els.map Zv)) (xls.map Zu) (Zy ⟨m1,m2,m3⟩ (kls.map Zw) ⟨sz,fl,mls.map Zx⟩ sk) now ad li se msg).out.issue).service.inst,.str ((Zp (Zq rl (els.map Zv)) (xls.map Zu) (Zy ⟨m1,m2,m3⟩ (kls.map Zw) ⟨sz,fl,mls.map Zx⟩ sk) now ad li se msg).out.issue).service.realm,.int .u64 ((Zp (Zq rl (els.map Zv)) (xls.map Zu) (Zy ⟨m1,m2,m3⟩ (kls.map Zw) ⟨sz,fl,mls.map Zx⟩ sk) now ad li se msg).out.issue).session,.int .u64 ((Zp (Zq rl (els.map Zv)) (xls.map Zu) (Zy ⟨m1,m2,m3⟩ (kls.map Zw) ⟨sz,fl,mls.map Zx⟩ sk) now ad li se msg).out.issue).sealer,.int .u64 ((Zp (Zq rl (els.map Zv)) (xls.map Zu) (Zy ⟨m1,m2,m3⟩ (kls.map Zw) ⟨sz,fl,mls.map Zx⟩ sk) now ad li se msg).out.issue).granter,.bs ((Zp (Zq rl (els.map Zv)) (xls.map Zu) (Zy ⟨m1,m2,m3⟩ (kls.map Zw) ⟨sz,fl,mls.map Zx⟩ sk) now ad li se msg).out.issue).text,.int .i64 ((Zp (Zq rl (els.map Zv)) (xls.map Zu) (Zy ⟨m1,m2,m3⟩ (kls.map Zw) ⟨sz,fl,mls.map Zx⟩ sk) now ad li se msg).out.issue).issued,.int .i64 ((Zp (Zq rl (els.map Zv)) (xls.map Zu) (Zy ⟨m1,m2,m3⟩ (kls.map Zw) ⟨sz,fl,mls.map Zx⟩ sk) now ad li se msg).out.issue).stop],.bool (Zp (Zq rl (els.map Zv)) (xls.map Zu) (Zy ⟨m1,m2,m3⟩ (kls.map Zw) ⟨sz,fl,mls.map Zx⟩ sk) now ad li se msg).out.ok],[]))
 | _,_=>none
def sp4:Abs.Spec:=fun xs bl=>match xs,bl with
 | [],[]=>some (.bool true,[])
 | _,_=>none
def sp3:Abs.Spec:=fun xs bl=>match xs,bl with
 | [.bs cx,.sl 26 ls,.u8 sz,.u8 sk,.u8 lf,.u8 xp,.u8 bd,.bool li],[]=>chk (ls.all Kerb.isTAsk) (some (.bool true,[]))
 | _,_=>none
def tabT:List (Nat×Nat×List CT×Abs.Spec):=[(9,1,[.int .i64],sp9),(11,1,[.sl 5,.sl 5],sp11),(20,1,[.int .i64],sp20),(25,1,[.sl 5],sp25),(26,1,[.sl 5],sp26),(28,1,[.str,.str],sp28),(33,1,[.bsl,.int .u16],sp33),(48,1,[.other,.str,.str],sp48),(50,1,[.ptr],sp50),(51,1,[.ptr,.int .i64],sp51),(58,1,[.bsl,.bsl],sp58),(64,1,[.bsl],sp64),(67,1,[.other],sp67),(73,1,[.bsl],sp73),(75,1,[.ptr,.int .i64,.int .i64],sp75),(78,1,[.bsl,.int .i64,.int .i64],sp78),(80,1,[.int .i64,.int .i64],sp80),(82,1,[.int .i64,.bool],sp82),(88,1,[.int .u64],sp88),(89,1,[.bsl],sp89),(90,1,[],sp90),(91,1,[.bsl,.int .i64],sp91),(93,1,[.bsl,.str],sp93),(99,1,[.int .i64,.int .i64],sp99),(102,1,[.int .i64,.sl 1],sp102),(105,1,[.bsl,.int .i64,.int .i64],sp105),(110,1,[.int .i64,.int .i64],sp110),(117,1,[.int .i64],sp117),(119,1,[.other,.str],sp119),(123,1,[.int .i64,.int .i64,.int .i64],sp123),(125,1,[.int .i64],sp125),(130,1,[.sl 4,.str,.str],sp130),(140,1,[.bsl,.int .i64,.int .i64,.bool],sp140),(141,1,[.int .i64,.int .i64],sp141),(143,1,[.int .i64,.int .i64],sp143),(146,1,[.str,.str],sp146),(147,1,[.int .i64],sp147),(148,1,[.int .i64],sp148),(149,1,[.int .i64],sp149),(150,1,[.bsl,.u8],sp150),(156,1,[.other],sp156),(157,1,[.sl 5,.other],sp157),(159,1,[.int .i64],sp159),(160,1,[.int .i64],sp160),(161,1,[.int .i64,.int .i64],sp161),(169,1,[.int .i64,.sl 1],sp169),(171,1,[.int .u64],sp171),(173,1,[.int .i64],sp173),(176,1,[.other,.other],sp176),(180,1,[.int .i64,.int .i64],sp180),(182,1,[.str,.u8],sp182),(183,1,[.int .i64,.int .i64],sp183),(184,1,[.int .i64,.int .i64],sp184),(34,2,[.bsl,.sl 1],sp34),(39,2,[.ptr,.int .i64],sp39),(43,2,[.int .i64],sp43),(44,2,[.ptr],sp44),(59,2,[.other],sp59),(81,2,[.bsl,.other],sp81),(83,2,[.bsl,.int .i64],sp83),(84,2,[.bsl,.int .i64,.bool],sp84),(85,2,[.bsl,.int .i64,.bool],sp85),(86,2,[.int .u64],sp86),(97,2,[.str],sp97),(98,2,[.str],sp98),(100,2,[.int .u64],sp100),(101,2,[.bsl],sp101),(103,2,[.bsl,.int .i64,.int .i64],sp103),(104,2,[.bsl,.int .i64,.int .i64,.bool],sp104),(106,2,[.bsl,.u8],sp106),(121,2,[.int .i64,.int .i64,.int .i64],sp121),(124,2,[.other,.other],sp124),(132,2,[.int .i64,.int .i64],sp132),(138,2,[.bsl,.int .i64,.int .i64,.bool],sp138),(139,2,[.str],sp139),(151,2,[.int .i64,.bool],sp151),(152,2,[.sl 1],sp152),(155,2,[.sl 5,.other],sp155),(170,2,[.int .i64],sp170),(178,2,[.str,.u8],sp178),(15,3,[.int .i64],sp15),(19,3,[.int .i64,.int .i64],sp19),(21,3,[.int .i64],sp21),(23,3,[.bsl],sp23),(35,3,[.ptr],sp35),(41,3,[.bsl],sp41),(49,3,[.int .u64],sp49),(52,3,[.bsl,.sl 1],sp52),(54,3,[.bsl,.int .i64,.bool],sp54),(55,3,[.bsl,.int .i64],sp55),(56,3,[.bsl,.int .i64],sp56),(70,3,[.int .u64],sp70),(74,3,[.bsl,.int .i64,.bool],sp74),(76,3,[.bsl,.int .i64],sp76),(77,3,[.bsl,.int .i64,.bool],sp77),(79,3,[.other],sp79),(87,3,[.bsl,.bool],sp87),(96,3,[.other],sp96),(113,3,[.bsl,.str],sp113),(118,3,[.sl 5,.other,.int .i64],sp118),(122,3,[.int .i64,.int .i64,.int .i64,.int .i64],sp122),(133,3,[.int .i64,.int .i64,.sl 1],sp133),(142,3,[.int .u64],sp142),(144,3,[.int .i64,.int .u64,.bsl],sp144),(154,3,[.bsl,.int .i64,.int .i64,.bool],sp154),(162,3,[.str,.u8],sp162),(172,3,[.bsl],sp172),(5,4,[.bsl],sp5),(6,4,[.u8,.u8,.u8],sp6),(16,4,[.bsl],sp16),(22,4,[.other,.sl 4],sp22),(24,4,[.other],sp24),(36,4,[.ptr],sp36),(37,4,[.ptr],sp37),(38,4,[.ptr],sp38),(40,4,[.other],sp40),(42,4,[.other,.bool],sp42),(47,4,[.other],sp47),(53,4,[.bsl],sp53),(62,4,[.other,.other,.int .i64,.int .i64,.int .i64],sp62),(69,4,[.other,.int .i64,.int .i64,.int .i64,.other],sp69),(92,4,[.other],sp92),(111,4,[.bsl,.int .i64,.bool],sp111),(112,4,[.bsl,.int .i64],sp112),(136,4,[.int .i64,.int .u64,.bsl],sp136),(153,4,[.str,.str],sp153),(163,4,[.bsl,.other],sp163),(166,4,[.bsl],sp166),(168,4,[.other,.str,.str,.int .i64,.int .i64,.int .i64,.int .i64],sp168),(174,4,[.bsl,.int .i64,.bool],sp174),(175,4,[.other],sp175),(7,5,[.other,.u8,.u8],sp7),(12,5,[.bsl],sp12),(13,5,[.bsl,.int .i64,.int .u64],sp13),(14,5,[.bsl,.bool],sp14),(45,5,[.other],sp45),(108,5,[.str],sp108),(109,5,[.str],sp109),(131,5,[.other,.str,.str,.int .i64],sp131),(145,5,[.other,.bool],sp145),(164,5,[.bsl],sp164),(17,6,[.bsl],sp17),(94,6,[.other,.int .u64],sp94),(95,6,[.other,.bool,.int .u64],sp95),(127,6,[.bsl,.int .i64,.int .u64],sp127),(129,6,[.str],sp129),(46,7,[.other,.other,.int .u64,.int .i64],sp46),(68,7,[.other,.sl 4,.str,.str,.int .i64],sp68),(107,7,[.other],sp107),(114,7,[.other],sp114),(18,8,[.other,.other,.int .u64,.int .i64,.int .i64,.int .i64,.other],sp18),(57,8,[.other],sp57),(115,8,[.sl 5],sp115),(116,8,[.other],sp116),(126,8,[.other],sp126),(135,8,[.other,.bool],sp135),(137,8,[.other],sp137),(165,8,[.bsl,.int .i64],sp165),(179,8,[.other],sp179),(181,8,[.other],sp181),(10,9,[.other,.sl 4],sp10),(27,9,[.bsl],sp27),(60,9,[.other],sp60),(63,9,[.other,.other,.int .i64,.int .i64],sp63),(65,9,[.other,.int .i64,.int .i64,.bool],sp65),(72,9,[.other,.other,.other,.other],sp72),(167,9,[.other],sp167),(177,9,[.other,.bool],sp177),(30,10,[.other,.other,.int .i64],sp30),(128,10,[.bsl],sp128),(134,10,[.other,.int .u64],sp134),(158,10,[.bsl,.bool],sp158),(66,11,[.bsl,.int .u64],sp66),(71,11,[.other,.other,.other,.int .i64,.bool,.int .i64,.int .i64,.int .u64,.int .u64,.int .u64,.int .i64],sp71),(120,11,[.bsl,.bool,.int .u64],sp120),(31,12,[.other,.other],sp31),(32,12,[.other,.other,.other],sp32),(61,12,[.other,.other],sp61),(29,13,[.other,.other,.int .i64,.int .i64],sp29),(8,14,[.other,.sl 4,.other,.int .i64,.int .i64,.bool,.int .u64,.bsl],sp8),(4,15,[],sp4),(3,16,[.bsl,.sl 26,.u8,.u8,.u8,.u8,.u8,.bool],sp3)]
def globT:List (Nat×List AV):=[(0,[.str [99,108,105,101,110,116,32,101,120,112,105,114,101,100],.str [115,101,114,118,105,99,101,32,101,120,112,105,114,101,100],.str [110,111,32,108,105,102,101,116,105,109,101,32,108,101,102,116],.str [112,114,111,116,111,99,111,108,32,118,101,114,115,105,111,110],.str [110,111,116,32,97,32,99,108,105,101,110,116],.str [110,111,116,32,97,32,115,101,114,118,105,99,101],.str [98,121,116,101,32,111,114,100,101,114],.str [112,114,105,110,99,105,112,97,108,32,117,110,107,110,111,119,110],.str [112,114,105,110,99,105,112,97,108,32,110,111,116,32,117,110,105,113,117,101],.str [110,111,32,107,101,121]])]
noncomputable def inlT:List (Nat×Func):=[]
def look {α:Type} (k:Nat):List (Nat×α)→Option α
 | []=>none
 | (j,x)::r=>cond (Nat.beq j k) (some x) (look k r)
def look2 {α:Type} (k m:Nat):List (Nat×Nat×List α)→List α
 | []=>[]
 | (j,i,x)::r=>cond (Nat.beq j k) (cond (Nat.beq i m) x (look2 k m r)) (look2 k m r)
noncomputable def G:Cfg2:={ ty:=fun t=>(tbl[t]?).join,keep:=fun f r=>look2 f r keepT,own:=fun f=>ownT.contains f,glob:=fun q=>look q globT,rts:=fun f=>look f rtsT,tab:=fun f=>look f tabT,inl:=fun f=>look f inlT }
end Go.Proofs.YtmdppipjjnfanaaGreatDoor
