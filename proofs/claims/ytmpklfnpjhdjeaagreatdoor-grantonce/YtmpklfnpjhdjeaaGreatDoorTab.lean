/- The table of functions of this seat. -/
import Derived.Test.YtmpklfnpjhdjeaaGreatDoorAbsSpec
import Derived.Test.YtmpklfnpjhdjeaaGreatDoorKerbDefs
import Derived.Test.YtmpklfnpjhdjeaaGreatDoorAbsPlain
import Derived.Test.YtmpklfnpjhdjeaaGreatDoorKerbKaRef
import Derived.Test.YtmpklfnpjhdjeaaGreatDoorKerbCli2
import Derived.Test.YtmpklfnpjhdjeaaGreatDoorKerbTkt
import Derived.Test.YtmpklfnpjhdjeaaGreatDoorKerbDb
import Derived.Test.YtmpklfnpjhdjeaaGreatDoorKerbVerL
import Derived.Test.YtmpklfnpjhdjeaaGreatDoorKerbKaRef
import Derived.Test.YtmpklfnpjhdjeaaGreatDoorKerbCli2
import Derived.Test.YtmpklfnpjhdjeaaGreatDoorKerbTkt
import Derived.Test.YtmpklfnpjhdjeaaGreatDoorKerbDb
import Derived.Test.YtmpklfnpjhdjeaaGreatDoorKerbKac
import Derived.Test.YtmpklfnpjhdjeaaGreatDoorKerbSrv
import Derived.Test.YtmpklfnpjhdjeaaGreatDoorKerbSrvD
import Derived.Test.YtmpklfnpjhdjeaaGreatDoorKerbAuthL
import Derived.Test.YtmpklfnpjhdjeaaGreatDoorKerbVerL
import Derived.Test.YtmpklfnpjhdjeaaGreatDoorKerbGrt
import Derived.Test.YtmpklfnpjhdjeaaGreatDoorProg
import Derived.KernelRfl
open Kerb.ApRequest renaming mk→Zz
open Kerb.Server renaming mk→Zy
open Kerb renaming toMark→Zx,toSKey→Zw,toEntry→Zv,toCross→Zu,tgsAnswer→Zk,grant→Zd,get→Zf,tgsServe→Zg,verify→Zn,openReq→Zm,noIssue→Zh,decodeTicket→Yz,openTicket→Yy,decodeTgs→Yw,decodeReply→Yv,within→Yu,decodeAuth→Yj,isMark→Yk,bytes→Yp,openAuth→Yd,isU64→Yf,text→Yg,isSKey→Yb,isEntry→Yn,putN→Ym,readHead→Yh,readAp→Xx,isCross→Xw,encodeTicket→Xv,keyValid→Xu
open Kerb.Db renaming mk→Zq
open Kerb.TgsRequest renaming mk→Zj
open Kerb.Accepted renaming mk→Zp
open Kerb.Case renaming mk→Zb
open Kerb.Ticket renaming mk→Yx
open Kerb.Auth renaming mk→Yq
open Kerb.RCache renaming mk→Xz
open Kerb.Mark renaming mk→Xy
namespace Go.Proofs.YtmpklfnpjhdjeaaGreatDoor
open Go Go.Abs
set_option linter.unusedVariables false
def tbl:List (Option TI):=[
 none,
 none,
 some ⟨1,8,.int .i64,[.int .i64 0],[.int .i64],[.int .i64]⟩,
 some ⟨1,8,.int .i64,[.int .i64 0],[.int .i64],[.int .i64]⟩,
 some ⟨1,1,.bool,[.bool false],[.bool],[.bool]⟩,
 some ⟨1,1,.u8,[.u8 0],[.u8],[.u8]⟩,
 some ⟨1,1,.u8,[.u8 0],[.u8],[.u8]⟩,
 some ⟨4,24,.struct [(0,2),(1,3),(2,4),(3,6)],[.int .i64 0,.int .i64 0,.bool false,.u8 0],[.int .i64,.int .i64,.bool,.u8],[.int .i64,.int .i64,.bool,.u8]⟩,
 none,
 some ⟨1,16,.str,[.str []],[.str],[.str]⟩,
 none,
 none,
 some ⟨1,8,.int .u64,[.int .u64 0],[.int .u64],[.int .u64]⟩,
 none,
 none,
 some ⟨1,8,.ptr 229,[.nilp],[.ptr],[]⟩,
 some ⟨1,8,.ptr 232,[.nilp],[.ptr],[]⟩,
 some ⟨1,8,.ptr 240,[.nilp],[.ptr],[]⟩,
 some ⟨1,8,.struct [(0,17)],[.nilp],[.ptr],[]⟩,
 some ⟨1,8,.struct [(0,17)],[.nilp],[.ptr],[]⟩,
 none,
 some ⟨1,4,.int .i32,[.int .i32 0],[.int .i32],[.int .i32]⟩,
 some ⟨1,24,.slice 5 true,[.nils],[.bsl],[]⟩,
 some ⟨1,4,.int .u32,[.int .u32 0],[.int .u32],[.int .u32]⟩,
 some ⟨1,2,.int .u16,[.int .u16 0],[.int .u16],[.int .u16]⟩,
 some ⟨19,28,.struct [(0,5),(1,5),(2,5),(3,5),(4,4),(5,4),(6,4),(7,5),(8,5),(9,5),(10,5),(11,5),(12,5),(13,23),(14,5),(15,5),(16,5),(17,24),(18,24)],[.u8 0,.u8 0,.u8 0,.u8 0,.bool false,.bool false,.bool false,.u8 0,.u8 0,.u8 0,.u8 0,.u8 0,.u8 0,.int .u32 0,.u8 0,.u8 0,.u8 0,.int .u16 0,.int .u16 0],[.u8,.u8,.u8,.u8,.bool,.bool,.bool,.u8,.u8,.u8,.u8,.u8,.u8,.int .u32,.u8,.u8,.u8,.int .u16,.int .u16],[.u8,.u8,.u8,.u8,.bool,.bool,.bool,.u8,.u8,.u8,.u8,.u8,.u8,.int .u32,.u8,.u8,.u8,.int .u16,.int .u16]⟩,
 some ⟨19,28,.struct [(0,5),(1,5),(2,5),(3,5),(4,4),(5,4),(6,4),(7,5),(8,5),(9,5),(10,5),(11,5),(12,5),(13,23),(14,5),(15,5),(16,5),(17,24),(18,24)],[.u8 0,.u8 0,.u8 0,.u8 0,.bool false,.bool false,.bool false,.u8 0,.u8 0,.u8 0,.u8 0,.u8 0,.u8 0,.int .u32 0,.u8 0,.u8 0,.u8 0,.int .u16 0,.int .u16 0],[.u8,.u8,.u8,.u8,.bool,.bool,.bool,.u8,.u8,.u8,.u8,.u8,.u8,.int .u32,.u8,.u8,.u8,.int .u16,.int .u16],[.u8,.u8,.u8,.u8,.bool,.bool,.bool,.u8,.u8,.u8,.u8,.u8,.u8,.int .u32,.u8,.u8,.u8,.int .u16,.int .u16]⟩,
 some ⟨26,36,.struct [(0,26),(19,5),(20,5),(21,5),(22,5),(23,5),(24,5),(25,24)],[.u8 0,.u8 0,.u8 0,.u8 0,.bool false,.bool false,.bool false,.u8 0,.u8 0,.u8 0,.u8 0,.u8 0,.u8 0,.int .u32 0,.u8 0,.u8 0,.u8 0,.int .u16 0,.int .u16 0,.u8 0,.u8 0,.u8 0,.u8 0,.u8 0,.u8 0,.int .u16 0],[.u8,.u8,.u8,.u8,.bool,.bool,.bool,.u8,.u8,.u8,.u8,.u8,.u8,.int .u32,.u8,.u8,.u8,.int .u16,.int .u16,.u8,.u8,.u8,.u8,.u8,.u8,.int .u16],[.u8,.u8,.u8,.u8,.bool,.bool,.bool,.u8,.u8,.u8,.u8,.u8,.u8,.int .u32,.u8,.u8,.u8,.int .u16,.int .u16,.u8,.u8,.u8,.u8,.u8,.u8,.int .u16]⟩,
 some ⟨26,36,.struct [(0,26),(19,5),(20,5),(21,5),(22,5),(23,5),(24,5),(25,24)],[.u8 0,.u8 0,.u8 0,.u8 0,.bool false,.bool false,.bool false,.u8 0,.u8 0,.u8 0,.u8 0,.u8 0,.u8 0,.int .u32 0,.u8 0,.u8 0,.u8 0,.int .u16 0,.int .u16 0,.u8 0,.u8 0,.u8 0,.u8 0,.u8 0,.u8 0,.int .u16 0],[.u8,.u8,.u8,.u8,.bool,.bool,.bool,.u8,.u8,.u8,.u8,.u8,.u8,.int .u32,.u8,.u8,.u8,.int .u16,.int .u16,.u8,.u8,.u8,.u8,.u8,.u8,.int .u16],[.u8,.u8,.u8,.u8,.bool,.bool,.bool,.u8,.u8,.u8,.u8,.u8,.u8,.int .u32,.u8,.u8,.u8,.int .u16,.int .u16,.u8,.u8,.u8,.u8,.u8,.u8,.int .u16]⟩,
 none,
 some ⟨1,24,.slice 64 false,[.nils],[.sl 4],[]⟩,
 none,
 some ⟨1,24,.slice 67 false,[.nils],[.sl 9],[]⟩,
 some ⟨2,40,.struct [(0,9),(1,32)],[.str [],.nils],[.str,.sl 9],[]⟩,
 some ⟨2,40,.struct [(0,9),(1,32)],[.str [],.nils],[.str,.sl 9],[]⟩,
 none,
 some ⟨3,48,.struct [(0,9),(1,9),(2,9)],[.str [],.str [],.str []],[.str,.str,.str],[.str,.str,.str]⟩,
 some ⟨3,48,.struct [(0,9),(1,9),(2,9)],[.str [],.str [],.str []],[.str,.str,.str],[.str,.str,.str]⟩,
 some ⟨1,24,.slice 70 false,[.nils],[.sl 5],[]⟩,
 some ⟨1,24,.slice 75 false,[.nils],[.sl 5],[]⟩,
 some ⟨3,40,.struct [(0,3),(1,3),(2,39)],[.int .i64 0,.int .i64 0,.nils],[.int .i64,.int .i64,.sl 5],[]⟩,
 some ⟨3,40,.struct [(0,3),(1,3),(2,39)],[.int .i64 0,.int .i64 0,.nils],[.int .i64,.int .i64,.sl 5],[]⟩,
 some ⟨8,120,.struct [(0,37),(3,38),(4,41),(7,3)],[.str [],.str [],.str [],.nils,.int .i64 0,.int .i64 0,.nils,.int .i64 0],[.str,.str,.str,.sl 5,.int .i64,.int .i64,.sl 5,.int .i64],[]⟩,
 some ⟨8,120,.struct [(0,37),(3,38),(4,41),(7,3)],[.str [],.str [],.str [],.nils,.int .i64 0,.int .i64 0,.nils,.int .i64 0],[.str,.str,.str,.sl 5,.int .i64,.int .i64,.sl 5,.int .i64],[]⟩,
 none,
 none,
 some ⟨1,8,.int .u64,[.int .u64 0],[.int .u64],[.int .u64]⟩,
 some ⟨1,8,.int .u64,[.int .u64 0],[.int .u64],[.int .u64]⟩,
 some ⟨16,216,.struct [(0,3),(1,37),(4,37),(7,37),(10,47),(11,47),(12,47),(13,22),(14,3),(15,3)],[.int .i64 0,.str [],.str [],.str [],.str [],.str [],.str [],.str [],.str [],.str [],.int .u64 0,.int .u64 0,.int .u64 0,.nils,.int .i64 0,.int .i64 0],[.int .i64,.str,.str,.str,.str,.str,.str,.str,.str,.str,.int .u64,.int .u64,.int .u64,.bsl,.int .i64,.int .i64],[]⟩,
 some ⟨16,216,.struct [(0,3),(1,37),(4,37),(7,37),(10,47),(11,47),(12,47),(13,22),(14,3),(15,3)],[.int .i64 0,.str [],.str [],.str [],.str [],.str [],.str [],.str [],.str [],.str [],.int .u64 0,.int .u64 0,.int .u64 0,.nils,.int .i64 0,.int .i64 0],[.int .i64,.str,.str,.str,.str,.str,.str,.str,.str,.str,.int .u64,.int .u64,.int .u64,.bsl,.int .i64,.int .i64],[]⟩,
 none,
 none,
 none,
 some ⟨8,104,.struct [(0,4),(1,37),(4,3),(5,3),(6,3),(7,22)],[.bool false,.str [],.str [],.str [],.int .i64 0,.int .i64 0,.int .i64 0,.nils],[.bool,.str,.str,.str,.int .i64,.int .i64,.int .i64,.bsl],[]⟩,
 some ⟨8,104,.struct [(0,4),(1,37),(4,3),(5,3),(6,3),(7,22)],[.bool false,.str [],.str [],.str [],.int .i64 0,.int .i64 0,.int .i64 0,.nils],[.bool,.str,.str,.str,.int .i64,.int .i64,.int .i64,.bsl],[]⟩,
 some ⟨1,8,.int .i64,[.int .i64 0],[.int .i64],[.int .i64]⟩,
 none,
 none,
 none,
 none,
 none,
 none,
 none,
 some ⟨4,48,.struct [(0,9),(1,9),(2,3),(3,47)],[.str [],.str [],.int .i64 0,.int .u64 0],[.str,.str,.int .i64,.int .u64],[.str,.str,.int .i64,.int .u64]⟩,
 some ⟨4,48,.struct [(0,9),(1,9),(2,3),(3,47)],[.str [],.str [],.int .i64 0,.int .u64 0],[.str,.str,.int .i64,.int .u64],[.str,.str,.int .i64,.int .u64]⟩,
 some ⟨1,24,.slice 37 false,[.nils],[.sl 3],[]⟩,
 some ⟨9,88,.struct [(0,9),(1,9),(2,47),(3,3),(4,3),(5,3),(6,3),(7,3),(8,3)],[.str [],.str [],.int .u64 0,.int .i64 0,.int .i64 0,.int .i64 0,.int .i64 0,.int .i64 0,.int .i64 0],[.str,.str,.int .u64,.int .i64,.int .i64,.int .i64,.int .i64,.int .i64,.int .i64],[.str,.str,.int .u64,.int .i64,.int .i64,.int .i64,.int .i64,.int .i64,.int .i64]⟩,
 some ⟨9,88,.struct [(0,9),(1,9),(2,47),(3,3),(4,3),(5,3),(6,3),(7,3),(8,3)],[.str [],.str [],.int .u64 0,.int .i64 0,.int .i64 0,.int .i64 0,.int .i64 0,.int .i64 0,.int .i64 0],[.str,.str,.int .u64,.int .i64,.int .i64,.int .i64,.int .i64,.int .i64,.int .i64],[.str,.str,.int .u64,.int .i64,.int .i64,.int .i64,.int .i64,.int .i64,.int .i64]⟩,
 none,
 some ⟨5,64,.struct [(0,37),(3,3),(4,47)],[.str [],.str [],.str [],.int .i64 0,.int .u64 0],[.str,.str,.str,.int .i64,.int .u64],[.str,.str,.str,.int .i64,.int .u64]⟩,
 some ⟨5,64,.struct [(0,37),(3,3),(4,47)],[.str [],.str [],.str [],.int .i64 0,.int .u64 0],[.str,.str,.str,.int .i64,.int .u64],[.str,.str,.str,.int .i64,.int .u64]⟩,
 none,
 none,
 none,
 some ⟨5,64,.struct [(0,37),(3,3),(4,3)],[.str [],.str [],.str [],.int .i64 0,.int .i64 0],[.str,.str,.str,.int .i64,.int .i64],[.str,.str,.str,.int .i64,.int .i64]⟩,
 some ⟨5,64,.struct [(0,37),(3,3),(4,3)],[.str [],.str [],.str [],.int .i64 0,.int .i64 0],[.str,.str,.str,.int .i64,.int .i64],[.str,.str,.str,.int .i64,.int .i64]⟩,
 some ⟨6,80,.struct [(0,4),(1,4),(2,3),(3,9),(4,22),(5,22)],[.bool false,.bool false,.int .i64 0,.str [],.nils,.nils],[.bool,.bool,.int .i64,.str,.bsl,.bsl],[]⟩,
 some ⟨6,80,.struct [(0,4),(1,4),(2,3),(3,9),(4,22),(5,22)],[.bool false,.bool false,.int .i64 0,.str [],.nils,.nils],[.bool,.bool,.int .i64,.str,.bsl,.bsl],[]⟩,
 some ⟨10,128,.struct [(0,77),(6,3),(7,3),(8,9),(9,9)],[.bool false,.bool false,.int .i64 0,.str [],.nils,.nils,.int .i64 0,.int .i64 0,.str [],.str []],[.bool,.bool,.int .i64,.str,.bsl,.bsl,.int .i64,.int .i64,.str,.str],[]⟩,
 some ⟨10,128,.struct [(0,77),(6,3),(7,3),(8,9),(9,9)],[.bool false,.bool false,.int .i64 0,.str [],.nils,.nils,.int .i64 0,.int .i64 0,.str [],.str []],[.bool,.bool,.int .i64,.str,.bsl,.bsl,.int .i64,.int .i64,.str,.str],[]⟩,
 none,
 none,
 none,
 some ⟨6,88,.struct [(0,34),(2,30),(3,3),(4,4),(5,47)],[.str [],.nils,.nils,.int .i64 0,.bool false,.int .u64 0],[.str,.sl 9,.sl 4,.int .i64,.bool,.int .u64],[]⟩,
 some ⟨6,88,.struct [(0,34),(2,30),(3,3),(4,4),(5,47)],[.str [],.nils,.nils,.int .i64 0,.bool false,.int .u64 0],[.str,.sl 9,.sl 4,.int .i64,.bool,.int .u64],[]⟩,
 some ⟨12,152,.struct [(0,37),(3,47),(4,3),(5,3),(6,3),(7,3),(8,3),(9,3),(10,22),(11,22)],[.str [],.str [],.str [],.int .u64 0,.int .i64 0,.int .i64 0,.int .i64 0,.int .i64 0,.int .i64 0,.int .i64 0,.nils,.nils],[.str,.str,.str,.int .u64,.int .i64,.int .i64,.int .i64,.int .i64,.int .i64,.int .i64,.bsl,.bsl],[]⟩,
 some ⟨12,152,.struct [(0,37),(3,47),(4,3),(5,3),(6,3),(7,3),(8,3),(9,3),(10,22),(11,22)],[.str [],.str [],.str [],.int .u64 0,.int .i64 0,.int .i64 0,.int .i64 0,.int .i64 0,.int .i64 0,.int .i64 0,.nils,.nils],[.str,.str,.str,.int .u64,.int .i64,.int .i64,.int .i64,.int .i64,.int .i64,.int .i64,.bsl,.bsl],[]⟩,
 none,
 none,
 none,
 none,
 none,
 none,
 none,
 none,
 some ⟨1,8,.ptr 97,[.nilp],[.ptr],[]⟩,
 some ⟨4,40,.struct [(0,22),(1,3),(2,4),(3,4)],[.nils,.int .i64 0,.bool false,.bool false],[.bsl,.int .i64,.bool,.bool],[]⟩,
 some ⟨4,40,.struct [(0,22),(1,3),(2,4),(3,4)],[.nils,.int .i64 0,.bool false,.bool false],[.bsl,.int .i64,.bool,.bool],[]⟩,
 none,
 none,
 none,
 none,
 none,
 none,
 none,
 none,
 none,
 none,
 some ⟨1,8,.ptr 110,[.nilp],[.ptr],[]⟩,
 some ⟨2,32,.struct [(0,22),(1,3)],[.nils,.int .i64 0],[.bsl,.int .i64],[]⟩,
 some ⟨2,32,.struct [(0,22),(1,3)],[.nils,.int .i64 0],[.bsl,.int .i64],[]⟩,
 none,
 some ⟨1,24,.slice 9 false,[.nils],[.sl 1],[]⟩,
 some ⟨1,8,.int .u64,[.int .u64 0],[.int .u64],[.int .u64]⟩,
 none,
 none,
 none,
 none,
 none,
 none,
 none,
 none,
 none,
 none,
 some ⟨10,120,.struct [(0,4),(1,37),(4,3),(5,47),(6,3),(7,3),(8,9),(9,9)],[.bool false,.str [],.str [],.str [],.int .i64 0,.int .u64 0,.int .i64 0,.int .i64 0,.str [],.str []],[.bool,.str,.str,.str,.int .i64,.int .u64,.int .i64,.int .i64,.str,.str],[.bool,.str,.str,.str,.int .i64,.int .u64,.int .i64,.int .i64,.str,.str]⟩,
 some ⟨10,120,.struct [(0,4),(1,37),(4,3),(5,47),(6,3),(7,3),(8,9),(9,9)],[.bool false,.str [],.str [],.str [],.int .i64 0,.int .u64 0,.int .i64 0,.int .i64 0,.str [],.str []],[.bool,.str,.str,.str,.int .i64,.int .u64,.int .i64,.int .i64,.str,.str],[.bool,.str,.str,.str,.int .i64,.int .u64,.int .i64,.int .i64,.str,.str]⟩,
 some ⟨6,72,.struct [(0,37),(3,3),(4,3),(5,3)],[.str [],.str [],.str [],.int .i64 0,.int .i64 0,.int .i64 0],[.str,.str,.str,.int .i64,.int .i64,.int .i64],[.str,.str,.str,.int .i64,.int .i64,.int .i64]⟩,
 some ⟨6,72,.struct [(0,37),(3,3),(4,3),(5,3)],[.str [],.str [],.str [],.int .i64 0,.int .i64 0,.int .i64 0],[.str,.str,.str,.int .i64,.int .i64,.int .i64],[.str,.str,.str,.int .i64,.int .i64,.int .i64]⟩,
 none,
 none,
 none,
 none,
 none,
 none,
 none,
 none,
 none,
 none,
 none,
 none,
 none,
 none,
 none,
 some ⟨8,104,.struct [(0,47),(1,37),(4,3),(5,3),(6,22),(7,3)],[.int .u64 0,.str [],.str [],.str [],.int .i64 0,.int .i64 0,.nils,.int .i64 0],[.int .u64,.str,.str,.str,.int .i64,.int .i64,.bsl,.int .i64],[]⟩,
 some ⟨8,104,.struct [(0,47),(1,37),(4,3),(5,3),(6,22),(7,3)],[.int .u64 0,.str [],.str [],.str [],.int .i64 0,.int .i64 0,.nils,.int .i64 0],[.int .u64,.str,.str,.str,.int .i64,.int .i64,.bsl,.int .i64],[]⟩,
 none,
 none,
 none,
 some ⟨1,24,.slice 3 false,[.nils],[.sl 1],[]⟩,
 none,
 none,
 none,
 none,
 none,
 none,
 none,
 none,
 none,
 none,
 none,
 none,
 none,
 none,
 none,
 none,
 none,
 none,
 none,
 none,
 none,
 none,
 none,
 none,
 none,
 none,
 none,
 none,
 none,
 none,
 none,
 none,
 none,
 none,
 none,
 some ⟨7,88,.struct [(0,4),(1,37),(4,3),(5,55),(6,9)],[.bool false,.str [],.str [],.str [],.int .i64 0,.int .i64 0,.str []],[.bool,.str,.str,.str,.int .i64,.int .i64,.str],[.bool,.str,.str,.str,.int .i64,.int .i64,.str]⟩,
 some ⟨7,88,.struct [(0,4),(1,37),(4,3),(5,55),(6,9)],[.bool false,.str [],.str [],.str [],.int .i64 0,.int .i64 0,.str []],[.bool,.str,.str,.str,.int .i64,.int .i64,.str],[.bool,.str,.str,.str,.int .i64,.int .i64,.str]⟩,
 none,
 none,
 none,
 none,
 none,
 none,
 none,
 none,
 none,
 none,
 none,
 none,
 none,
 none,
 none,
 none,
 some ⟨4,56,.struct [(0,37),(3,3)],[.str [],.str [],.str [],.int .i64 0],[.str,.str,.str,.int .i64],[.str,.str,.str,.int .i64]⟩,
 some ⟨4,56,.struct [(0,37),(3,3)],[.str [],.str [],.str [],.int .i64 0],[.str,.str,.str,.int .i64],[.str,.str,.str,.int .i64]⟩,
 none,
 none,
 none,
 some ⟨10,160,.arr 10 9 false,[.str [],.str [],.str [],.str [],.str [],.str [],.str [],.str [],.str [],.str []],[.str,.str,.str,.str,.str,.str,.str,.str,.str,.str],[]⟩,
 none,
 some ⟨3,40,.struct [(0,3),(1,47),(2,22)],[.int .i64 0,.int .u64 0,.nils],[.int .i64,.int .u64,.bsl],[]⟩,
 some ⟨3,40,.struct [(0,3),(1,47),(2,22)],[.int .i64 0,.int .u64 0,.nils],[.int .i64,.int .u64,.bsl],[]⟩,
 none,
 none,
 none,
 none,
 none,
 none,
 none,
 none,
 none,
 none,
 none,
 none,
 some ⟨1,24,.slice 22 false,[.nils],[.sl 1],[]⟩,
 some ⟨4,4,.arr 4 5 true,[.u8 0,.u8 0,.u8 0,.u8 0],[.u8,.u8,.u8,.u8],[]⟩,
 some ⟨1,8,.ptr 9,[.nilp],[.ptr],[]⟩,
 some ⟨1,24,.slice 225 false,[.nils],[.sl 1],[]⟩,
 none,
 some ⟨4,40,.struct [(0,17),(1,17),(2,17),(3,9)],[.nilp,.nilp,.nilp,.str []],[.ptr,.ptr,.ptr,.str],[]⟩,
 none,
 some ⟨0,0,.arr 0 16 false,[],[],[]⟩,
 none,
 none,
 some ⟨1,1,.u8,[.u8 0],[.u8],[.u8]⟩,
 some ⟨1,1,.u8,[.u8 0],[.u8],[.u8]⟩,
 none,
 some ⟨1,8,.ptr 5,[.nilp],[.ptr],[]⟩,
 some ⟨1,4,.int .i32,[.int .i32 0],[.int .i32],[.int .i32]⟩,
 some ⟨1,4,.int .i32,[.int .i32 0],[.int .i32],[.int .i32]⟩,
 none,
 none,
 none]
def keepT:List (Nat×Nat×List Keep):=[(5,4,[.val 3 30,.rowL 4 64 4 false,.val 5 3]),
 (5,8,[.val 3 30,.rowL 4 64 4 false,.val 5 3,.val 6 4,.val 7 3]),
 (6,4,[.val 0 5,.val 1 5,.val 2 5,.cells 6 [.str,.sl 9],.ptr 6 6 0,.cellsR 7 [.imm (.str),.own 20701 67 9 false],.ptr 7 7 0,.val 8 65,.val 9 3]),
 (6,3000008,[.val 0 5,.val 1 5,.val 2 5,.cells 6 [.str,.sl 9],.ptr 6 6 0,.cellsR 7 [.imm (.str),.own 20701 67 9 false],.ptr 7 7 0,.val 8 65,.val 9 3,.cells 10 [.str,.str,.int .u64,.int .i64,.int .i64,.int .i64,.int .i64,.int .i64,.int .i64],.ptr 10 10 0]),
 (6,3000010,[.val 0 5,.val 1 5,.val 2 5,.cells 6 [.str,.sl 9],.ptr 6 6 0,.cellsR 7 [.imm (.str),.own 20701 67 9 false],.ptr 7 7 0,.val 8 65,.val 9 3,.cells 10 [.str,.str,.int .u64,.int .i64,.int .i64,.int .i64,.int .i64,.int .i64,.int .i64],.ptr 10 10 0]),
 (16,9,[.cells 2 [.str,.sl 9],.ptr 2 2 0,.rowL 5 70 5 false,.val 45 30,.val 46 3,.val 47 3]),
 (17,3,[.cells 7 [.bsl,.int .i64],.ptr 3 7 0,.rowL 4 64 4 false]),
 (20,1000038,[.val 0 3]),
 (20,1000042,[.val 0 3]),
 (27,2,[.cells 2 [.str,.str,.str,.sl 5,.int .i64,.int .i64,.sl 5,.int .i64],.ptr 2 2 0,.cells 3 [.bool,.bool,.int .i64,.str,.bsl,.bsl],.ptr 3 3 0,.cells 4 [.str,.str,.str],.ptr 4 4 0,.val 10 38,.val 11 3,.val 12 3]),
 (29,5,[.val 1 148,.val 4 4,.val 5 55,.val 6 3,.val 7 4,.val 9 3]),
 (36,3000003,[.val 2 47,.val 3 3,.cells 4 [.u8,.u8,.u8,.u8,.bool,.bool,.bool,.u8,.u8,.u8,.u8,.u8,.u8,.int .u32,.u8,.u8,.u8,.int .u16,.int .u16],.ptr 4 4 0,.cells 5 [.str,.str,.str],.ptr 5 5 0,.cells 8 [.bool,.bool,.int .i64,.str,.bsl,.bsl],.ptr 8 8 0,.cells 9 [.bool,.str,.str,.str,.int .i64,.int .u64,.int .i64,.int .i64,.str,.str],.ptr 9 9 0]),
 (36,3000006,[.val 2 47,.val 3 3,.cells 4 [.u8,.u8,.u8,.u8,.bool,.bool,.bool,.u8,.u8,.u8,.u8,.u8,.u8,.int .u32,.u8,.u8,.u8,.int .u16,.int .u16],.ptr 4 4 0,.cells 5 [.str,.str,.str],.ptr 5 5 0,.cells 8 [.bool,.bool,.int .i64,.str,.bsl,.bsl],.ptr 8 8 0,.cells 9 [.bool,.str,.str,.str,.int .i64,.int .u64,.int .i64,.int .i64,.str,.str],.ptr 9 9 0,.cells 10 [.str,.str,.str,.int .i64,.int .i64,.int .i64],.ptr 10 10 0]),
 (36,3000011,[.cells 4 [.u8,.u8,.u8,.u8,.bool,.bool,.bool,.u8,.u8,.u8,.u8,.u8,.u8,.int .u32,.u8,.u8,.u8,.int .u16,.int .u16],.ptr 4 4 0,.cells 8 [.bool,.bool,.int .i64,.str,.bsl,.bsl],.ptr 8 8 0,.val 13 22,.cells 15 [.bool,.bool,.int .i64,.str,.bsl,.bsl],.ptr 15 15 0]),
 (36,3000013,[.cells 4 [.u8,.u8,.u8,.u8,.bool,.bool,.bool,.u8,.u8,.u8,.u8,.u8,.u8,.int .u32,.u8,.u8,.u8,.int .u16,.int .u16],.ptr 4 4 0,.cells 8 [.bool,.bool,.int .i64,.str,.bsl,.bsl],.ptr 8 8 0,.cells 15 [.bool,.bool,.int .i64,.str,.bsl,.bsl],.ptr 15 15 0]),
 (36,3000015,[.cells 4 [.u8,.u8,.u8,.u8,.bool,.bool,.bool,.u8,.u8,.u8,.u8,.u8,.u8,.int .u32,.u8,.u8,.u8,.int .u16,.int .u16],.ptr 4 4 0,.cells 8 [.bool,.bool,.int .i64,.str,.bsl,.bsl],.ptr 8 8 0,.cells 15 [.bool,.bool,.int .i64,.str,.bsl,.bsl],.ptr 15 15 0]),
 (36,3000017,[.cells 4 [.u8,.u8,.u8,.u8,.bool,.bool,.bool,.u8,.u8,.u8,.u8,.u8,.u8,.int .u32,.u8,.u8,.u8,.int .u16,.int .u16],.ptr 4 4 0,.cells 8 [.bool,.bool,.int .i64,.str,.bsl,.bsl],.ptr 8 8 0,.cells 15 [.bool,.bool,.int .i64,.str,.bsl,.bsl],.ptr 15 15 0]),
 (36,3000019,[.cells 8 [.bool,.bool,.int .i64,.str,.bsl,.bsl],.ptr 8 8 0,.cells 15 [.bool,.bool,.int .i64,.str,.bsl,.bsl],.ptr 15 15 0]),
 (39,3,[.val 1 9,.val 2 9,.val 6 3,.val 7 55,.val 8 3,.val 9 4,.val 13 32,.val 14 3,.val 15 3]),
 (54,13,[.cells 4 [.int .i64,.int .i64,.sl 5],.ptr 4 4 0,.cells 5 [.str,.str,.str,.int .i64,.int .i64],.ptr 5 5 0,.cells 8 [.int .i64,.int .i64,.sl 5],.ptr 8 8 0,.cellsR 10 [.imm (.int .i64),.imm (.int .i64),.own 21002 75 5 false],.ptr 10 10 0,.val 60 39,.val 61 3,.val 62 3]),
 (60,1000018,[.val 0 3]),
 (88,2,[.val 0 3,.val 4 4,.val 7 148,.val 8 3,.val 9 3]),
 (90,6,[.val 0 22,.val 1 3,.val 2 3,.val 3 4,.val 12 3,.val 22 3,.val 23 3]),
 (101,4,[.val 0 38,.val 2 55,.val 8 38,.val 9 3,.val 10 3]),
 (102,6,[.cells 1 [.int .i64,.int .i64,.sl 5],.ptr 1 1 0,.val 2 55,.val 22 39,.val 23 3,.val 24 3]),
 (116,3,[.val 0 30,.val 1 9,.val 2 9,.val 8 3,.val 9 4,.val 12 30,.val 13 3,.val 14 3]),
 (124,4,[.val 0 22,.val 1 3,.val 4 9,.val 5 3,.val 6 55,.val 7 3]),
 (125,6,[.val 2 3,.val 3 4,.val 11 22,.val 12 3,.val 14 3,.val 15 3]),
 (127,3,[.val 1 3,.val 2 3,.val 3 4,.rowB 9 5 false,.val 10 3]),
 (129,1000023,[.val 0 3]),
 (131,2,[.val 0 9,.val 1 9,.val 4 4,.val 5 3]),
 (131,7,[.val 0 9,.val 1 9,.val 4 4,.val 5 3,.val 6 3]),
 (137,3,[.val 0 223,.val 3 3,.val 9 223,.val 10 3,.val 11 3]),
 (137,11,[.rowB 6 5 false,.val 25 223,.val 26 3,.val 27 3]),
 (138,2,[.val 0 9,.val 1 9,.val 4 4,.val 7 3,.val 8 3]),
 (139,3,[.val 0 22,.val 1 3,.val 2 3,.val 3 4,.barr 9 false,.ptr 9 9 0,.val 12 3,.val 13 3]),
 (140,2,[.val 0 38,.cells 3 [.str,.str,.str,.int .i64],.ptr 3 3 0,.val 4 3,.val 7 38,.val 8 3,.val 9 3]),
 (142,2,[.cells 3 [.str,.str,.str,.int .i64,.int .i64],.ptr 3 3 0,.val 4 4,.val 7 39,.val 8 3,.val 9 3]),
 (150,4,[.val 0 22,.val 1 3,.cells 4 [.str,.str,.str],.ptr 4 4 0,.val 5 3,.val 6 55,.cells 7 [.str,.str,.str],.ptr 7 7 0,.psl 14 7 [0,1,2],.val 15 3,.val 16 3]),
 (151,5,[.val 4 47,.val 10 22,.val 11 3,.val 12 3]),
 (154,2,[.val 0 3,.val 7 148,.val 8 3,.val 9 3]),
 (156,3,[.val 0 47,.rowB 3 5 false,.val 7 3,.val 8 3]),
 (161,3,[.val 0 47,.rowB 3 5 false,.val 4 3]),
 (162,2,[.rowB 3 5 false])]
def ownT:List Nat:=[21,22,127,162,166,75,76,77,137,139,165,97,98,159]
def rtsT:List (Nat×List Nat):=[(10,[47]),(14,[47]),(20,[22]),(21,[38]),(22,[39]),(24,[37]),(39,[3,55]),(41,[4]),(42,[3]),(49,[4]),(55,[22]),(58,[4]),(64,[3,4,55]),(67,[]),(70,[22,3,55]),(72,[4]),(74,[22]),(83,[4]),(84,[22]),(85,[112]),(88,[4]),(91,[55]),(96,[4]),(103,[4]),(105,[37]),(109,[4]),(111,[9]),(116,[3,4]),(124,[9,3,55]),(127,[22]),(131,[4]),(132,[4]),(133,[4]),(134,[4]),(135,[3]),(141,[203]),(142,[4]),(144,[4]),(145,[4]),(146,[4]),(154,[3]),(156,[22]),(158,[4]),(161,[22]),(162,[22]),(166,[22]),(171,[4]),(172,[47]),(173,[4]),(175,[3]),(176,[4]),(177,[4]),(29,[4,55]),(34,[22]),(38,[9]),(50,[43]),(65,[9]),(73,[22]),(75,[22]),(76,[22]),(77,[22]),(81,[4]),(82,[4]),(86,[3,3,4]),(87,[3,4,55]),(89,[22,3,55]),(90,[3,3,55]),(92,[3]),(107,[4]),(110,[4]),(118,[3]),(125,[3,3,55]),(126,[4]),(136,[22]),(137,[22]),(140,[3]),(155,[3,4]),(163,[4]),(168,[3]),(13,[37]),(15,[37]),(17,[30]),(18,[37]),(30,[37]),(40,[4]),(43,[4,55]),(45,[3,3,55]),(46,[3,3,55]),(47,[9,3,55]),(61,[3]),(66,[3,3,55]),(68,[3,3,55]),(69,[3,3,55]),(71,[4]),(80,[22,55]),(99,[22]),(104,[47,4]),(108,[55]),(119,[3,4]),(129,[22,55]),(139,[22]),(147,[3]),(157,[22]),(165,[22]),(170,[3]),(5,[30]),(6,[34]),(16,[38]),(19,[37]),(31,[3]),(32,[3]),(33,[3]),(35,[22,55]),(37,[22,55]),(44,[77,3]),(53,[55]),(60,[3,4]),(97,[22]),(98,[22]),(122,[22,55]),(138,[4]),(148,[22]),(151,[47,4]),(153,[3,55]),(159,[22]),(160,[55]),(164,[55]),(7,[43]),(11,[54,55]),(94,[4]),(95,[4]),(117,[3,55]),(128,[22,55]),(130,[22,55]),(149,[210,3,55]),(78,[22,55]),(79,[22,55]),(113,[22,4]),(115,[4]),(36,[77]),(59,[47,3,3,3,55]),(93,[22,55]),(100,[4]),(12,[22]),(48,[22,55]),(101,[55]),(102,[55]),(112,[22,55]),(121,[22,55]),(123,[22,55]),(150,[37,3,55]),(169,[55]),(174,[55]),(8,[22]),(23,[79,55]),(51,[55]),(54,[41,55]),(56,[22]),(63,[22,55]),(152,[22,55]),(167,[22,55]),(26,[22,49,4]),(114,[125,55]),(120,[22,55]),(143,[127,55]),(57,[125,55]),(62,[49,144,55]),(106,[127,55]),(27,[37]),(28,[22,49,4]),(52,[125,127,55]),(25,[43,86,55]),(9,[43,22,49,4]),(4,[4]),(3,[4])]
def sp10:Abs.Spec:=fun xs bl=>match xs,bl with
 | [.int .i64 n],[]=>chk (decide (0≤n)&&decide (n≤1000)) (some (.int .u64 (Kerb.session n),[]))
 | _,_=>none
def sp14:Abs.Spec:=fun xs bl=>match xs,bl with
 | [.int .i64 n],[]=>chk (decide (0≤n)&&decide (n≤1000)) (some (.int .u64 (Kerb.long n),[]))
 | _,_=>none
def sp20:Abs.Spec:=fun xs bl=>match xs,bl with
 | [.bs b,.int .u16 how],[]=>chk (decide (b.length≤1000000)&&decide (0≤how)&&decide (how≤65535)) (some (.bs (Kerb.spoil b how),[]))
 | _,_=>none
def sp21:Abs.Spec:=fun xs bl=>match xs,bl with
 | [.sl 5 kls],[]=>chk (decide (kls.length≤1000000)) (some (.ownL kls,[]))
 | _,_=>none
def sp22:Abs.Spec:=fun xs bl=>match xs,bl with
 | [.sl 5 mls],[]=>chk (decide (mls.length≤1000000)) (some (.ownL mls,[]))
 | _,_=>none
def sp24:Abs.Spec:=fun xs bl=>match xs,bl with
 | [.str r,.str t],[]=>some (.agg [.str [107,114,98,116,103,116],.str t,.str r],[])
 | _,_=>none
def sp39:Abs.Spec:=fun xs bl=>match xs,bl with
 | [.agg [.str rl,.sl 9 els],.str n,.str i],[]=>chk (els.all Yn&&decide (els.length≤1000000)) (some (.tup [.int .i64 (Kerb.findEnt (els.map Zv) n i).1,.int .i64 (Kerb.findEnt (els.map Zv) n i).2],[]))
 | _,_=>none
def sp41:Abs.Spec:=fun xs bl=>match xs,bl with
 | [.ptr 0 0],[(0,[.bs l,.int .i64 pos])]=>some (.bool (decide (pos<(l.length:Int))),[[.bs l,.int .i64 pos]])
 | _,_=>none
def sp42:Abs.Spec:=fun xs bl=>match xs,bl with
 | [.ptr 0 0,.int .i64 n],[(0,[.bs l,.int .i64 pos])]=>chk (decide (l.length≤4611686018427387904)&&decide (0≤pos)) (some (.int .i64 (Kerb.next l pos n),[[.bs l,.int .i64 (Kerb.nextPos l pos n)]]))
 | _,_=>none
def sp49:Abs.Spec:=fun xs bl=>match xs,bl with
 | [.bs a,.bs b],[]=>some (.bool (a==b),[])
 | _,_=>none
def sp55:Abs.Spec:=fun xs bl=>match xs,bl with
 | [.bs b],[]=>chk (decide (b.length≤140737488355328)) (some (.bs b,[]))
 | _,_=>none
def sp58:Abs.Spec:=fun xs bl=>match xs,bl with
 | [.agg [.str x,.str y,.str z]],[]=>some (.bool (x==Kerb.krbtgt),[])
 | _,_=>none
def sp64:Abs.Spec:=fun xs bl=>match xs,bl with
 | [.bs b],[]=>some (.tup [.int .i64 (Yh b).kind,.bool (Yh b).little,.int .i64 (Yh b).err],[])
 | _,_=>none
def sp67:Abs.Spec:=fun xs bl=>match xs,bl with
 | [.ptr 0 0,.int .i64 nx,.int .i64 e],[(0,[.bs B,.int .i64 at_,.bool li,.bool bad])]=>some (.tup [],[[.bs B,.int .i64 (cond (bad || !(e==0)) at_ nx),.bool li,.bool (bad || !(e==0))]])
 | _,_=>none
def sp70:Abs.Spec:=fun xs bl=>match xs,bl with
 | [.bs b,.int .i64 pos,.int .i64 n],[]=>chk (decide (b.length≤140737488355328)) (some (.tup [.bs (Yp b pos n).val,.int .i64 (Yp b pos n).next,.int .i64 (Yp b pos n).err],[]))
 | _,_=>none
def sp72:Abs.Spec:=fun xs bl=>match xs,bl with
 | [.int .i64 n,.int .i64 m],[]=>some (.bool (Yu n m),[])
 | _,_=>none
def sp74:Abs.Spec:=fun xs bl=>match xs,bl with
 | [.int .i64 k,.bool little],[]=>some (.bs (Kerb.header k little),[])
 | _,_=>none
def sp83:Abs.Spec:=fun xs bl=>match xs,bl with
 | [.int .i64 n,.int .i64 m],[]=>some (.bool (Yu n m),[])
 | _,_=>none
def sp84:Abs.Spec:=fun xs bl=>match xs,bl with
 | [.bs b,.str s],[]=>chk (decide (b.length+s.length≤70368744177664)) (some (.bs (Kerb.putText b s),[]))
 | _,_=>none
def sp85:Abs.Spec:=fun xs bl=>match xs,bl with
 | [],[]=>some (.sl 1 [.str [65,84,72],.str [66,79,83],.str [67,65,77]],[])
 | _,_=>none
def sp88:Abs.Spec:=fun xs bl=>match xs,bl with
 | [.int .i64 k,.sl 1 els],[]=>chk (allInts els&&decide (els.length≤1000)) (some (.bool ((intsIn els).contains k),[]))
 | _,_=>none
def sp91:Abs.Spec:=fun xs bl=>match xs,bl with
 | [.bs b,.int .i64 pos,.int .i64 n],[]=>chk (decide (b.length≤4611686018427387904)) (some (.int .i64 (Kerb.room b pos n),[]))
 | _,_=>none
def sp96:Abs.Spec:=fun xs bl=>match xs,bl with
 | [.int .i64 n,.int .i64 m],[]=>some (.bool (Yu n m),[])
 | _,_=>none
def sp103:Abs.Spec:=fun xs bl=>match xs,bl with
 | [.int .i64 n],[]=>some (.bool (Yu n 4294967295),[])
 | _,_=>none
def sp105:Abs.Spec:=fun xs bl=>match xs,bl with
 | [.agg [.bool ali,.str b1,.str b2,.str b3,.int .i64 aad,.int .u64 ak,.int .i64 alf,.int .i64 ais,.str asv,.str ain],.str rl],[]=>some (.agg [.str asv,.str ain,.str rl],[])
 | _,_=>none
def sp109:Abs.Spec:=fun xs bl=>match xs,bl with
 | [.int .i64 n,.int .i64 l,.int .i64 m],[]=>some (.bool (decide (l≤n)&&decide (n≤m)),[])
 | _,_=>none
def sp111:Abs.Spec:=fun xs bl=>match xs,bl with
 | [.int .i64 code],[]=>some (.str (Kerb.message code),[])
 | _,_=>none
def sp116:Abs.Spec:=fun xs bl=>match xs,bl with
 | [.sl 4 xls,.str a,.str b],[]=>chk (xls.all Xw&&decide (xls.length≤1000000)) (some (.tup [.int .i64 (Kerb.findCross (xls.map Zu) a b).1,.bool (Kerb.findCross (xls.map Zu) a b).2],[]))
 | _,_=>none
def sp124:Abs.Spec:=fun xs bl=>match xs,bl with
 | [.bs b,.int .i64 pos],[]=>chk (decide (b.length≤140737488355328)) (some (.tup [.str (Yg b pos).val,.int .i64 (Yg b pos).next,.int .i64 (Yg b pos).err],[]))
 | _,_=>none
def sp127:Abs.Spec:=fun xs bl=>match xs,bl with
 | [.bs b,.int .i64 n,.int .i64 k,.bool little],[]=>chk (decide (k=1∨k=2∨k=4)&&decide (b.length≤70368744177664)) (some (.ownB (b++Ym n k.toNat little),[]))
 | _,_=>none
def sp131:Abs.Spec:=fun xs bl=>match xs,bl with
 | [.str s,.str bad],[]=>chk (decide (s.length≤9223372036854775807)&&decide (bad.length≤100)) (some (.bool (Kerb.printable s bad&&decide (s.length≤39)),[]))
 | _,_=>none
def sp132:Abs.Spec:=fun xs bl=>match xs,bl with
 | [.int .i64 k],[]=>some (.bool (Kerb.isClass k),[])
 | _,_=>none
def sp133:Abs.Spec:=fun xs bl=>match xs,bl with
 | [.int .i64 k],[]=>some (.bool (Kerb.isSerial k),[])
 | _,_=>none
def sp134:Abs.Spec:=fun xs bl=>match xs,bl with
 | [.int .i64 k],[]=>some (.bool (Kerb.isKind k),[])
 | _,_=>none
def sp135:Abs.Spec:=fun xs bl=>match xs,bl with
 | [.bs s,.u8 c],[]=>some (.int .i64 (Kerb.indexOf c s),[])
 | _,_=>none
def sp141:Abs.Spec:=fun xs bl=>match xs,bl with
 | [.agg [.str x,.str y,.str z,.int .i64 v,.int .u64 k]],[]=>some (.agg [.str x,.str y,.str z,.int .i64 v],[])
 | _,_=>none
def sp142:Abs.Spec:=fun xs bl=>match xs,bl with
 | [.sl 5 mls,.agg [.str a1,.str a2,.str a3,.int .i64 at_,.int .i64 atk]],[]=>chk (mls.all Yk&&decide (mls.length≤1000000)) (some (.bool (Kerb.hasMark (mls.map Zx) (Xy ⟨a1,a2,a3⟩ at_ atk)),[]))
 | _,_=>none
def sp144:Abs.Spec:=fun xs bl=>match xs,bl with
 | [.int .i64 n],[]=>some (.bool (Yu n 4294967295),[])
 | _,_=>none
def sp145:Abs.Spec:=fun xs bl=>match xs,bl with
 | [.int .i64 n],[]=>some (.bool (Yu n 255),[])
 | _,_=>none
def sp146:Abs.Spec:=fun xs bl=>match xs,bl with
 | [.int .i64 n,.int .i64 m],[]=>some (.bool (Yu n m),[])
 | _,_=>none
def sp154:Abs.Spec:=fun xs bl=>match xs,bl with
 | [.int .i64 n,.sl 1 els],[]=>chk (allInts els&&decide (els.length≤1000000)) (some (.int .i64 (Kerb.least n (intsIn els)),[]))
 | _,_=>none
def sp156:Abs.Spec:=fun xs bl=>match xs,bl with
 | [.int .u64 k],[]=>chk (decide (0≤k)&&decide (k<18446744073709551616)) (some (.bs (Kerb.keyBytes k),[]))
 | _,_=>none
def sp158:Abs.Spec:=fun xs bl=>match xs,bl with
 | [.int .i64 k],[]=>some (.bool (Kerb.isKind k),[])
 | _,_=>none
def sp161:Abs.Spec:=fun xs bl=>match xs,bl with
 | [.int .u64 k],[]=>chk (decide (0≤k)&&decide (k<18446744073709551616)) (some (.bs (Kerb.keyBytes k),[]))
 | _,_=>none
def sp162:Abs.Spec:=fun xs bl=>match xs,bl with
 | [.bs b],[]=>chk (decide (b.length≤70368744177664)) (some (.ownB (Kerb.pad b),[]))
 | _,_=>none
def sp166:Abs.Spec:=fun xs bl=>match xs,bl with
 | [.nils,.int .i64 n],[]=>chk (decide (0≤n)&&decide (n≤140737488355328)) (some (.ownB [],[]))
 | _,_=>none
def sp171:Abs.Spec:=fun xs bl=>match xs,bl with
 | [.int .i64 n,.int .i64 m],[]=>some (.bool (Yu n m),[])
 | _,_=>none
def sp172:Abs.Spec:=fun xs bl=>match xs,bl with
 | [.int .i64 c,.int .i64 n],[]=>some (.int .u64 (cond (Kerb.isClass c&&Kerb.isSerial n) (c*72057594037927936+n) 0),[])
 | _,_=>none
def sp173:Abs.Spec:=fun xs bl=>match xs,bl with
 | [.int .i64 n,.int .i64 m],[]=>some (.bool (Yu n m),[])
 | _,_=>none
def sp175:Abs.Spec:=fun xs bl=>match xs,bl with
 | [.str s,.u8 c],[]=>some (.int .i64 (Kerb.indexOf c s),[])
 | _,_=>none
def sp176:Abs.Spec:=fun xs bl=>match xs,bl with
 | [.int .i64 n,.int .i64 m],[]=>some (.bool (Yu n m),[])
 | _,_=>none
def sp177:Abs.Spec:=fun xs bl=>match xs,bl with
 | [.int .i64 n,.int .i64 m],[]=>some (.bool (Yu n m),[])
 | _,_=>none
def sp29:Abs.Spec:=fun xs bl=>match xs,bl with
 | [.bs b,.sl 1 els],[]=>chk (allInts els&&decide (els.length≤1000)) (some (.tup [.bool (Kerb.headIs b (intsIn els)).1,.int .i64 (Kerb.headIs b (intsIn els)).2],[]))
 | _,_=>none
def sp34:Abs.Spec:=fun xs bl=>match xs,bl with
 | [.ptr 0 0,.int .i64 n],[(0,[.bs B,.int .i64 at_,.bool li,.bool bad])]=>chk (decide (B.length≤140737488355328)) (some (.bs (Yp B at_ n).val,[[.bs B,.int .i64 (cond (bad || !((Yp B at_ n).err==0)) at_ (Yp B at_ n).next),.bool li,.bool (bad || !((Yp B at_ n).err==0))]]))
 | _,_=>none
def sp38:Abs.Spec:=fun xs bl=>match xs,bl with
 | [.int .i64 n],[]=>chk (decide (0≤n)) (some (.str (Kerb.realm n),[]))
 | _,_=>none
def sp50:Abs.Spec:=fun xs bl=>match xs,bl with
 | [.agg [.str m1,.str m2,.str m3,.sl 5 kls,.int .i64 sz,.int .i64 fl,.sl 5 mls,.int .i64 sk]],[]=>chk (decide (kls.length≤1000000)&&decide (mls.length≤1000000)) (some (.agg [.str m1,.str m2,.str m3,.sl 5 kls,.int .i64 sz,.int .i64 fl,.sl 5 mls,.int .i64 sk],[]))
 | _,_=>none
def sp65:Abs.Spec:=fun xs bl=>match xs,bl with
 | [.ptr 0 0],[(0,[.bs B,.int .i64 at_,.bool li,.bool bad])]=>chk (decide (B.length≤140737488355328)) (some (.str (Yg B at_).val,[[.bs B,.int .i64 (cond (bad || !((Yg B at_).err==0)) at_ (Yg B at_).next),.bool li,.bool (bad || !((Yg B at_).err==0))]]))
 | _,_=>none
def sp73:Abs.Spec:=fun xs bl=>match xs,bl with
 | [.bs b,.agg [.str x,.str y,.str z]],[]=>chk (decide (b.length+x.length+y.length+z.length≤70368744170000)) (some (.bs (Kerb.putPrin b ⟨x,y,z⟩),[]))
 | _,_=>none
def sp75:Abs.Spec:=fun xs bl=>match xs,bl with
 | [.bs b,.int .i64 n],[]=>chk (decide (b.length≤70368744177664)) (some (.ownB (b++Ym n 1 false),[]))
 | _,_=>none
def sp76:Abs.Spec:=fun xs bl=>match xs,bl with
 | [.bs b,.int .i64 n,.bool little],[]=>chk (decide (b.length≤70368744177664)) (some (.ownB (b++Ym n 4 little),[]))
 | _,_=>none
def sp77:Abs.Spec:=fun xs bl=>match xs,bl with
 | [.bs b,.int .i64 n,.bool little],[]=>chk (decide (b.length≤70368744177664)) (some (.ownB (b++Ym n 2 little),[]))
 | _,_=>none
def sp81:Abs.Spec:=fun xs bl=>match xs,bl with
 | [.str s],[]=>chk (decide (s.length≤9223372036854775807)) (some (.bool (Kerb.validName s),[]))
 | _,_=>none
def sp82:Abs.Spec:=fun xs bl=>match xs,bl with
 | [.str s],[]=>chk (decide (s.length≤9223372036854775807)) (some (.bool (Kerb.validInst s),[]))
 | _,_=>none
def sp86:Abs.Spec:=fun xs bl=>match xs,bl with
 | [.int .u64 k],[]=>chk (decide (0≤k)&&decide (k<18446744073709551616)) (some (.tup [.int .i64 (cond (Xu k) (Kerb.keyClass k) 0),.int .i64 (cond (Xu k) (Kerb.keySerial k) 0),.bool (Xu k)],[]))
 | _,_=>none
def sp87:Abs.Spec:=fun xs bl=>match xs,bl with
 | [.bs b],[]=>some (.tup [.int .i64 (Yh b).kind,.bool (Yh b).little,.int .i64 (Yh b).err],[])
 | _,_=>none
def sp89:Abs.Spec:=fun xs bl=>match xs,bl with
 | [.bs b,.int .i64 pos,.int .i64 n],[]=>chk (decide (b.length≤140737488355328)) (some (.tup [.bs (Yp b pos n).val,.int .i64 (Yp b pos n).next,.int .i64 (Yp b pos n).err],[]))
 | _,_=>none
def sp90:Abs.Spec:=fun xs bl=>match xs,bl with
 | [.bs b,.int .i64 pos,.int .i64 k,.bool little],[]=>chk (decide (b.length≤4611686018427387904)&&decide (0≤k)&&decide (k≤4)) (some (.tup [.int .i64 (Zf b pos k little).val,.int .i64 (Zf b pos k little).next,.int .i64 (Zf b pos k little).err],[]))
 | _,_=>none
def sp92:Abs.Spec:=fun xs bl=>match xs,bl with
 | [.bs s,.u8 c],[]=>some (.int .i64 (Kerb.indexOf c s),[])
 | _,_=>none
def sp107:Abs.Spec:=fun xs bl=>match xs,bl with
 | [.int .i64 a,.int .i64 b,.int .i64 s],[]=>some (.bool (Kerb.near a b s),[])
 | _,_=>none
def sp110:Abs.Spec:=fun xs bl=>match xs,bl with
 | [.agg [.int .i64 sz,.int .i64 fl,.sl 5 mls],.agg [.str a1,.str a2,.str a3,.int .i64 at_,.int .i64 atk]],[]=>chk (mls.all Yk&&decide (mls.length≤1000000)) (some (.bool (Kerb.hasMark (mls.map Zx) (Xy ⟨a1,a2,a3⟩ at_ atk)),[]))
 | _,_=>none
def sp118:Abs.Spec:=fun xs bl=>match xs,bl with
 | [.int .i64 i,.int .i64 l],[]=>some (.int .i64 (Kerb.tEnd i l),[])
 | _,_=>none
def sp125:Abs.Spec:=fun xs bl=>match xs,bl with
 | [.bs b,.int .i64 pos,.int .i64 k,.bool little],[]=>chk (decide (b.length≤140737488355328)&&decide (0≤k)&&decide (k≤4)) (some (.tup [.int .i64 (Zf b pos k little).val,.int .i64 (Zf b pos k little).next,.int .i64 (Zf b pos k little).err],[]))
 | _,_=>none
def sp126:Abs.Spec:=fun xs bl=>match xs,bl with
 | [.str s],[]=>chk (decide (s.length≤9223372036854775807)) (some (.bool (Kerb.validRealm s),[]))
 | _,_=>none
def sp136:Abs.Spec:=fun xs bl=>match xs,bl with
 | [.int .i64 k,.bool little],[]=>some (.bs (Kerb.header k little),[])
 | _,_=>none
def sp137:Abs.Spec:=fun xs bl=>match xs,bl with
 | [.sl 1 els],[]=>chk (allB els&&decide ((catB els).length≤140737488355328)&&decide (els.length≤1000)) (some (.ownB (catB els),[]))
 | _,_=>none
def sp140:Abs.Spec:=fun xs bl=>match xs,bl with
 | [.sl 5 kls,.agg [.str x,.str y,.str z,.int .i64 v]],[]=>chk (kls.all Yb&&decide (kls.length≤1000000)) (some (.int .i64 ((Kerb.skAt (kls.map Zw) ⟨x,y,z⟩ v:Nat):Int),[]))
 | _,_=>none
def sp155:Abs.Spec:=fun xs bl=>match xs,bl with
 | [.int .i64 n],[]=>chk (decide (-9223372036854775808≤n)&&decide (n≤9223372036854775807)) (some (.tup [.int .i64 (cond (decide (n<300)) 0 (Kerb.fromSec n)),.bool (!decide (n<300))],[]))
 | _,_=>none
def sp163:Abs.Spec:=fun xs bl=>match xs,bl with
 | [.int .u64 k],[]=>chk (decide (0≤k)&&decide (k<18446744073709551616)) (some (.bool (Xu k),[]))
 | _,_=>none
def sp168:Abs.Spec:=fun xs bl=>match xs,bl with
 | [.str s,.u8 c],[]=>some (.int .i64 (Kerb.indexOf c s),[])
 | _,_=>none
def sp13:Abs.Spec:=fun xs bl=>match xs,bl with
 | [.int .i64 n,.int .i64 m],[]=>chk (decide (0≤n)&&decide (0≤m)) (some (.agg [.str Kerb.krbtgt,.str (Kerb.realm m),.str (Kerb.realm n)],[]))
 | _,_=>none
def sp15:Abs.Spec:=fun xs bl=>match xs,bl with
 | [.int .i64 n],[]=>chk (decide (0≤n)&&decide (n≤4611686018427387904)) (some (.agg [.str (Kerb.service n).name,.str (Kerb.service n).inst,.str (Kerb.service n).realm],[]))
 | _,_=>none
def sp17:Abs.Spec:=fun xs bl=>match xs,bl with
 | [.bs l],[]=>chk (decide (l.length≤100000)) (some (.sl 4 ((Kerb.dataCross l).map Kerb.Cross.av),[]))
 | _,_=>none
def sp18:Abs.Spec:=fun xs bl=>match xs,bl with
 | [.int .i64 n],[]=>chk (decide (0≤n)&&decide (n≤4611686018427387904)) (some (.agg [.str (Kerb.user n).name,.str (Kerb.user n).inst,.str (Kerb.user n).realm],[]))
 | _,_=>none
def sp30:Abs.Spec:=fun xs bl=>match xs,bl with
 | [.ptr 0 0],[(0,[.bs B,.int .i64 at_,.bool li,.bool bad])]=>chk (decide (B.length≤140737488355328)) (some (.agg [.str (Kerb.rdPrin B at_ bad).p.name,.str (Kerb.rdPrin B at_ bad).p.inst,.str (Kerb.rdPrin B at_ bad).p.realm],[[.bs B,.int .i64 (Kerb.rdPrin B at_ bad).pos,.bool li,.bool (Kerb.rdPrin B at_ bad).bad]]))
 | _,_=>none
def sp40:Abs.Spec:=fun xs bl=>match xs,bl with
 | [.int .u64 k],[]=>chk (decide (0≤k)&&decide (k<18446744073709551616)) (some (.bool (Xu k),[]))
 | _,_=>none
def sp43:Abs.Spec:=fun xs bl=>match xs,bl with
 | [.bs b,.sl 1 els],[]=>chk (allInts els&&decide (els.length≤1000)) (some (.tup [.bool (Kerb.headIs b (intsIn els)).1,.int .i64 (Kerb.headIs b (intsIn els)).2],[]))
 | _,_=>none
def sp45:Abs.Spec:=fun xs bl=>match xs,bl with
 | [.bs b,.int .i64 pos,.bool little],[]=>chk (decide (b.length≤4611686018427387904)) (some (.tup [.int .i64 (Zf b pos 4 little).val,.int .i64 (Zf b pos 4 little).next,.int .i64 (Zf b pos 4 little).err],[]))
 | _,_=>none
def sp46:Abs.Spec:=fun xs bl=>match xs,bl with
 | [.bs b,.int .i64 pos],[]=>chk (decide (b.length≤4611686018427387904)) (some (.tup [.int .i64 (Zf b pos 1 false).val,.int .i64 (Zf b pos 1 false).next,.int .i64 (Zf b pos 1 false).err],[]))
 | _,_=>none
def sp47:Abs.Spec:=fun xs bl=>match xs,bl with
 | [.bs b,.int .i64 pos],[]=>chk (decide (b.length≤4611686018427387904)) (some (.tup [.str (Yg b pos).val,.int .i64 (Yg b pos).next,.int .i64 (Yg b pos).err],[]))
 | _,_=>none
def sp61:Abs.Spec:=fun xs bl=>match xs,bl with
 | [.int .u64 k],[]=>chk (decide (0≤k)&&decide (k<18446744073709551616)) (some (.int .i64 (Kerb.classOf k),[]))
 | _,_=>none
def sp66:Abs.Spec:=fun xs bl=>match xs,bl with
 | [.bs b,.int .i64 pos,.bool little],[]=>chk (decide (b.length≤140737488355328)) (some (.tup [.int .i64 (Zf b pos 4 little).val,.int .i64 (Zf b pos 4 little).next,.int .i64 (Zf b pos 4 little).err],[]))
 | _,_=>none
def sp68:Abs.Spec:=fun xs bl=>match xs,bl with
 | [.bs b,.int .i64 pos],[]=>chk (decide (b.length≤140737488355328)) (some (.tup [.int .i64 (Zf b pos 1 false).val,.int .i64 (Zf b pos 1 false).next,.int .i64 (Zf b pos 1 false).err],[]))
 | _,_=>none
def sp69:Abs.Spec:=fun xs bl=>match xs,bl with
 | [.bs b,.int .i64 pos,.bool little],[]=>chk (decide (b.length≤140737488355328)) (some (.tup [.int .i64 (Zf b pos 2 little).val,.int .i64 (Zf b pos 2 little).next,.int .i64 (Zf b pos 2 little).err],[]))
 | _,_=>none
def sp71:Abs.Spec:=fun xs bl=>match xs,bl with
 | [.agg [.str a,.str b,.str c]],[]=>chk (decide (a.length≤9223372036854775807)&&decide (b.length≤9223372036854775807)&&decide (c.length≤9223372036854775807)) (some (.bool (Kerb.Prin.valid ⟨a,b,c⟩),[]))
 | _,_=>none
def sp80:Abs.Spec:=fun xs bl=>match xs,bl with
 | [.agg [.bool li,.bool mu,.int .i64 kv,.str rl,.bs tk,.bs au]],[]=>chk (decide (rl.length≤9223372036854775807)) (some (.tup [.bs (Kerb.encodeAp (Zz li mu kv rl tk au)).val,.int .i64 (Kerb.encodeAp (Zz li mu kv rl tk au)).err],[]))
 | _,_=>none
def sp99:Abs.Spec:=fun xs bl=>match xs,bl with
 | [.bs b,.str s],[]=>chk (decide (b.length+s.length≤70368744177664)) (some (.bs (Kerb.putText b s),[]))
 | _,_=>none
def sp104:Abs.Spec:=fun xs bl=>match xs,bl with
 | [.sl 5 kls,.agg [.str x,.str y,.str z],.int .i64 v],[]=>chk (kls.all Yb&&decide (kls.length≤1000000)) (some (.tup [.int .u64 (Kerb.skFind (kls.map Zw) ⟨x,y,z⟩ v).1,.bool (Kerb.skFind (kls.map Zw) ⟨x,y,z⟩ v).2],[]))
 | _,_=>none
def sp108:Abs.Spec:=fun xs bl=>match xs,bl with
 | [.int .i64 i,.int .i64 l,.int .i64 n,.int .i64 s],[]=>some (.int .i64 (Kerb.stateErr i l n s),[])
 | _,_=>none
def sp119:Abs.Spec:=fun xs bl=>match xs,bl with
 | [.int .i64 n,.int .i64 w,.sl 1 els],[]=>chk (allInts els&&decide (els.length≤1000000)&&(intsIn els).all Kerb.isI64) (some (.tup [.int .i64 (Kerb.grantLife n w (intsIn els)).1,.bool (Kerb.grantLife n w (intsIn els)).2],[]))
 | _,_=>none
def sp129:Abs.Spec:=fun xs bl=>match xs,bl with
 | [.int .i64 kd,.int .u64 k,.bs bd],[]=>chk (decide (0≤k)&&decide (k<18446744073709551616)) (some (.tup [.bs (Kerb.makeBox kd k bd).val,.int .i64 (Kerb.makeBox kd k bd).err],[]))
 | _,_=>none
def sp139:Abs.Spec:=fun xs bl=>match xs,bl with
 | [.bs b,.int .i64 n,.int .i64 k,.bool little],[]=>chk (decide (k=1∨k=2∨k=4)&&decide (b.length≤70368744177664)) (some (.ownB (b++Ym n k.toNat little),[]))
 | _,_=>none
def sp147:Abs.Spec:=fun xs bl=>match xs,bl with
 | [.str s,.u8 c],[]=>some (.int .i64 (Kerb.indexOf c s),[])
 | _,_=>none
def sp157:Abs.Spec:=fun xs bl=>match xs,bl with
 | [.bs b],[]=>chk (decide (b.length≤70368744177664)) (some (.bs (Kerb.pad b),[]))
 | _,_=>none
def sp165:Abs.Spec:=fun xs bl=>match xs,bl with
 | [.bs b,.bool little],[]=>chk (decide (b.length≤70368744177664)) (some (.ownB (b++Ym (cond little 1 0) 1 false),[]))
 | _,_=>none
def sp170:Abs.Spec:=fun xs bl=>match xs,bl with
 | [.int .u64 k],[]=>chk (decide (0≤k)&&decide (k<18446744073709551616)) (some (.int .i64 (Kerb.classOf k),[]))
 | _,_=>none
def sp5:Abs.Spec:=fun xs bl=>match xs,bl with
 | [.bs l],[]=>chk (decide (l.length≤100000)) (some (.sl 4 ((Kerb.goodCross l).map Kerb.Cross.av),[]))
 | _,_=>none
def sp6:Abs.Spec:=fun xs bl=>match xs,bl with
 | [.u8 lf,.u8 xp,.u8 bd],[]=>some (.agg [.str (Kerb.simpleDb lf xp bd).realm,.sl 9 ((Kerb.simpleDb lf xp bd).entries.map Kerb.Entry.av)],[])
 | _,_=>none
def sp16:Abs.Spec:=fun xs bl=>match xs,bl with
 | [.agg [.str rl,.sl 9 els],.sl 4 xls],[]=>chk (els.all Yn&&decide (els.length≤1000000)&&xls.all Xw&&decide (xls.length≤1000000)&&decide (rl.length≤9223372036854775807)) (some (.sl 5 ((Kerb.grantKeys (Zq rl (els.map Zv)) (xls.map Zu)).map Kerb.SKey.av),[]))
 | _,_=>none
def sp19:Abs.Spec:=fun xs bl=>match xs,bl with
 | [.agg [.u8 cu,.u8 co,.u8 cv,.u8 cr,.bool lt,.bool tn,.bool mt,.u8 cad,.u8 cfr,.u8 cis,.u8 ctm,.u8 ctk,.u8 clf,.int .u32 ccs,.u8 cky,.u8 ckv,.u8 css,.int .u16 ctt,.int .u16 cau]],[]=>some (.agg [.str ((Zb cu co cv cr lt tn mt cad cfr cis ctm ctk clf ccs cky ckv css ctt cau).me).name,.str ((Zb cu co cv cr lt tn mt cad cfr cis ctm ctk clf ccs cky ckv css ctt cau).me).inst,.str ((Zb cu co cv cr lt tn mt cad cfr cis ctm ctk clf ccs cky ckv css ctt cau).me).realm],[])
 | _,_=>none
def sp31:Abs.Spec:=fun xs bl=>match xs,bl with
 | [.ptr 0 0],[(0,[.bs B,.int .i64 at_,.bool li,.bool bad])]=>chk (decide (B.length≤140737488355328)) (some (.int .i64 (Zf B at_ 4 li).val,[[.bs B,.int .i64 (cond (bad || !((Zf B at_ 4 li).err==0)) at_ (Zf B at_ 4 li).next),.bool li,.bool (bad || !((Zf B at_ 4 li).err==0))]]))
 | _,_=>none
def sp32:Abs.Spec:=fun xs bl=>match xs,bl with
 | [.ptr 0 0],[(0,[.bs B,.int .i64 at_,.bool li,.bool bad])]=>chk (decide (B.length≤140737488355328)) (some (.int .i64 (Zf B at_ 1 false).val,[[.bs B,.int .i64 (cond (bad || !((Zf B at_ 1 false).err==0)) at_ (Zf B at_ 1 false).next),.bool li,.bool (bad || !((Zf B at_ 1 false).err==0))]]))
 | _,_=>none
def sp33:Abs.Spec:=fun xs bl=>match xs,bl with
 | [.ptr 0 0],[(0,[.bs B,.int .i64 at_,.bool li,.bool bad])]=>chk (decide (B.length≤140737488355328)) (some (.int .i64 (Zf B at_ 2 li).val,[[.bs B,.int .i64 (cond (bad || !((Zf B at_ 2 li).err==0)) at_ (Zf B at_ 2 li).next),.bool li,.bool (bad || !((Zf B at_ 2 li).err==0))]]))
 | _,_=>none
def sp35:Abs.Spec:=fun xs bl=>match xs,bl with
 | [.agg [.bool li,.str x,.str y,.str z,.int .i64 t,.int .i64 ex,.int .i64 kv,.bs sd]],[]=>chk (decide (x.length≤9223372036854775807)&&decide (y.length≤9223372036854775807)&&decide (z.length≤9223372036854775807)) (some (.tup [.bs (Kerb.encodeReply ⟨li,⟨x,y,z⟩,t,ex,kv,sd⟩).val,.int .i64 (Kerb.encodeReply ⟨li,⟨x,y,z⟩,t,ex,kv,sd⟩).err],[]))
 | _,_=>none
def sp37:Abs.Spec:=fun xs bl=>match xs,bl with
 | [.agg [.bool li,.bool mu,.int .i64 kv,.str rl,.bs tk,.bs au,.int .i64 tm,.int .i64 lf,.str sv,.str ins]],[]=>chk (decide (rl.length≤9223372036854775807)&&decide (sv.length≤9223372036854775807)&&decide (ins.length≤9223372036854775807)) (some (.tup [.bs (Kerb.encodeTgs (Zj (Zz li mu kv rl tk au) tm lf sv ins)).val,.int .i64 (Kerb.encodeTgs (Zj (Zz li mu kv rl tk au) tm lf sv ins)).err],[]))
 | _,_=>none
def sp44:Abs.Spec:=fun xs bl=>match xs,bl with
 | [.bs b],[]=>chk (decide (b.length≤140737488355328)) (some (.tup [.agg [.bool ((Xx b).val).little,.bool ((Xx b).val).mutual_,.int .i64 ((Xx b).val).kvno,.str ((Xx b).val).realm,.bs ((Xx b).val).ticket,.bs ((Xx b).val).auth],.int .i64 (Xx b).next],[]))
 | _,_=>none
def sp53:Abs.Spec:=fun xs bl=>match xs,bl with
 | [.agg [.bool ali,.str b1,.str b2,.str b3,.int .i64 aad,.int .u64 ak,.int .i64 alf,.int .i64 ais,.str asv,.str ain],.agg [.str x,.str y,.str z,.int .i64 ck,.int .i64 tc,.int .i64 tm],.int .i64 src,.int .i64 now,.int .i64 skw],[]=>some (.int .i64 (Kerb.judge (Yx ali ⟨b1,b2,b3⟩ aad ak alf ais asv ain) (Yq ⟨x,y,z⟩ ck tc tm) src now skw),[])
 | _,_=>none
def sp60:Abs.Spec:=fun xs bl=>match xs,bl with
 | [.agg [.str rl,.sl 9 els,.sl 4 xls,.int .i64 now,.bool li,.int .u64 se],.int .i64 wn,.int .i64 mo,.int .i64 xp,.agg [.str cx,.str cy,.str cz,.int .u64 ck2,.int .i64 cad,.int .i64 ccs,.int .i64 ctm,.int .i64 ctc,.int .i64 cis,.int .i64 clf,.bs ctk,.bs cau]],[]=>chk (Kerb.isI64 xp) (some (.tup [.int .i64 (Kerb.tgsLife now wn mo xp cis clf).1,.bool (Kerb.tgsLife now wn mo xp cis clf).2],[]))
 | _,_=>none
def sp97:Abs.Spec:=fun xs bl=>match xs,bl with
 | [.bs b,.int .i64 n,.bool little],[]=>chk (decide (b.length≤70368744177664)) (some (.ownB (b++Ym n 4 little),[]))
 | _,_=>none
def sp98:Abs.Spec:=fun xs bl=>match xs,bl with
 | [.bs b,.int .i64 n],[]=>chk (decide (b.length≤70368744177664)) (some (.ownB (b++Ym n 1 false),[]))
 | _,_=>none
def sp122:Abs.Spec:=fun xs bl=>match xs,bl with
 | [.int .i64 kd,.int .u64 k,.bs bd],[]=>chk (decide (0≤k)&&decide (k<18446744073709551616)) (some (.tup [.bs (Kerb.makeBox kd k bd).val,.int .i64 (Kerb.makeBox kd k bd).err],[]))
 | _,_=>none
def sp138:Abs.Spec:=fun xs bl=>match xs,bl with
 | [.str s,.str bad],[]=>chk (decide (s.length≤9223372036854775807)) (some (.bool (Kerb.printable s bad),[]))
 | _,_=>none
def sp148:Abs.Spec:=fun xs bl=>match xs,bl with
 | [.bs b,.agg [.str x,.str y,.str z]],[]=>chk (decide (b.length+x.length+y.length+z.length≤70368744170000)) (some (.bs (Kerb.putPrin b ⟨x,y,z⟩),[]))
 | _,_=>none
def sp151:Abs.Spec:=fun xs bl=>match xs,bl with
 | [.bs b],[]=>chk (decide (b.length≤4611686018427387904)) (some (.tup [.int .u64 (Kerb.keyRead b).1,.bool (Kerb.keyRead b).2],[]))
 | _,_=>none
def sp153:Abs.Spec:=fun xs bl=>match xs,bl with
 | [.agg [.str rl,.sl 9 els],.str n,.str i,.int .i64 now,.int .i64 bit,.int .i64 xp,.int .i64 br],[]=>chk (els.all Yn&&decide (els.length≤1000000)) (some (.tup [.int .i64 (Kerb.useEnt (Zq rl (els.map Zv)) n i now bit xp br).1,.int .i64 (Kerb.useEnt (Zq rl (els.map Zv)) n i now bit xp br).2],[]))
 | _,_=>none
def sp159:Abs.Spec:=fun xs bl=>match xs,bl with
 | [.bs b,.int .i64 n,.bool little],[]=>chk (decide (b.length≤70368744177664)) (some (.ownB (b++Ym n 2 little),[]))
 | _,_=>none
def sp160:Abs.Spec:=fun xs bl=>match xs,bl with
 | [.agg [.bool li,.str x,.str y,.str z,.int .i64 ad,.int .u64 k,.int .i64 lf,.int .i64 iss,.str sv,.str ins]],[]=>chk (decide (x.length≤9223372036854775807)&&decide (y.length≤9223372036854775807)&&decide (z.length≤9223372036854775807)&&decide (sv.length≤9223372036854775807)&&decide (ins.length≤9223372036854775807)&&decide (0≤k)&&decide (k<18446744073709551616)) (some (.int .i64 (Yx li ⟨x,y,z⟩ ad k lf iss sv ins).err,[]))
 | _,_=>none
def sp164:Abs.Spec:=fun xs bl=>match xs,bl with
 | [.agg [.str x,.str y,.str z,.int .i64 ck,.int .i64 tc,.int .i64 tm]],[]=>chk (decide (x.length≤9223372036854775807)&&decide (y.length≤9223372036854775807)&&decide (z.length≤9223372036854775807)) (some (.int .i64 (Yq ⟨x,y,z⟩ ck tc tm).check,[]))
 | _,_=>none
def sp7:Abs.Spec:=fun xs bl=>match xs,bl with
 | [.agg [.u8 cu,.u8 co,.u8 cv,.u8 cr,.bool lt,.bool tn,.bool mt,.u8 cad,.u8 cfr,.u8 cis,.u8 ctm,.u8 ctk,.u8 clf,.int .u32 ccs,.u8 cky,.u8 ckv,.u8 css,.int .u16 ctt,.int .u16 cau],.u8 sz,.u8 sk],[]=>some (.agg [.str (((Zb cu co cv cr lt tn mt cad cfr cis ctm ctk clf ccs cky ckv css ctt cau).server sz sk)).me.name,.str (((Zb cu co cv cr lt tn mt cad cfr cis ctm ctk clf ccs cky ckv css ctt cau).server sz sk)).me.inst,.str (((Zb cu co cv cr lt tn mt cad cfr cis ctm ctk clf ccs cky ckv css ctt cau).server sz sk)).me.realm,.sl 5 ((((Zb cu co cv cr lt tn mt cad cfr cis ctm ctk clf ccs cky ckv css ctt cau).server sz sk)).keys.map Kerb.SKey.av),.int .i64 ((((Zb cu co cv cr lt tn mt cad cfr cis ctm ctk clf ccs cky ckv css ctt cau).server sz sk)).replay).size,.int .i64 ((((Zb cu co cv cr lt tn mt cad cfr cis ctm ctk clf ccs cky ckv css ctt cau).server sz sk)).replay).floor,.sl 5 (((((Zb cu co cv cr lt tn mt cad cfr cis ctm ctk clf ccs cky ckv css ctt cau).server sz sk)).replay).marks.map Kerb.Mark.av),.int .i64 (((Zb cu co cv cr lt tn mt cad cfr cis ctm ctk clf ccs cky ckv css ctt cau).server sz sk)).skew],[])
 | _,_=>none
def sp11:Abs.Spec:=fun xs bl=>match xs,bl with
 | [.bs b],[]=>chk (decide (b.length≤140737488355328)) (some (.tup [.agg [.bool ((Yv b).val).little,.str ((Yv b).val).client.name,.str ((Yv b).val).client.inst,.str ((Yv b).val).client.realm,.int .i64 ((Yv b).val).time,.int .i64 ((Yv b).val).expires,.int .i64 ((Yv b).val).kvno,.bs ((Yv b).val).sealed],.int .i64 (Yv b).err],[]))
 | _,_=>none
def sp94:Abs.Spec:=fun xs bl=>match xs,bl with
 | [.str s],[]=>chk (decide (s.length≤9223372036854775807)) (some (.bool (Kerb.validName s),[]))
 | _,_=>none
def sp95:Abs.Spec:=fun xs bl=>match xs,bl with
 | [.str s],[]=>chk (decide (s.length≤9223372036854775807)) (some (.bool (Kerb.validInst s),[]))
 | _,_=>none
def sp117:Abs.Spec:=fun xs bl=>match xs,bl with
 | [.agg [.str rl,.sl 9 els],.str n,.str i,.int .i64 now],[]=>chk (els.all Yn&&decide (els.length≤1000000)) (some (.tup [.int .i64 (Kerb.serviceEnt (Zq rl (els.map Zv)) n i now).1,.int .i64 (Kerb.serviceEnt (Zq rl (els.map Zv)) n i now).2],[]))
 | _,_=>none
def sp128:Abs.Spec:=fun xs bl=>match xs,bl with
 | [.agg [.bool li,.str x,.str y,.str z,.int .i64 ad,.int .u64 k,.int .i64 lf,.int .i64 iss,.str sv,.str ins]],[]=>chk (decide (x.length≤9223372036854775807)&&decide (y.length≤9223372036854775807)&&decide (z.length≤9223372036854775807)&&decide (sv.length≤9223372036854775807)&&decide (ins.length≤9223372036854775807)&&decide (0≤k)&&decide (k<18446744073709551616)) (some (.tup [.bs (Xv (Yx li ⟨x,y,z⟩ ad k lf iss sv ins)).val,.int .i64 (Xv (Yx li ⟨x,y,z⟩ ad k lf iss sv ins)).err],[]))
 | _,_=>none
def sp130:Abs.Spec:=fun xs bl=>match xs,bl with
 | [.agg [.str x,.str y,.str z,.int .i64 ck,.int .i64 tc,.int .i64 tm],.bool li],[]=>chk (decide (x.length≤9223372036854775807)&&decide (y.length≤9223372036854775807)&&decide (z.length≤9223372036854775807)) (some (.tup [.bs (Kerb.encodeAuth (Yq ⟨x,y,z⟩ ck tc tm) li).val,.int .i64 (Kerb.encodeAuth (Yq ⟨x,y,z⟩ ck tc tm) li).err],[]))
 | _,_=>none
def sp149:Abs.Spec:=fun xs bl=>match xs,bl with
 | [.bs b],[]=>chk (decide (b.length≤140737488355328)) (some (.tup [.agg [.int .i64 (Kerb.readBox b).box.kind,.int .u64 (Kerb.readBox b).box.key,.bs (Kerb.readBox b).box.body],.int .i64 (Kerb.readBox b).n,.int .i64 (Kerb.readBox b).err],[]))
 | _,_=>none
def sp78:Abs.Spec:=fun xs bl=>match xs,bl with
 | [.agg [.bool li,.str x,.str y,.str z,.int .i64 ad,.int .u64 k,.int .i64 lf,.int .i64 iss,.str sv,.str ins],.int .u64 key],[]=>chk (decide (x.length≤9223372036854775807)&&decide (y.length≤9223372036854775807)&&decide (z.length≤9223372036854775807)&&decide (sv.length≤9223372036854775807)&&decide (ins.length≤9223372036854775807)&&decide (0≤k)&&decide (k<18446744073709551616)&&decide (0≤key)&&decide (key<18446744073709551616)) (some (.tup [.bs (Kerb.sealTicket (Yx li ⟨x,y,z⟩ ad k lf iss sv ins) key).val,.int .i64 (Kerb.sealTicket (Yx li ⟨x,y,z⟩ ad k lf iss sv ins) key).err],[]))
 | _,_=>none
def sp79:Abs.Spec:=fun xs bl=>match xs,bl with
 | [.agg [.str x,.str y,.str z,.int .i64 ck,.int .i64 tc,.int .i64 tm],.bool li,.int .u64 k],[]=>chk (decide (x.length≤9223372036854775807)&&decide (y.length≤9223372036854775807)&&decide (z.length≤9223372036854775807)&&decide (0≤k)&&decide (k<18446744073709551616)) (some (.tup [.bs (Kerb.sealAuth (Yq ⟨x,y,z⟩ ck tc tm) li k).val,.int .i64 (Kerb.sealAuth (Yq ⟨x,y,z⟩ ck tc tm) li k).err],[]))
 | _,_=>none
def sp113:Abs.Spec:=fun xs bl=>match xs,bl with
 | [.bs b,.int .i64 kd,.int .u64 k],[]=>chk (decide (b.length≤140737488355328)) (some (.tup [.bs (Kerb.openBox b kd k).1,.bool (Kerb.openBox b kd k).2],[]))
 | _,_=>none
def sp115:Abs.Spec:=fun xs bl=>match xs,bl with
 | [.str s],[]=>chk (decide (s.length≤9223372036854775807)) (some (.bool (Kerb.validRealm s),[]))
 | _,_=>none
def sp36:Abs.Spec:=fun xs bl=>match xs,bl with
 | [.agg [.u8 cu,.u8 co,.u8 cv,.u8 cr,.bool lt,.bool tn,.bool mt,.u8 cad,.u8 cfr,.u8 cis,.u8 ctm,.u8 ctk,.u8 clf,.int .u32 ccs,.u8 cky,.u8 ckv,.u8 css,.int .u16 ctt,.int .u16 cau],.agg [.str x,.str y,.str z],.int .u64 k,.int .i64 v],[]=>chk (decide (x.length≤9223372036854775807)&&decide (y.length≤9223372036854775807)&&decide (z.length≤9223372036854775807)&&Yf k&&decide (0≤v)&&decide (v≤1000)&&decide (0≤ccs)&&decide (ccs≤4294967295)&&decide (0≤ctt)&&decide (ctt≤65535)&&decide (0≤cau)&&decide (cau≤65535)) (some (.agg [.bool (((Zb cu co cv cr lt tn mt cad cfr cis ctm ctk clf ccs cky ckv css ctt cau).req ⟨x,y,z⟩ k v)).little,.bool (((Zb cu co cv cr lt tn mt cad cfr cis ctm ctk clf ccs cky ckv css ctt cau).req ⟨x,y,z⟩ k v)).mutual_,.int .i64 (((Zb cu co cv cr lt tn mt cad cfr cis ctm ctk clf ccs cky ckv css ctt cau).req ⟨x,y,z⟩ k v)).kvno,.str (((Zb cu co cv cr lt tn mt cad cfr cis ctm ctk clf ccs cky ckv css ctt cau).req ⟨x,y,z⟩ k v)).realm,.bs (((Zb cu co cv cr lt tn mt cad cfr cis ctm ctk clf ccs cky ckv css ctt cau).req ⟨x,y,z⟩ k v)).ticket,.bs (((Zb cu co cv cr lt tn mt cad cfr cis ctm ctk clf ccs cky ckv css ctt cau).req ⟨x,y,z⟩ k v)).auth],[]))
 | _,_=>none
def sp59:Abs.Spec:=fun xs bl=>match xs,bl with
 | [.agg [.str rl,.sl 9 els],.sl 4 xls,.str n,.str i,.int .i64 now],[]=>chk (els.all Yn&&decide (els.length≤1000000)&&xls.all Xw&&decide (xls.length≤1000000)&&decide (i.length≤9223372036854775807)) (some (.tup [.int .u64 (Kerb.svc (Zq rl (els.map Zv)) (xls.map Zu) n i now).key,.int .i64 (Kerb.svc (Zq rl (els.map Zv)) (xls.map Zu) n i now).kvno,.int .i64 (Kerb.svc (Zq rl (els.map Zv)) (xls.map Zu) n i now).life,.int .i64 (Kerb.svc (Zq rl (els.map Zv)) (xls.map Zu) n i now).expires,.int .i64 (Kerb.svc (Zq rl (els.map Zv)) (xls.map Zu) n i now).err],[]))
 | _,_=>none
def sp93:Abs.Spec:=fun xs bl=>match xs,bl with
 | [.agg [.bool li,.bool mu,.int .i64 kv,.str rl,.bs tk,.bs au]],[]=>chk (decide (rl.length≤9223372036854775807)) (some (.tup [.bs (Kerb.encodeAp (Zz li mu kv rl tk au)).val,.int .i64 (Kerb.encodeAp (Zz li mu kv rl tk au)).err],[]))
 | _,_=>none
def sp100:Abs.Spec:=fun xs bl=>match xs,bl with
 | [.agg [.str a,.str b,.str c]],[]=>chk (decide (a.length≤9223372036854775807)&&decide (b.length≤9223372036854775807)&&decide (c.length≤9223372036854775807)) (some (.bool (Kerb.Prin.valid ⟨a,b,c⟩),[]))
 | _,_=>none
def sp12:Abs.Spec:=fun xs bl=>match xs,bl with
 | [.agg [.u8 cu,.u8 co,.u8 cv,.u8 cr,.bool lt,.bool tn,.bool mt,.u8 cad,.u8 cfr,.u8 cis,.u8 ctm,.u8 ctk,.u8 clf,.int .u32 ccs,.u8 cky,.u8 ckv,.u8 css,.int .u16 ctt,.int .u16 cau],.agg [.str x,.str y,.str z],.int .u64 k,.int .i64 v,.int .i64 wtm,.int .i64 wlf,.agg [.str s1,.str s2,.str s3]],[]=>chk (decide (x.length≤9223372036854775807)&&decide (y.length≤9223372036854775807)&&decide (z.length≤9223372036854775807)&&Yf k&&decide (0≤v)&&decide (v≤1000)&&decide (0≤ccs)&&decide (ccs≤4294967295)&&decide (0≤ctt)&&decide (ctt≤65535)&&decide (0≤cau)&&decide (cau≤65535)&&decide (s1.length≤9223372036854775807)&&decide (s2.length≤9223372036854775807)) (some (.bs ((Zb cu co cv cr lt tn mt cad cfr cis ctm ctk clf ccs cky ckv css ctt cau).tgsMsg ⟨x,y,z⟩ k v wtm wlf ⟨s1,s2,s3⟩),[]))
 | _,_=>none
def sp48:Abs.Spec:=fun xs bl=>match xs,bl with
 | [.agg [.bool li,.bool mu,.int .i64 kv,.str rl,.bs tk,.bs au,.int .i64 tm,.int .i64 lf,.str sv,.str ins]],[]=>chk (decide (rl.length≤9223372036854775807)&&decide (sv.length≤9223372036854775807)&&decide (ins.length≤9223372036854775807)) (some (.tup [.bs (Kerb.encodeTgs (Zj (Zz li mu kv rl tk au) tm lf sv ins)).val,.int .i64 (Kerb.encodeTgs (Zj (Zz li mu kv rl tk au) tm lf sv ins)).err],[]))
 | _,_=>none
def sp101:Abs.Spec:=fun xs bl=>match xs,bl with
 | [.sl 5 kls],[]=>chk (kls.all Yb&&decide (kls.length≤1000000)) (some (.int .i64 (Kerb.skErr (kls.map Zw)),[]))
 | _,_=>none
def sp102:Abs.Spec:=fun xs bl=>match xs,bl with
 | [.agg [.int .i64 sz,.int .i64 fl,.sl 5 mls]],[]=>chk (mls.all Yk&&decide (mls.length≤1000000)) (some (.int .i64 (Xz sz fl (mls.map Zx)).err,[]))
 | _,_=>none
def sp112:Abs.Spec:=fun xs bl=>match xs,bl with
 | [.agg [.bool li,.str x,.str y,.str z,.int .i64 t,.int .i64 cd,.str tx]],[]=>chk (decide (x.length≤9223372036854775807)&&decide (y.length≤9223372036854775807)&&decide (z.length≤9223372036854775807)&&decide (tx.length≤9223372036854775807)) (some (.tup [.bs (Kerb.encodeError ⟨li,⟨x,y,z⟩,t,cd,tx⟩).val,.int .i64 (Kerb.encodeError ⟨li,⟨x,y,z⟩,t,cd,tx⟩).err],[]))
 | _,_=>none
def sp121:Abs.Spec:=fun xs bl=>match xs,bl with
 | [.agg [.int .u64 k,.str x,.str y,.str z,.int .i64 lf,.int .i64 kv,.bs tk,.int .i64 t],.bool little],[]=>chk (decide (x.length≤9223372036854775807)&&decide (y.length≤9223372036854775807)&&decide (z.length≤9223372036854775807)&&decide (0≤k)&&decide (k<18446744073709551616)) (some (.tup [.bs (Kerb.encodePart ⟨k,⟨x,y,z⟩,lf,kv,tk,t⟩ little).val,.int .i64 (Kerb.encodePart ⟨k,⟨x,y,z⟩,lf,kv,tk,t⟩ little).err],[]))
 | _,_=>none
def sp123:Abs.Spec:=fun xs bl=>match xs,bl with
 | [.agg [.bool li,.str x,.str y,.str z,.int .i64 t,.int .i64 ex,.int .i64 kv,.bs sd]],[]=>chk (decide (x.length≤9223372036854775807)&&decide (y.length≤9223372036854775807)&&decide (z.length≤9223372036854775807)) (some (.tup [.bs (Kerb.encodeReply ⟨li,⟨x,y,z⟩,t,ex,kv,sd⟩).val,.int .i64 (Kerb.encodeReply ⟨li,⟨x,y,z⟩,t,ex,kv,sd⟩).err],[]))
 | _,_=>none
def sp150:Abs.Spec:=fun xs bl=>match xs,bl with
 | [.bs b,.int .i64 pos],[]=>chk (decide (b.length≤4611686018427387904)) (some (.tup [.agg [.str (Kerb.prin b pos).val.name,.str (Kerb.prin b pos).val.inst,.str (Kerb.prin b pos).val.realm],.int .i64 (Kerb.prin b pos).next,.int .i64 (Kerb.prin b pos).err],[]))
 | _,_=>none
def sp169:Abs.Spec:=fun xs bl=>match xs,bl with
 | [.agg [.bool li,.str x,.str y,.str z,.int .i64 ad,.int .u64 k,.int .i64 lf,.int .i64 iss,.str sv,.str ins]],[]=>chk (decide (x.length≤9223372036854775807)&&decide (y.length≤9223372036854775807)&&decide (z.length≤9223372036854775807)&&decide (sv.length≤9223372036854775807)&&decide (ins.length≤9223372036854775807)&&decide (0≤k)&&decide (k<18446744073709551616)) (some (.int .i64 (Yx li ⟨x,y,z⟩ ad k lf iss sv ins).err,[]))
 | _,_=>none
def sp174:Abs.Spec:=fun xs bl=>match xs,bl with
 | [.agg [.str x,.str y,.str z,.int .i64 ck,.int .i64 tc,.int .i64 tm]],[]=>chk (decide (x.length≤9223372036854775807)&&decide (y.length≤9223372036854775807)&&decide (z.length≤9223372036854775807)) (some (.int .i64 (Yq ⟨x,y,z⟩ ck tc tm).check,[]))
 | _,_=>none
def sp8:Abs.Spec:=fun xs bl=>match xs,bl with
 | [.agg [.u8 cu,.u8 co,.u8 cv,.u8 cr,.bool lt,.bool tn,.bool mt,.u8 cad,.u8 cfr,.u8 cis,.u8 ctm,.u8 ctk,.u8 clf,.int .u32 ccs,.u8 cky,.u8 ckv,.u8 css,.int .u16 ctt,.int .u16 cau,.u8 qf,.u8 qt_,.u8 qp,.u8 ql,.u8 qn,.u8 qk,.int .u16 qh],.sl 4 xls],[]=>chk (decide (0≤ccs)&&decide (ccs≤4294967295)&&decide (0≤ctt)&&decide (ctt≤65535)&&decide (0≤cau)&&decide (cau≤65535)&&decide (0≤qh)&&decide (qh≤65535)&&xls.all Xw&&decide (xls.length≤1000000)&&(xls.map Zu).all Kerb.isKv) (some (.bs ((Kerb.TAsk.mk (Zb cu co cv cr lt tn mt cad cfr cis ctm ctk clf ccs cky ckv css ctt cau) qf qt_ qp ql qn qk qh).msg (xls.map Zu)),[]))
 | _,_=>none
def sp23:Abs.Spec:=fun xs bl=>match xs,bl with
 | [.bs b],[]=>chk (decide (b.length≤140737488355328)) (some (.tup [.agg [.bool ((Yw b).val).ap.little,.bool ((Yw b).val).ap.mutual_,.int .i64 ((Yw b).val).ap.kvno,.str ((Yw b).val).ap.realm,.bs ((Yw b).val).ap.ticket,.bs ((Yw b).val).ap.auth,.int .i64 ((Yw b).val).time,.int .i64 ((Yw b).val).life,.str ((Yw b).val).service,.str ((Yw b).val).inst],.int .i64 (Yw b).err],[]))
 | _,_=>none
def sp51:Abs.Spec:=fun xs bl=>match xs,bl with
 | [.agg [.str m1,.str m2,.str m3,.sl 5 kls,.int .i64 sz,.int .i64 fl,.sl 5 mls,.int .i64 sk]],[]=>chk (decide (m1.length≤9223372036854775807)&&decide (m2.length≤9223372036854775807)&&decide (m3.length≤9223372036854775807)&&kls.all Yb&&decide (kls.length≤1000000)&&mls.all Yk&&decide (mls.length≤1000000)) (some (.int .i64 (Zy ⟨m1,m2,m3⟩ (kls.map Zw) ⟨sz,fl,mls.map Zx⟩ sk).err,[]))
 | _,_=>none
def sp54:Abs.Spec:=fun xs bl=>match xs,bl with
 | [.agg [.int .i64 sz,.int .i64 fl,.sl 5 mls],.agg [.str a1,.str a2,.str a3,.int .i64 at_,.int .i64 atk],.int .i64 now,.int .i64 skw],[]=>chk (mls.all Yk&&decide (mls.length≤1000000)&&decide (a1.length≤9223372036854775807)&&decide (a2.length≤9223372036854775807)&&decide (a3.length≤9223372036854775807)) (some (.tup [.agg [.int .i64 ((Kerb.addMark (Xz sz fl (mls.map Zx)) (Xy ⟨a1,a2,a3⟩ at_ atk) now skw).val).size,.int .i64 ((Kerb.addMark (Xz sz fl (mls.map Zx)) (Xy ⟨a1,a2,a3⟩ at_ atk) now skw).val).floor,.sl 5 (((Kerb.addMark (Xz sz fl (mls.map Zx)) (Xy ⟨a1,a2,a3⟩ at_ atk) now skw).val).marks.map Kerb.Mark.av)],.int .i64 (Kerb.addMark (Xz sz fl (mls.map Zx)) (Xy ⟨a1,a2,a3⟩ at_ atk) now skw).err],[]))
 | _,_=>none
def sp56:Abs.Spec:=fun xs bl=>match xs,bl with
 | [.agg [.str x,.str y,.str z],.int .i64 cd,.int .i64 now,.bool li],[]=>chk (decide (x.length≤9223372036854775807)&&decide (y.length≤9223372036854775807)&&decide (z.length≤9223372036854775807)) (some (.bs (Kerb.refuse ⟨x,y,z⟩ cd now li),[]))
 | _,_=>none
def sp63:Abs.Spec:=fun xs bl=>match xs,bl with
 | [.agg [.str rl,.sl 9 els,.sl 4 xls,.int .i64 now,.bool li,.int .u64 se],.agg [.bool rli,.bool rmu,.int .i64 rkv,.str rrl,.bs rtk,.bs rau,.int .i64 wtm,.int .i64 wlf,.str wsv,.str win],.agg [.str cx,.str cy,.str cz,.int .u64 ck2,.int .i64 cad,.int .i64 ccs,.int .i64 ctm,.int .i64 ctc,.int .i64 cis,.int .i64 clf,.bs ctk,.bs cau],.agg [.int .u64 pk,.str p1,.str p2,.str p3,.int .i64 pl,.int .i64 pv,.bs pt,.int .i64 pm]],[]=>chk (decide (cx.length≤9223372036854775807)&&decide (cy.length≤9223372036854775807)&&decide (cz.length≤9223372036854775807)&&decide (p1.length≤9223372036854775807)&&decide (p2.length≤9223372036854775807)&&decide (p3.length≤9223372036854775807)&&Yf pk&&Yf ck2) (some (.tup [.bs (Kerb.sealReply ⟨li,⟨cx,cy,cz⟩,wtm,0,0,[]⟩ (Kerb.ReplyPart.mk pk ⟨p1,p2,p3⟩ pl pv pt pm) ck2).val,.int .i64 (Kerb.sealReply ⟨li,⟨cx,cy,cz⟩,wtm,0,0,[]⟩ (Kerb.ReplyPart.mk pk ⟨p1,p2,p3⟩ pl pv pt pm) ck2).err],[]))
 | _,_=>none
def sp152:Abs.Spec:=fun xs bl=>match xs,bl with
 | [.agg [.bool li,.str x,.str y,.str z,.int .i64 ad,.int .u64 k,.int .i64 lf,.int .i64 iss,.str sv,.str ins]],[]=>chk (decide (x.length≤9223372036854775807)&&decide (y.length≤9223372036854775807)&&decide (z.length≤9223372036854775807)&&decide (sv.length≤9223372036854775807)&&decide (ins.length≤9223372036854775807)&&decide (0≤k)&&decide (k<18446744073709551616)) (some (.tup [.bs (Xv (Yx li ⟨x,y,z⟩ ad k lf iss sv ins)).val,.int .i64 (Xv (Yx li ⟨x,y,z⟩ ad k lf iss sv ins)).err],[]))
 | _,_=>none
def sp167:Abs.Spec:=fun xs bl=>match xs,bl with
 | [.agg [.str x,.str y,.str z,.int .i64 ck,.int .i64 tc,.int .i64 tm],.bool li],[]=>chk (decide (x.length≤9223372036854775807)&&decide (y.length≤9223372036854775807)&&decide (z.length≤9223372036854775807)) (some (.tup [.bs (Kerb.encodeAuth (Yq ⟨x,y,z⟩ ck tc tm) li).val,.int .i64 (Kerb.encodeAuth (Yq ⟨x,y,z⟩ ck tc tm) li).err],[]))
 | _,_=>none
def sp26:Abs.Spec:=fun xs bl=>match xs,bl with
 | [.agg [.str rl,.sl 9 els,.sl 4 xls,.int .i64 now,.bool li,.int .u64 se],.agg [.str x,.str y,.str z],.int .i64 cd],[]=>chk (decide (x.length≤9223372036854775807)&&decide (y.length≤9223372036854775807)&&decide (z.length≤9223372036854775807)) (some (.tup [.bs (Kerb.refuse ⟨x,y,z⟩ cd now li),.agg [.int .i64 (Zh).kind,.str (Zh).server.name,.str (Zh).server.inst,.str (Zh).server.realm,.str (Zh).client.name,.str (Zh).client.inst,.str (Zh).client.realm,.str (Zh).service.name,.str (Zh).service.inst,.str (Zh).service.realm,.int .u64 (Zh).session,.int .u64 (Zh).sealer,.int .u64 (Zh).granter,.bs (Zh).text,.int .i64 (Zh).issued,.int .i64 (Zh).stop],.bool false],[]))
 | _,_=>none
def sp114:Abs.Spec:=fun xs bl=>match xs,bl with
 | [.bs b],[]=>chk (decide (b.length≤140737488355328)) (some (.tup [.agg [.bool ((Yz b).val).little,.str ((Yz b).val).client.name,.str ((Yz b).val).client.inst,.str ((Yz b).val).client.realm,.int .i64 ((Yz b).val).address,.int .u64 ((Yz b).val).session,.int .i64 ((Yz b).val).life,.int .i64 ((Yz b).val).issued,.str ((Yz b).val).service,.str ((Yz b).val).inst],.int .i64 (Yz b).err],[]))
 | _,_=>none
def sp120:Abs.Spec:=fun xs bl=>match xs,bl with
 | [.agg [.bool li,.str x,.str y,.str z,.int .i64 ad,.int .u64 k,.int .i64 lf,.int .i64 iss,.str sv,.str ins],.int .u64 key],[]=>chk (decide (x.length≤9223372036854775807)&&decide (y.length≤9223372036854775807)&&decide (z.length≤9223372036854775807)&&decide (sv.length≤9223372036854775807)&&decide (ins.length≤9223372036854775807)&&decide (0≤k)&&decide (k<18446744073709551616)&&decide (0≤key)&&decide (key<18446744073709551616)) (some (.tup [.bs (Kerb.sealTicket (Yx li ⟨x,y,z⟩ ad k lf iss sv ins) key).val,.int .i64 (Kerb.sealTicket (Yx li ⟨x,y,z⟩ ad k lf iss sv ins) key).err],[]))
 | _,_=>none
def sp143:Abs.Spec:=fun xs bl=>match xs,bl with
 | [.bs b,.bool li],[]=>chk (decide (b.length≤140737488355328)) (some (.tup [.agg [.str ((Yj b li).val).client.name,.str ((Yj b li).val).client.inst,.str ((Yj b li).val).client.realm,.int .i64 ((Yj b li).val).checksum,.int .i64 ((Yj b li).val).tick,.int .i64 ((Yj b li).val).time],.int .i64 (Yj b li).err],[]))
 | _,_=>none
def sp57:Abs.Spec:=fun xs bl=>match xs,bl with
 | [.bs b,.int .u64 k],[]=>chk (decide (b.length≤140737488355328)) (some (.tup [.agg [.bool ((Yy b k).val).little,.str ((Yy b k).val).client.name,.str ((Yy b k).val).client.inst,.str ((Yy b k).val).client.realm,.int .i64 ((Yy b k).val).address,.int .u64 ((Yy b k).val).session,.int .i64 ((Yy b k).val).life,.int .i64 ((Yy b k).val).issued,.str ((Yy b k).val).service,.str ((Yy b k).val).inst],.int .i64 (Yy b k).err],[]))
 | _,_=>none
def sp62:Abs.Spec:=fun xs bl=>match xs,bl with
 | [.agg [.str rl,.sl 9 els],.agg [.str x,.str y,.str z],.agg [.str u,.str v,.str w],.int .i64 ad,.bool li,.int .i64 now,.int .i64 lf,.int .u64 se,.int .u64 sl,.int .u64 tg,.int .i64 kv],[]=>chk (decide (x.length≤9223372036854775807)&&decide (y.length≤9223372036854775807)&&decide (z.length≤9223372036854775807)&&decide (u.length≤9223372036854775807)&&decide (v.length≤9223372036854775807)&&decide (w.length≤9223372036854775807)&&Yf se&&Yf tg) (some (.tup [.agg [.int .i64 ((Zd rl ⟨x,y,z⟩ ⟨u,v,w⟩ ad li now lf se sl tg kv).issue).kind,.str ((Zd rl ⟨x,y,z⟩ ⟨u,v,w⟩ ad li now lf se sl tg kv).issue).server.name,.str ((Zd rl ⟨x,y,z⟩ ⟨u,v,w⟩ ad li now lf se sl tg kv).issue).server.inst,.str ((Zd rl ⟨x,y,z⟩ ⟨u,v,w⟩ ad li now lf se sl tg kv).issue).server.realm,.str ((Zd rl ⟨x,y,z⟩ ⟨u,v,w⟩ ad li now lf se sl tg kv).issue).client.name,.str ((Zd rl ⟨x,y,z⟩ ⟨u,v,w⟩ ad li now lf se sl tg kv).issue).client.inst,.str ((Zd rl ⟨x,y,z⟩ ⟨u,v,w⟩ ad li now lf se sl tg kv).issue).client.realm,.str ((Zd rl ⟨x,y,z⟩ ⟨u,v,w⟩ ad li now lf se sl tg kv).issue).service.name,.str ((Zd rl ⟨x,y,z⟩ ⟨u,v,w⟩ ad li now lf se sl tg kv).issue).service.inst,.str ((Zd rl ⟨x,y,z⟩ ⟨u,v,w⟩ ad li now lf se sl tg kv).issue).service.realm,.int .u64 ((Zd rl ⟨x,y,z⟩ ⟨u,v,w⟩ ad li now lf se sl tg kv).issue).session,.int .u64 ((Zd rl ⟨x,y,z⟩ ⟨u,v,w⟩ ad li now lf se sl tg kv).issue).sealer,.int .u64 ((Zd rl ⟨x,y,z⟩ ⟨u,v,w⟩ ad li now lf se sl tg kv).issue).granter,.bs ((Zd rl ⟨x,y,z⟩ ⟨u,v,w⟩ ad li now lf se sl tg kv).issue).text,.int .i64 ((Zd rl ⟨x,y,z⟩ ⟨u,v,w⟩ ad li now lf se sl tg kv).issue).issued,.int .i64 ((Zd rl ⟨x,y,z⟩ ⟨u,v,w⟩ ad li now lf se sl tg kv).issue).stop],.agg [.int .u64 (Zd rl ⟨x,y,z⟩ ⟨u,v,w⟩ ad li now lf se sl tg kv).part.session,.str (Zd rl ⟨x,y,z⟩ ⟨u,v,w⟩ ad li now lf se sl tg kv).part.service.name,.str (Zd rl ⟨x,y,z⟩ ⟨u,v,w⟩ ad li now lf se sl tg kv).part.service.inst,.str (Zd rl ⟨x,y,z⟩ ⟨u,v,w⟩ ad li now lf se sl tg kv).part.service.realm,.int .i64 (Zd rl ⟨x,y,z⟩ ⟨u,v,w⟩ ad li now lf se sl tg kv).part.life,.int .i64 (Zd rl ⟨x,y,z⟩ ⟨u,v,w⟩ ad li now lf se sl tg kv).part.kvno,.bs (Zd rl ⟨x,y,z⟩ ⟨u,v,w⟩ ad li now lf se sl tg kv).part.ticket,.int .i64 (Zd rl ⟨x,y,z⟩ ⟨u,v,w⟩ ad li now lf se sl tg kv).part.time],.int .i64 (Zd rl ⟨x,y,z⟩ ⟨u,v,w⟩ ad li now lf se sl tg kv).err],[]))
 | _,_=>none
def sp106:Abs.Spec:=fun xs bl=>match xs,bl with
 | [.bs b,.bool li,.int .u64 k],[]=>chk (decide (b.length≤140737488355328)) (some (.tup [.agg [.str ((Yd b li k).val).client.name,.str ((Yd b li k).val).client.inst,.str ((Yd b li k).val).client.realm,.int .i64 ((Yd b li k).val).checksum,.int .i64 ((Yd b li k).val).tick,.int .i64 ((Yd b li k).val).time],.int .i64 (Yd b li k).err],[]))
 | _,_=>none
def sp27:Abs.Spec:=fun xs bl=>match xs,bl with
 | [.agg [.str m1,.str m2,.str m3,.sl 5 kls,.int .i64 sz,.int .i64 fl,.sl 5 mls,.int .i64 sk],.agg [.bool rli,.bool rmu,.int .i64 rkv,.str rrl,.bs rtk,.bs rau]],[]=>chk (decide (m1.length≤9223372036854775807)&&decide (m2.length≤9223372036854775807)&&decide (m3.length≤9223372036854775807)&&kls.all Yb&&decide (kls.length≤1000000)&&mls.all Yk&&decide (mls.length≤1000000)&&decide (rtk.length≤1000000)&&decide (rau.length≤1000000)) (some (.agg [.str (Kerb.holder (Zy ⟨m1,m2,m3⟩ (kls.map Zw) ⟨sz,fl,mls.map Zx⟩ sk) (Zz rli rmu rkv rrl rtk rau)).name,.str (Kerb.holder (Zy ⟨m1,m2,m3⟩ (kls.map Zw) ⟨sz,fl,mls.map Zx⟩ sk) (Zz rli rmu rkv rrl rtk rau)).inst,.str (Kerb.holder (Zy ⟨m1,m2,m3⟩ (kls.map Zw) ⟨sz,fl,mls.map Zx⟩ sk) (Zz rli rmu rkv rrl rtk rau)).realm],[]))
 | _,_=>none
def sp28:Abs.Spec:=fun xs bl=>match xs,bl with
 | [.agg [.str rl,.sl 9 els,.sl 4 xls,.int .i64 now,.bool li,.int .u64 se],.agg [.bool rli,.bool rmu,.int .i64 rkv,.str rrl,.bs rtk,.bs rau,.int .i64 wtm,.int .i64 wlf,.str wsv,.str win],.agg [.str cx,.str cy,.str cz,.int .u64 ck2,.int .i64 cad,.int .i64 ccs,.int .i64 ctm,.int .i64 ctc,.int .i64 cis,.int .i64 clf,.bs ctk,.bs cau]],[]=>chk (els.all Yn&&decide (els.length≤1000000)&&xls.all Xw&&decide (xls.length≤1000000)&&decide (rl.length≤9223372036854775807)&&decide (wsv.length≤9223372036854775807)&&decide (win.length≤9223372036854775807)&&decide (cx.length≤9223372036854775807)&&decide (cy.length≤9223372036854775807)&&decide (cz.length≤9223372036854775807)&&Yf se&&Yf ck2) (some (.tup [.bs (Zg (Zq rl (els.map Zv)) (xls.map Zu) now li se (Zj (Zz rli rmu rkv rrl rtk rau) wtm wlf wsv win) (Zp ⟨cx,cy,cz⟩ ck2 cad ccs ctm ctc cis clf ctk cau)).answer,.agg [.int .i64 ((Zg (Zq rl (els.map Zv)) (xls.map Zu) now li se (Zj (Zz rli rmu rkv rrl rtk rau) wtm wlf wsv win) (Zp ⟨cx,cy,cz⟩ ck2 cad ccs ctm ctc cis clf ctk cau)).issue).kind,.str ((Zg (Zq rl (els.map Zv)) (xls.map Zu) now li se (Zj (Zz rli rmu rkv rrl rtk rau) wtm wlf wsv win) (Zp ⟨cx,cy,cz⟩ ck2 cad ccs ctm ctc cis clf ctk cau)).issue).server.name,.str ((Zg (Zq rl (els.map Zv)) (xls.map Zu) now li se (Zj (Zz rli rmu rkv rrl rtk rau) wtm wlf wsv win) (Zp ⟨cx,cy,cz⟩ ck2 cad ccs ctm ctc cis clf ctk cau)).issue).server.inst,.str ((Zg (Zq rl (els.map Zv)) (xls.map Zu) now li se (Zj (Zz rli rmu rkv rrl rtk rau) wtm wlf wsv win) (Zp ⟨cx,cy,cz⟩ ck2 cad ccs ctm ctc cis clf ctk cau)).issue).server.realm,.str ((Zg (Zq rl (els.map Zv)) (xls.map Zu) now li se (Zj (Zz rli rmu rkv rrl rtk rau) wtm wlf wsv win) (Zp ⟨cx,cy,cz⟩ ck2 cad ccs ctm ctc cis clf ctk cau)).issue).client.name,.str ((Zg (Zq rl (els.map Zv)) (xls.map Zu) now li se (Zj (Zz rli rmu rkv rrl rtk rau) wtm wlf wsv win) (Zp ⟨cx,cy,cz⟩ ck2 cad ccs ctm ctc cis clf ctk cau)).issue).client.inst,.str ((Zg (Zq rl (els.map Zv)) (xls.map Zu) now li se (Zj (Zz rli rmu rkv rrl rtk rau) wtm wlf wsv win) (Zp ⟨cx,cy,cz⟩ ck2 cad ccs ctm ctc cis clf ctk cau)).issue).client.realm,.str ((Zg (Zq rl (els.map Zv)) (xls.map Zu) now li se (Zj (Zz rli rmu rkv rrl rtk rau) wtm wlf wsv win) (Zp ⟨cx,cy,cz⟩ ck2 cad ccs ctm ctc cis clf ctk cau)).issue).service.name,.str ((Zg (Zq rl (els.map Zv)) (xls.map Zu) now li se (Zj (Zz rli rmu rkv rrl rtk rau) wtm wlf wsv win) (Zp ⟨cx,cy,cz⟩ ck2 cad ccs ctm ctc cis clf ctk cau)).issue).service.inst,.str ((Zg (Zq rl (els.map Zv)) (xls.map Zu) now li se (Zj (Zz rli rmu rkv rrl rtk rau) wtm wlf wsv win) (Zp ⟨cx,cy,cz⟩ ck2 cad ccs ctm ctc cis clf ctk cau)).issue).service.realm,.int .u64 ((Zg (Zq rl (els.map Zv)) (xls.map Zu) now li se (Zj (Zz rli rmu rkv rrl rtk rau) wtm wlf wsv win) (Zp ⟨cx,cy,cz⟩ ck2 cad ccs ctm ctc cis clf ctk cau)).issue).session,.int .u64 ((Zg (Zq rl (els.map Zv)) (xls.map Zu) now li se (Zj (Zz rli rmu rkv rrl rtk rau) wtm wlf wsv win) (Zp ⟨cx,cy,cz⟩ ck2 cad ccs ctm ctc cis clf ctk cau)).issue).sealer,.int .u64 ((Zg (Zq rl (els.map Zv)) (xls.map Zu) now li se (Zj (Zz rli rmu rkv rrl rtk rau) wtm wlf wsv win) (Zp ⟨cx,cy,cz⟩ ck2 cad ccs ctm ctc cis clf ctk cau)).issue).granter,.bs ((Zg (Zq rl (els.map Zv)) (xls.map Zu) now li se (Zj (Zz rli rmu rkv rrl rtk rau) wtm wlf wsv win) (Zp ⟨cx,cy,cz⟩ ck2 cad ccs ctm ctc cis clf ctk cau)).issue).text,.int .i64 ((Zg (Zq rl (els.map Zv)) (xls.map Zu) now li se (Zj (Zz rli rmu rkv rrl rtk rau) wtm wlf wsv win) (Zp ⟨cx,cy,cz⟩ ck2 cad ccs ctm ctc cis clf ctk cau)).issue).issued,.int .i64 ((Zg (Zq rl (els.map Zv)) (xls.map Zu) now li se (Zj (Zz rli rmu rkv rrl rtk rau) wtm wlf wsv win) (Zp ⟨cx,cy,cz⟩ ck2 cad ccs ctm ctc cis clf ctk cau)).issue).stop],.bool (Zg (Zq rl (els.map Zv)) (xls.map Zu) now li se (Zj (Zz rli rmu rkv rrl rtk rau) wtm wlf wsv win) (Zp ⟨cx,cy,cz⟩ ck2 cad ccs ctm ctc cis clf ctk cau)).ok],[]))
 | _,_=>none
def sp52:Abs.Spec:=fun xs bl=>match xs,bl with
 | [.agg [.str m1,.str m2,.str m3,.sl 5 kls,.int .i64 sz,.int .i64 fl,.sl 5 mls,.int .i64 sk],.agg [.bool rli,.bool rmu,.int .i64 rkv,.str rrl,.bs rtk,.bs rau]],[]=>chk (decide (m1.length≤9223372036854775807)&&decide (m2.length≤9223372036854775807)&&decide (m3.length≤9223372036854775807)&&kls.all Yb&&decide (kls.length≤1000000)&&mls.all Yk&&decide (mls.length≤1000000)&&decide (rtk.length≤1000000)&&decide (rau.length≤1000000)) (some (.tup [.agg [.bool ((Zm (Zy ⟨m1,m2,m3⟩ (kls.map Zw) ⟨sz,fl,mls.map Zx⟩ sk) (Zz rli rmu rkv rrl rtk rau)).ticket).little,.str ((Zm (Zy ⟨m1,m2,m3⟩ (kls.map Zw) ⟨sz,fl,mls.map Zx⟩ sk) (Zz rli rmu rkv rrl rtk rau)).ticket).client.name,.str ((Zm (Zy ⟨m1,m2,m3⟩ (kls.map Zw) ⟨sz,fl,mls.map Zx⟩ sk) (Zz rli rmu rkv rrl rtk rau)).ticket).client.inst,.str ((Zm (Zy ⟨m1,m2,m3⟩ (kls.map Zw) ⟨sz,fl,mls.map Zx⟩ sk) (Zz rli rmu rkv rrl rtk rau)).ticket).client.realm,.int .i64 ((Zm (Zy ⟨m1,m2,m3⟩ (kls.map Zw) ⟨sz,fl,mls.map Zx⟩ sk) (Zz rli rmu rkv rrl rtk rau)).ticket).address,.int .u64 ((Zm (Zy ⟨m1,m2,m3⟩ (kls.map Zw) ⟨sz,fl,mls.map Zx⟩ sk) (Zz rli rmu rkv rrl rtk rau)).ticket).session,.int .i64 ((Zm (Zy ⟨m1,m2,m3⟩ (kls.map Zw) ⟨sz,fl,mls.map Zx⟩ sk) (Zz rli rmu rkv rrl rtk rau)).ticket).life,.int .i64 ((Zm (Zy ⟨m1,m2,m3⟩ (kls.map Zw) ⟨sz,fl,mls.map Zx⟩ sk) (Zz rli rmu rkv rrl rtk rau)).ticket).issued,.str ((Zm (Zy ⟨m1,m2,m3⟩ (kls.map Zw) ⟨sz,fl,mls.map Zx⟩ sk) (Zz rli rmu rkv rrl rtk rau)).ticket).service,.str ((Zm (Zy ⟨m1,m2,m3⟩ (kls.map Zw) ⟨sz,fl,mls.map Zx⟩ sk) (Zz rli rmu rkv rrl rtk rau)).ticket).inst],.agg [.str ((Zm (Zy ⟨m1,m2,m3⟩ (kls.map Zw) ⟨sz,fl,mls.map Zx⟩ sk) (Zz rli rmu rkv rrl rtk rau)).auth).client.name,.str ((Zm (Zy ⟨m1,m2,m3⟩ (kls.map Zw) ⟨sz,fl,mls.map Zx⟩ sk) (Zz rli rmu rkv rrl rtk rau)).auth).client.inst,.str ((Zm (Zy ⟨m1,m2,m3⟩ (kls.map Zw) ⟨sz,fl,mls.map Zx⟩ sk) (Zz rli rmu rkv rrl rtk rau)).auth).client.realm,.int .i64 ((Zm (Zy ⟨m1,m2,m3⟩ (kls.map Zw) ⟨sz,fl,mls.map Zx⟩ sk) (Zz rli rmu rkv rrl rtk rau)).auth).checksum,.int .i64 ((Zm (Zy ⟨m1,m2,m3⟩ (kls.map Zw) ⟨sz,fl,mls.map Zx⟩ sk) (Zz rli rmu rkv rrl rtk rau)).auth).tick,.int .i64 ((Zm (Zy ⟨m1,m2,m3⟩ (kls.map Zw) ⟨sz,fl,mls.map Zx⟩ sk) (Zz rli rmu rkv rrl rtk rau)).auth).time],.int .i64 (Zm (Zy ⟨m1,m2,m3⟩ (kls.map Zw) ⟨sz,fl,mls.map Zx⟩ sk) (Zz rli rmu rkv rrl rtk rau)).err],[]))
 | _,_=>none
def sp25:Abs.Spec:=fun xs bl=>match xs,bl with
 | [.agg [.str m1,.str m2,.str m3,.sl 5 kls,.int .i64 sz,.int .i64 fl,.sl 5 mls,.int .i64 sk],.agg [.bool rli,.bool rmu,.int .i64 rkv,.str rrl,.bs rtk,.bs rau],.int .i64 src,.int .i64 now],[]=>chk (decide (m1.length≤9223372036854775807)&&decide (m2.length≤9223372036854775807)&&decide (m3.length≤9223372036854775807)&&kls.all Yb&&decide (kls.length≤1000000)&&mls.all Yk&&decide (mls.length≤1000000)&&decide (rtk.length≤1000000)&&decide (rau.length≤1000000)) (some (.tup [.agg [.str ((Zn (Zy ⟨m1,m2,m3⟩ (kls.map Zw) ⟨sz,fl,mls.map Zx⟩ sk) (Zz rli rmu rkv rrl rtk rau) src now).s).me.name,.str ((Zn (Zy ⟨m1,m2,m3⟩ (kls.map Zw) ⟨sz,fl,mls.map Zx⟩ sk) (Zz rli rmu rkv rrl rtk rau) src now).s).me.inst,.str ((Zn (Zy ⟨m1,m2,m3⟩ (kls.map Zw) ⟨sz,fl,mls.map Zx⟩ sk) (Zz rli rmu rkv rrl rtk rau) src now).s).me.realm,.sl 5 (((Zn (Zy ⟨m1,m2,m3⟩ (kls.map Zw) ⟨sz,fl,mls.map Zx⟩ sk) (Zz rli rmu rkv rrl rtk rau) src now).s).keys.map Kerb.SKey.av),.int .i64 (((Zn (Zy ⟨m1,m2,m3⟩ (kls.map Zw) ⟨sz,fl,mls.map Zx⟩ sk) (Zz rli rmu rkv rrl rtk rau) src now).s).replay).size,.int .i64 (((Zn (Zy ⟨m1,m2,m3⟩ (kls.map Zw) ⟨sz,fl,mls.map Zx⟩ sk) (Zz rli rmu rkv rrl rtk rau) src now).s).replay).floor,.sl 5 ((((Zn (Zy ⟨m1,m2,m3⟩ (kls.map Zw) ⟨sz,fl,mls.map Zx⟩ sk) (Zz rli rmu rkv rrl rtk rau) src now).s).replay).marks.map Kerb.Mark.av),.int .i64 ((Zn (Zy ⟨m1,m2,m3⟩ (kls.map Zw) ⟨sz,fl,mls.map Zx⟩ sk) (Zz rli rmu rkv rrl rtk rau) src now).s).skew],.agg [.str ((Zn (Zy ⟨m1,m2,m3⟩ (kls.map Zw) ⟨sz,fl,mls.map Zx⟩ sk) (Zz rli rmu rkv rrl rtk rau) src now).a).client.name,.str ((Zn (Zy ⟨m1,m2,m3⟩ (kls.map Zw) ⟨sz,fl,mls.map Zx⟩ sk) (Zz rli rmu rkv rrl rtk rau) src now).a).client.inst,.str ((Zn (Zy ⟨m1,m2,m3⟩ (kls.map Zw) ⟨sz,fl,mls.map Zx⟩ sk) (Zz rli rmu rkv rrl rtk rau) src now).a).client.realm,.int .u64 ((Zn (Zy ⟨m1,m2,m3⟩ (kls.map Zw) ⟨sz,fl,mls.map Zx⟩ sk) (Zz rli rmu rkv rrl rtk rau) src now).a).session,.int .i64 ((Zn (Zy ⟨m1,m2,m3⟩ (kls.map Zw) ⟨sz,fl,mls.map Zx⟩ sk) (Zz rli rmu rkv rrl rtk rau) src now).a).address,.int .i64 ((Zn (Zy ⟨m1,m2,m3⟩ (kls.map Zw) ⟨sz,fl,mls.map Zx⟩ sk) (Zz rli rmu rkv rrl rtk rau) src now).a).checksum,.int .i64 ((Zn (Zy ⟨m1,m2,m3⟩ (kls.map Zw) ⟨sz,fl,mls.map Zx⟩ sk) (Zz rli rmu rkv rrl rtk rau) src now).a).time,.int .i64 ((Zn (Zy ⟨m1,m2,m3⟩ (kls.map Zw) ⟨sz,fl,mls.map Zx⟩ sk) (Zz rli rmu rkv rrl rtk rau) src now).a).tick,.int .i64 ((Zn (Zy ⟨m1,m2,m3⟩ (kls.map Zw) ⟨sz,fl,mls.map Zx⟩ sk) (Zz rli rmu rkv rrl rtk rau) src now).a).issued,.int .i64 ((Zn (Zy ⟨m1,m2,m3⟩ (kls.map Zw) ⟨sz,fl,mls.map Zx⟩ sk) (Zz rli rmu rkv rrl rtk rau) src now).a).life,.bs ((Zn (Zy ⟨m1,m2,m3⟩ (kls.map Zw) ⟨sz,fl,mls.map Zx⟩ sk) (Zz rli rmu rkv rrl rtk rau) src now).a).ticket,.bs ((Zn (Zy ⟨m1,m2,m3⟩ (kls.map Zw) ⟨sz,fl,mls.map Zx⟩ sk) (Zz rli rmu rkv rrl rtk rau) src now).a).auth],.int .i64 (Zn (Zy ⟨m1,m2,m3⟩ (kls.map Zw) ⟨sz,fl,mls.map Zx⟩ sk) (Zz rli rmu rkv rrl rtk rau) src now).err],[]))
 | _,_=>none
def sp9:Abs.Spec:=fun xs bl=>match xs,bl with
 | [.agg [.str rl,.sl 9 els],.sl 4 xls,.agg [.str m1,.str m2,.str m3,.sl 5 kls,.int .i64 sz,.int .i64 fl,.sl 5 mls,.int .i64 sk],.int .i64 now,.int .i64 ad,.bool li,.int .u64 se,.bs msg],[]=>chk (els.all Yn&&decide (els.length≤1000000)&&xls.all Xw&&decide (xls.length≤1000000)&&decide (rl.length≤9223372036854775807)&&decide (m1.length≤9223372036854775807)&&decide (m2.length≤9223372036854775807)&&decide (m3.length≤9223372036854775807)&&kls.all Yb&&decide (kls.length≤1000000)&&mls.all Yk&&decide (mls.length≤1000000)&&Yf se&&decide (msg.length≤1000000)&&decide (xls.length≤900000)) (some (.tup [.agg [.str ((Zk (Zq rl (els.map Zv)) (xls.map Zu) (Zy ⟨m1,m2,m3⟩ (kls.map Zw) ⟨sz,fl,mls.map Zx⟩ sk) now ad li se msg).s).me.name,.str ((Zk (Zq rl (els.map Zv)) (xls.map Zu) (Zy ⟨m1,m2,m3⟩ (kls.map Zw) ⟨sz,fl,mls.map Zx⟩ sk) now ad li se msg).s).me.inst,.str ((Zk (Zq rl (els.map Zv)) (xls.map Zu) (Zy ⟨m1,m2,m3⟩ (kls.map Zw) ⟨sz,fl,mls.map Zx⟩ sk) now ad li se msg).s).me.realm,.sl 5 (((Zk (Zq rl (els.map Zv)) (xls.map Zu) (Zy ⟨m1,m2,m3⟩ (kls.map Zw) ⟨sz,fl,mls.map Zx⟩ sk) now ad li se msg).s).keys.map Kerb.SKey.av),.int .i64 (((Zk (Zq rl (els.map Zv)) (xls.map Zu) (Zy ⟨m1,m2,m3⟩ (kls.map Zw) ⟨sz,fl,mls.map Zx⟩ sk) now ad li se msg).s).replay).size,.int .i64 (((Zk (Zq rl (els.map Zv)) (xls.map Zu) (Zy ⟨m1,m2,m3⟩ (kls.map Zw) ⟨sz,fl,mls.map Zx⟩ sk) now ad li se msg).s).replay).floor,.sl 5 ((((Zk (Zq rl (els.map Zv)) (xls.map Zu) (Zy ⟨m1,m2,m3⟩ (kls.map Zw) ⟨sz,fl,mls.map Zx⟩ sk) now ad li se msg).s).replay).marks.map Kerb.Mark.av),.int .i64 ((Zk (Zq rl (els.map Zv)) (xls.map Zu) (Zy ⟨m1,m2,m3⟩ (kls.map Zw) ⟨sz,fl,mls.map Zx⟩ sk) now ad li se msg).s).skew],.bs (Zk (Zq rl (els.map Zv)) (xls.map Zu) (Zy ⟨m1,m2,m3⟩ (kls.map Zw) ⟨sz,fl,mls.map Zx⟩ sk) now ad li se msg).out.answer,.agg [.int .i64 ((Zk (Zq rl (els.map Zv)) (xls.map Zu) (Zy ⟨m1,m2,m3⟩ (kls.map Zw) ⟨sz,fl,mls.map Zx⟩ sk) now ad li se msg).out.issue).kind,.str ((Zk (Zq rl (els.map Zv)) (xls.map Zu) (Zy ⟨m1,m2,m3⟩ (kls.map Zw) ⟨sz,fl,mls.map Zx⟩ sk) now ad li se msg).out.issue).server.name,.str ((Zk (Zq rl (els.map Zv)) (xls.map Zu) (Zy ⟨m1,m2,m3⟩ (kls.map Zw) ⟨sz,fl,mls.map Zx⟩ sk) now ad li se msg).out.issue).server.inst,.str ((Zk (Zq rl (els.map Zv)) (xls.map Zu) (Zy ⟨m1,m2,m3⟩ (kls.map Zw) ⟨sz,fl,mls.map Zx⟩ sk) now ad li se msg).out.issue).server.realm,.str ((Zk (Zq rl (els.map Zv)) (xls.map Zu) (Zy ⟨m1,m2,m3⟩ (kls.map Zw) ⟨sz,fl,mls.map Zx⟩ sk) now ad li se msg).out.issue).client.name,.str ((Zk (Zq rl (els.map Zv)) (xls.map Zu) (Zy ⟨m1,m2,m3⟩ (kls.map Zw) ⟨sz,fl,mls.map Zx⟩ sk) now ad li se msg).out.issue).client.inst,.str ((Zk (Zq rl (els.map Zv)) (xls.map Zu) (Zy ⟨m1,m2,m3⟩ (kls.map Zw) ⟨sz,fl,mls.map Zx⟩ sk) now ad li se msg).out.issue).client.realm,.str ((Zk (Zq rl (els.map Zv)) (xls.map Zu) (Zy ⟨m1,m2,m3⟩ (kls.map Zw) ⟨sz,fl,mls.map Zx⟩ sk) now ad li se msg).out.issue).service.name,.str ((Zk (Zq rl (els.map Zv)) (xls.map Zu) (Zy ⟨m1,m2,m3⟩ (kls.map Zw) ⟨sz,fl,mls.map Zx⟩ sk) now ad li se msg).out.issue).service.inst,.str ((Zk (Zq rl (els.map Zv)) (xls.map Zu) (Zy ⟨m1,m2,m3⟩ (kls.map Zw) ⟨sz,fl,mls.map Zx⟩ sk) now ad li se msg).out.issue).service.realm,.int .u64 ((Zk (Zq rl (els.map Zv)) (xls.map Zu) (Zy ⟨m1,m2,m3⟩ (kls.map Zw) ⟨sz,fl,mls.map Zx⟩ sk) now ad li se msg).out.issue).session,.int .u64 ((Zk (Zq rl (els.map Zv)) (xls.map Zu) (Zy ⟨m1,m2,m3⟩ (kls.map Zw) ⟨sz,fl,mls.map Zx⟩ sk) now ad li se msg).out.issue).sealer,.int .u64 ((Zk (Zq rl (els.map Zv)) (xls.map Zu) (Zy ⟨m1,m2,m3⟩ (kls.map Zw) ⟨sz,fl,mls.map Zx⟩ sk) now ad li se msg).out.issue).granter,.bs ((Zk (Zq rl (els.map Zv)) (xls.map Zu) (Zy ⟨m1,m2,m3⟩ (kls.map Zw) ⟨sz,fl,mls.map Zx⟩ sk) now ad li se msg).out.issue).text,.int .i64 ((Zk (Zq rl (els.map Zv)) (xls.map Zu) (Zy ⟨m1,m2,m3⟩ (kls.map Zw) ⟨sz,fl,mls.map Zx⟩ sk) now ad li se msg).out.issue).issued,.int .i64 ((Zk (Zq rl (els.map Zv)) (xls.map Zu) (Zy ⟨m1,m2,m3⟩ (kls.map Zw) ⟨sz,fl,mls.map Zx⟩ sk) now ad li se msg).out.issue).stop],.bool (Zk (Zq rl (els.map Zv)) (xls.map Zu) (Zy ⟨m1,m2,m3⟩ (kls.map Zw) ⟨sz,fl,mls.map Zx⟩ sk) now ad li se msg).out.ok],[]))
 | _,_=>none
def sp4:Abs.Spec:=fun xs bl=>match xs,bl with
 | [],[]=>some (.bool true,[])
 | _,_=>none
def sp3:Abs.Spec:=fun xs bl=>match xs,bl with
 | [.bs cx,.agg [.u8 cu,.u8 co,.u8 cv,.u8 cr,.bool lt,.bool tn,.bool mt,.u8 cad,.u8 cfr,.u8 cis,.u8 ctm,.u8 ctk,.u8 clf,.int .u32 ccs,.u8 cky,.u8 ckv,.u8 css,.int .u16 ctt,.int .u16 cau,.u8 qf,.u8 qt_,.u8 qp,.u8 ql,.u8 qn,.u8 qk,.int .u16 qh],.u8 nw,.u8 sk],[]=>chk (decide (0≤ccs)&&decide (ccs≤4294967295)&&decide (0≤ctt)&&decide (ctt≤65535)&&decide (0≤cau)&&decide (cau≤65535)&&decide (0≤qh)&&decide (qh≤65535)) (some (.bool true,[]))
 | _,_=>none
def tabT:List (Nat×Nat×List CT×Abs.Spec):=[(10,1,[.int .i64],sp10),(14,1,[.int .i64],sp14),(20,1,[.bsl,.int .u16],sp20),(21,1,[.sl 5],sp21),(22,1,[.sl 5],sp22),(24,1,[.str,.str],sp24),(39,1,[.other,.str,.str],sp39),(41,1,[.ptr],sp41),(42,1,[.ptr,.int .i64],sp42),(49,1,[.bsl,.bsl],sp49),(55,1,[.bsl],sp55),(58,1,[.other],sp58),(64,1,[.bsl],sp64),(67,1,[.ptr,.int .i64,.int .i64],sp67),(70,1,[.bsl,.int .i64,.int .i64],sp70),(72,1,[.int .i64,.int .i64],sp72),(74,1,[.int .i64,.bool],sp74),(83,1,[.int .i64,.int .i64],sp83),(84,1,[.bsl,.str],sp84),(85,1,[],sp85),(88,1,[.int .i64,.sl 1],sp88),(91,1,[.bsl,.int .i64,.int .i64],sp91),(96,1,[.int .i64,.int .i64],sp96),(103,1,[.int .i64],sp103),(105,1,[.other,.str],sp105),(109,1,[.int .i64,.int .i64,.int .i64],sp109),(111,1,[.int .i64],sp111),(116,1,[.sl 4,.str,.str],sp116),(124,1,[.bsl,.int .i64],sp124),(127,1,[.bsl,.int .i64,.int .i64,.bool],sp127),(131,1,[.str,.str],sp131),(132,1,[.int .i64],sp132),(133,1,[.int .i64],sp133),(134,1,[.int .i64],sp134),(135,1,[.bsl,.u8],sp135),(141,1,[.other],sp141),(142,1,[.sl 5,.other],sp142),(144,1,[.int .i64],sp144),(145,1,[.int .i64],sp145),(146,1,[.int .i64,.int .i64],sp146),(154,1,[.int .i64,.sl 1],sp154),(156,1,[.int .u64],sp156),(158,1,[.int .i64],sp158),(161,1,[.int .u64],sp161),(162,1,[.bsl],sp162),(166,1,[.other,.other],sp166),(171,1,[.int .i64,.int .i64],sp171),(172,1,[.int .i64,.int .i64],sp172),(173,1,[.int .i64,.int .i64],sp173),(175,1,[.str,.u8],sp175),(176,1,[.int .i64,.int .i64],sp176),(177,1,[.int .i64,.int .i64],sp177),(29,2,[.bsl,.sl 1],sp29),(34,2,[.ptr,.int .i64],sp34),(38,2,[.int .i64],sp38),(50,2,[.other],sp50),(65,2,[.ptr],sp65),(73,2,[.bsl,.other],sp73),(75,2,[.bsl,.int .i64],sp75),(76,2,[.bsl,.int .i64,.bool],sp76),(77,2,[.bsl,.int .i64,.bool],sp77),(81,2,[.str],sp81),(82,2,[.str],sp82),(86,2,[.int .u64],sp86),(87,2,[.bsl],sp87),(89,2,[.bsl,.int .i64,.int .i64],sp89),(90,2,[.bsl,.int .i64,.int .i64,.bool],sp90),(92,2,[.bsl,.u8],sp92),(107,2,[.int .i64,.int .i64,.int .i64],sp107),(110,2,[.other,.other],sp110),(118,2,[.int .i64,.int .i64],sp118),(125,2,[.bsl,.int .i64,.int .i64,.bool],sp125),(126,2,[.str],sp126),(136,2,[.int .i64,.bool],sp136),(137,2,[.sl 1],sp137),(140,2,[.sl 5,.other],sp140),(155,2,[.int .i64],sp155),(163,2,[.int .u64],sp163),(168,2,[.str,.u8],sp168),(13,3,[.int .i64,.int .i64],sp13),(15,3,[.int .i64],sp15),(17,3,[.bsl],sp17),(18,3,[.int .i64],sp18),(30,3,[.ptr],sp30),(40,3,[.int .u64],sp40),(43,3,[.bsl,.sl 1],sp43),(45,3,[.bsl,.int .i64,.bool],sp45),(46,3,[.bsl,.int .i64],sp46),(47,3,[.bsl,.int .i64],sp47),(61,3,[.int .u64],sp61),(66,3,[.bsl,.int .i64,.bool],sp66),(68,3,[.bsl,.int .i64],sp68),(69,3,[.bsl,.int .i64,.bool],sp69),(71,3,[.other],sp71),(80,3,[.other],sp80),(99,3,[.bsl,.str],sp99),(104,3,[.sl 5,.other,.int .i64],sp104),(108,3,[.int .i64,.int .i64,.int .i64,.int .i64],sp108),(119,3,[.int .i64,.int .i64,.sl 1],sp119),(129,3,[.int .i64,.int .u64,.bsl],sp129),(139,3,[.bsl,.int .i64,.int .i64,.bool],sp139),(147,3,[.str,.u8],sp147),(157,3,[.bsl],sp157),(165,3,[.bsl,.bool],sp165),(170,3,[.int .u64],sp170),(5,4,[.bsl],sp5),(6,4,[.u8,.u8,.u8],sp6),(16,4,[.other,.sl 4],sp16),(19,4,[.other],sp19),(31,4,[.ptr],sp31),(32,4,[.ptr],sp32),(33,4,[.ptr],sp33),(35,4,[.other],sp35),(37,4,[.other],sp37),(44,4,[.bsl],sp44),(53,4,[.other,.other,.int .i64,.int .i64,.int .i64],sp53),(60,4,[.other,.int .i64,.int .i64,.int .i64,.other],sp60),(97,4,[.bsl,.int .i64,.bool],sp97),(98,4,[.bsl,.int .i64],sp98),(122,4,[.int .i64,.int .u64,.bsl],sp122),(138,4,[.str,.str],sp138),(148,4,[.bsl,.other],sp148),(151,4,[.bsl],sp151),(153,4,[.other,.str,.str,.int .i64,.int .i64,.int .i64,.int .i64],sp153),(159,4,[.bsl,.int .i64,.bool],sp159),(160,4,[.other],sp160),(164,4,[.other],sp164),(7,5,[.other,.u8,.u8],sp7),(11,5,[.bsl],sp11),(94,5,[.str],sp94),(95,5,[.str],sp95),(117,5,[.other,.str,.str,.int .i64],sp117),(128,5,[.other],sp128),(130,5,[.other,.bool],sp130),(149,5,[.bsl],sp149),(78,6,[.other,.int .u64],sp78),(79,6,[.other,.bool,.int .u64],sp79),(113,6,[.bsl,.int .i64,.int .u64],sp113),(115,6,[.str],sp115),(36,7,[.other,.other,.int .u64,.int .i64],sp36),(59,7,[.other,.sl 4,.str,.str,.int .i64],sp59),(93,7,[.other],sp93),(100,7,[.other],sp100),(12,8,[.other,.other,.int .u64,.int .i64,.int .i64,.int .i64,.other],sp12),(48,8,[.other],sp48),(101,8,[.sl 5],sp101),(102,8,[.other],sp102),(112,8,[.other],sp112),(121,8,[.other,.bool],sp121),(123,8,[.other],sp123),(150,8,[.bsl,.int .i64],sp150),(169,8,[.other],sp169),(174,8,[.other],sp174),(8,9,[.other,.sl 4],sp8),(23,9,[.bsl],sp23),(51,9,[.other],sp51),(54,9,[.other,.other,.int .i64,.int .i64],sp54),(56,9,[.other,.int .i64,.int .i64,.bool],sp56),(63,9,[.other,.other,.other,.other],sp63),(152,9,[.other],sp152),(167,9,[.other,.bool],sp167),(26,10,[.other,.other,.int .i64],sp26),(114,10,[.bsl],sp114),(120,10,[.other,.int .u64],sp120),(143,10,[.bsl,.bool],sp143),(57,11,[.bsl,.int .u64],sp57),(62,11,[.other,.other,.other,.int .i64,.bool,.int .i64,.int .i64,.int .u64,.int .u64,.int .u64,.int .i64],sp62),(106,11,[.bsl,.bool,.int .u64],sp106),(27,12,[.other,.other],sp27),(28,12,[.other,.other,.other],sp28),(52,12,[.other,.other],sp52),(25,13,[.other,.other,.int .i64,.int .i64],sp25),(9,14,[.other,.sl 4,.other,.int .i64,.int .i64,.bool,.int .u64,.bsl],sp9),(4,15,[],sp4),(3,16,[.bsl,.other,.u8,.u8],sp3)]
def globT:List (Nat×List AV):=[(0,[.str [99,108,105,101,110,116,32,101,120,112,105,114,101,100],.str [115,101,114,118,105,99,101,32,101,120,112,105,114,101,100],.str [110,111,32,108,105,102,101,116,105,109,101,32,108,101,102,116],.str [112,114,111,116,111,99,111,108,32,118,101,114,115,105,111,110],.str [110,111,116,32,97,32,99,108,105,101,110,116],.str [110,111,116,32,97,32,115,101,114,118,105,99,101],.str [98,121,116,101,32,111,114,100,101,114],.str [112,114,105,110,99,105,112,97,108,32,117,110,107,110,111,119,110],.str [112,114,105,110,99,105,112,97,108,32,110,111,116,32,117,110,105,113,117,101],.str [110,111,32,107,101,121]])]
noncomputable def inlT:List (Nat×Func):=[]
def look {α:Type} (k:Nat):List (Nat×α)→Option α
 | []=>none
 | (j,x)::r=>cond (Nat.beq j k) (some x) (look k r)
def look2 {α:Type} (k m:Nat):List (Nat×Nat×List α)→List α
 | []=>[]
 | (j,i,x)::r=>cond (Nat.beq j k) (cond (Nat.beq i m) x (look2 k m r)) (look2 k m r)
noncomputable def G:Cfg2:={ ty:=fun t=>(tbl[t]?).join,keep:=fun f r=>look2 f r keepT,own:=fun f=>ownT.contains f,glob:=fun q=>look q globT,rts:=fun f=>look f rtsT,tab:=fun f=>look f tabT,inl:=fun f=>look f inlT }
end Go.Proofs.YtmpklfnpjhdjeaaGreatDoor
