/- The table of functions of this seat. -/
import Derived.Test.YtljhmpcfjfcgiaaGreatDoorAbsSpec
import Derived.Test.YtljhmpcfjfcgiaaGreatDoorKerbDefs
import Derived.Test.YtljhmpcfjfcgiaaGreatDoorAbsPlain
import Derived.Test.YtljhmpcfjfcgiaaGreatDoorKerbKaRef
import Derived.Test.YtljhmpcfjfcgiaaGreatDoorKerbCli2
import Derived.Test.YtljhmpcfjfcgiaaGreatDoorKerbTkt
import Derived.Test.YtljhmpcfjfcgiaaGreatDoorKerbDb
import Derived.Test.YtljhmpcfjfcgiaaGreatDoorKerbVerL
import Derived.Test.YtljhmpcfjfcgiaaGreatDoorKerbKaRef
import Derived.Test.YtljhmpcfjfcgiaaGreatDoorKerbCli2
import Derived.Test.YtljhmpcfjfcgiaaGreatDoorKerbTkt
import Derived.Test.YtljhmpcfjfcgiaaGreatDoorKerbDb
import Derived.Test.YtljhmpcfjfcgiaaGreatDoorKerbKac
import Derived.Test.YtljhmpcfjfcgiaaGreatDoorKerbSrv
import Derived.Test.YtljhmpcfjfcgiaaGreatDoorKerbSrvD
import Derived.Test.YtljhmpcfjfcgiaaGreatDoorKerbAuthL
import Derived.Test.YtljhmpcfjfcgiaaGreatDoorKerbVerL
import Derived.Test.YtljhmpcfjfcgiaaGreatDoorKerbGrt
import Derived.Test.YtljhmpcfjfcgiaaGreatDoorProg
import Derived.KernelRfl
open Kerb.ApRequest renaming mk→Zz
open Kerb.Server renaming mk→Zy
open Kerb renaming toMark→Zx,toSKey→Zw,toEntry→Zv,toCross→Zu,tgsAnswer→Zk,grant→Zd,tgsServe→Zf,verify→Zg,openReq→Zn,noIssue→Zm,decodeTicket→Zh,openTicket→Yz,decodeTgs→Yx,within→Yv,isSKey→Yu,isEntry→Yq,dataEnt→Yj,decodeAuth→Yk,isMark→Yp,openAuth→Yd,isU64→Yf,readAp→Yn,isCross→Ym,putN→Yh,get→Xz,encodeTicket→Xy,keyValid→Xw
open Kerb.Db renaming mk→Zq
open Kerb.TgsRequest renaming mk→Zj
open Kerb.Accepted renaming mk→Zp
open Kerb.Case renaming mk→Zb
open Kerb.Ticket renaming mk→Yy
open Kerb.Auth renaming mk→Yw
open Kerb.RCache renaming mk→Yg
open Kerb.Mark renaming mk→Yb
open Kerb.SKey renaming av→Xx
namespace Go.Proofs.YtljhmpcfjfcgiaaGreatDoor
open Go Go.Abs
set_option linter.unusedVariables false
def tbl:List (Option TI):=[
 none,
 none,
 some ⟨1,8,.int .i64,[.int .i64 0],[.int .i64],[.int .i64]⟩,
 some ⟨1,8,.int .i64,[.int .i64 0],[.int .i64],[.int .i64]⟩,
 some ⟨1,1,.bool,[.bool false],[.bool],[.bool]⟩,
 some ⟨1,1,.u8,[.u8 0],[.u8],[.u8]⟩,
 some ⟨1,1,.u8,[.u8 0],[.u8],[.u8]⟩,
 some ⟨4,24,.struct [(0,2),(1,3),(2,4),(3,6)],[.int .i64 0,.int .i64 0,.bool false,.u8 0],[.int .i64,.int .i64,.bool,.u8],[.int .i64,.int .i64,.bool,.u8]⟩,
 none,
 some ⟨1,16,.str,[.str []],[.str],[.str]⟩,
 none,
 none,
 some ⟨1,8,.int .u64,[.int .u64 0],[.int .u64],[.int .u64]⟩,
 none,
 none,
 some ⟨1,8,.ptr 222,[.nilp],[.ptr],[]⟩,
 some ⟨1,8,.ptr 225,[.nilp],[.ptr],[]⟩,
 some ⟨1,8,.ptr 234,[.nilp],[.ptr],[]⟩,
 some ⟨1,8,.struct [(0,17)],[.nilp],[.ptr],[]⟩,
 some ⟨1,8,.struct [(0,17)],[.nilp],[.ptr],[]⟩,
 none,
 some ⟨1,4,.int .i32,[.int .i32 0],[.int .i32],[.int .i32]⟩,
 some ⟨1,24,.slice 5 true,[.nils],[.bsl],[]⟩,
 none,
 some ⟨1,24,.slice 59 false,[.nils],[.sl 4],[]⟩,
 none,
 some ⟨1,24,.slice 65 false,[.nils],[.sl 9],[]⟩,
 some ⟨2,40,.struct [(0,9),(1,26)],[.str [],.nils],[.str,.sl 9],[]⟩,
 some ⟨2,40,.struct [(0,9),(1,26)],[.str [],.nils],[.str,.sl 9],[]⟩,
 none,
 none,
 some ⟨1,24,.slice 28 false,[.nils],[.sl 2],[]⟩,
 none,
 some ⟨1,24,.slice 69 false,[.nils],[.sl 5],[]⟩,
 none,
 none,
 some ⟨1,4,.int .u32,[.int .u32 0],[.int .u32],[.int .u32]⟩,
 some ⟨1,2,.int .u16,[.int .u16 0],[.int .u16],[.int .u16]⟩,
 some ⟨19,28,.struct [(0,5),(1,5),(2,5),(3,5),(4,4),(5,4),(6,4),(7,5),(8,5),(9,5),(10,5),(11,5),(12,5),(13,36),(14,5),(15,5),(16,5),(17,37),(18,37)],[.u8 0,.u8 0,.u8 0,.u8 0,.bool false,.bool false,.bool false,.u8 0,.u8 0,.u8 0,.u8 0,.u8 0,.u8 0,.int .u32 0,.u8 0,.u8 0,.u8 0,.int .u16 0,.int .u16 0],[.u8,.u8,.u8,.u8,.bool,.bool,.bool,.u8,.u8,.u8,.u8,.u8,.u8,.int .u32,.u8,.u8,.u8,.int .u16,.int .u16],[.u8,.u8,.u8,.u8,.bool,.bool,.bool,.u8,.u8,.u8,.u8,.u8,.u8,.int .u32,.u8,.u8,.u8,.int .u16,.int .u16]⟩,
 some ⟨19,28,.struct [(0,5),(1,5),(2,5),(3,5),(4,4),(5,4),(6,4),(7,5),(8,5),(9,5),(10,5),(11,5),(12,5),(13,36),(14,5),(15,5),(16,5),(17,37),(18,37)],[.u8 0,.u8 0,.u8 0,.u8 0,.bool false,.bool false,.bool false,.u8 0,.u8 0,.u8 0,.u8 0,.u8 0,.u8 0,.int .u32 0,.u8 0,.u8 0,.u8 0,.int .u16 0,.int .u16 0],[.u8,.u8,.u8,.u8,.bool,.bool,.bool,.u8,.u8,.u8,.u8,.u8,.u8,.int .u32,.u8,.u8,.u8,.int .u16,.int .u16],[.u8,.u8,.u8,.u8,.bool,.bool,.bool,.u8,.u8,.u8,.u8,.u8,.u8,.int .u32,.u8,.u8,.u8,.int .u16,.int .u16]⟩,
 none,
 some ⟨3,48,.struct [(0,9),(1,9),(2,9)],[.str [],.str [],.str []],[.str,.str,.str],[.str,.str,.str]⟩,
 some ⟨3,48,.struct [(0,9),(1,9),(2,9)],[.str [],.str [],.str []],[.str,.str,.str],[.str,.str,.str]⟩,
 none,
 some ⟨1,8,.int .u64,[.int .u64 0],[.int .u64],[.int .u64]⟩,
 some ⟨1,8,.int .u64,[.int .u64 0],[.int .u64],[.int .u64]⟩,
 none,
 none,
 some ⟨1,24,.slice 85 false,[.nils],[.sl 5],[]⟩,
 some ⟨3,40,.struct [(0,3),(1,3),(2,48)],[.int .i64 0,.int .i64 0,.nils],[.int .i64,.int .i64,.sl 5],[]⟩,
 some ⟨3,40,.struct [(0,3),(1,3),(2,48)],[.int .i64 0,.int .i64 0,.nils],[.int .i64,.int .i64,.sl 5],[]⟩,
 some ⟨8,120,.struct [(0,42),(3,33),(4,50),(7,3)],[.str [],.str [],.str [],.nils,.int .i64 0,.int .i64 0,.nils,.int .i64 0],[.str,.str,.str,.sl 5,.int .i64,.int .i64,.sl 5,.int .i64],[]⟩,
 some ⟨8,120,.struct [(0,42),(3,33),(4,50),(7,3)],[.str [],.str [],.str [],.nils,.int .i64 0,.int .i64 0,.nils,.int .i64 0],[.str,.str,.str,.sl 5,.int .i64,.int .i64,.sl 5,.int .i64],[]⟩,
 some ⟨16,216,.struct [(0,3),(1,42),(4,42),(7,42),(10,45),(11,45),(12,45),(13,22),(14,3),(15,3)],[.int .i64 0,.str [],.str [],.str [],.str [],.str [],.str [],.str [],.str [],.str [],.int .u64 0,.int .u64 0,.int .u64 0,.nils,.int .i64 0,.int .i64 0],[.int .i64,.str,.str,.str,.str,.str,.str,.str,.str,.str,.int .u64,.int .u64,.int .u64,.bsl,.int .i64,.int .i64],[]⟩,
 some ⟨16,216,.struct [(0,3),(1,42),(4,42),(7,42),(10,45),(11,45),(12,45),(13,22),(14,3),(15,3)],[.int .i64 0,.str [],.str [],.str [],.str [],.str [],.str [],.str [],.str [],.str [],.int .u64 0,.int .u64 0,.int .u64 0,.nils,.int .i64 0,.int .i64 0],[.int .i64,.str,.str,.str,.str,.str,.str,.str,.str,.str,.int .u64,.int .u64,.int .u64,.bsl,.int .i64,.int .i64],[]⟩,
 none,
 none,
 none,
 some ⟨4,48,.struct [(0,9),(1,9),(2,3),(3,45)],[.str [],.str [],.int .i64 0,.int .u64 0],[.str,.str,.int .i64,.int .u64],[.str,.str,.int .i64,.int .u64]⟩,
 some ⟨4,48,.struct [(0,9),(1,9),(2,3),(3,45)],[.str [],.str [],.int .i64 0,.int .u64 0],[.str,.str,.int .i64,.int .u64],[.str,.str,.int .i64,.int .u64]⟩,
 some ⟨1,8,.ptr 62,[.nilp],[.ptr],[]⟩,
 some ⟨2,32,.struct [(0,22),(1,3)],[.nils,.int .i64 0],[.bsl,.int .i64],[]⟩,
 some ⟨2,32,.struct [(0,22),(1,3)],[.nils,.int .i64 0],[.bsl,.int .i64],[]⟩,
 none,
 some ⟨9,88,.struct [(0,9),(1,9),(2,45),(3,3),(4,3),(5,3),(6,3),(7,3),(8,3)],[.str [],.str [],.int .u64 0,.int .i64 0,.int .i64 0,.int .i64 0,.int .i64 0,.int .i64 0,.int .i64 0],[.str,.str,.int .u64,.int .i64,.int .i64,.int .i64,.int .i64,.int .i64,.int .i64],[.str,.str,.int .u64,.int .i64,.int .i64,.int .i64,.int .i64,.int .i64,.int .i64]⟩,
 some ⟨9,88,.struct [(0,9),(1,9),(2,45),(3,3),(4,3),(5,3),(6,3),(7,3),(8,3)],[.str [],.str [],.int .u64 0,.int .i64 0,.int .i64 0,.int .i64 0,.int .i64 0,.int .i64 0,.int .i64 0],[.str,.str,.int .u64,.int .i64,.int .i64,.int .i64,.int .i64,.int .i64,.int .i64],[.str,.str,.int .u64,.int .i64,.int .i64,.int .i64,.int .i64,.int .i64,.int .i64]⟩,
 none,
 some ⟨1,24,.slice 42 false,[.nils],[.sl 3],[]⟩,
 some ⟨5,64,.struct [(0,42),(3,3),(4,45)],[.str [],.str [],.str [],.int .i64 0,.int .u64 0],[.str,.str,.str,.int .i64,.int .u64],[.str,.str,.str,.int .i64,.int .u64]⟩,
 some ⟨5,64,.struct [(0,42),(3,3),(4,45)],[.str [],.str [],.str [],.int .i64 0,.int .u64 0],[.str,.str,.str,.int .i64,.int .u64],[.str,.str,.str,.int .i64,.int .u64]⟩,
 none,
 some ⟨1,8,.int .i64,[.int .i64 0],[.int .i64],[.int .i64]⟩,
 none,
 none,
 none,
 some ⟨6,80,.struct [(0,4),(1,4),(2,3),(3,9),(4,22),(5,22)],[.bool false,.bool false,.int .i64 0,.str [],.nils,.nils],[.bool,.bool,.int .i64,.str,.bsl,.bsl],[]⟩,
 some ⟨6,80,.struct [(0,4),(1,4),(2,3),(3,9),(4,22),(5,22)],[.bool false,.bool false,.int .i64 0,.str [],.nils,.nils],[.bool,.bool,.int .i64,.str,.bsl,.bsl],[]⟩,
 none,
 none,
 none,
 some ⟨10,128,.struct [(0,76),(6,3),(7,3),(8,9),(9,9)],[.bool false,.bool false,.int .i64 0,.str [],.nils,.nils,.int .i64 0,.int .i64 0,.str [],.str []],[.bool,.bool,.int .i64,.str,.bsl,.bsl,.int .i64,.int .i64,.str,.str],[]⟩,
 some ⟨10,128,.struct [(0,76),(6,3),(7,3),(8,9),(9,9)],[.bool false,.bool false,.int .i64 0,.str [],.nils,.nils,.int .i64 0,.int .i64 0,.str [],.str []],[.bool,.bool,.int .i64,.str,.bsl,.bsl,.int .i64,.int .i64,.str,.str],[]⟩,
 none,
 none,
 some ⟨5,64,.struct [(0,42),(3,3),(4,3)],[.str [],.str [],.str [],.int .i64 0,.int .i64 0],[.str,.str,.str,.int .i64,.int .i64],[.str,.str,.str,.int .i64,.int .i64]⟩,
 some ⟨5,64,.struct [(0,42),(3,3),(4,3)],[.str [],.str [],.str [],.int .i64 0,.int .i64 0],[.str,.str,.str,.int .i64,.int .i64],[.str,.str,.str,.int .i64,.int .i64]⟩,
 none,
 none,
 some ⟨6,88,.struct [(0,28),(2,24),(3,3),(4,4),(5,45)],[.str [],.nils,.nils,.int .i64 0,.bool false,.int .u64 0],[.str,.sl 9,.sl 4,.int .i64,.bool,.int .u64],[]⟩,
 some ⟨6,88,.struct [(0,28),(2,24),(3,3),(4,4),(5,45)],[.str [],.nils,.nils,.int .i64 0,.bool false,.int .u64 0],[.str,.sl 9,.sl 4,.int .i64,.bool,.int .u64],[]⟩,
 some ⟨12,152,.struct [(0,42),(3,45),(4,3),(5,3),(6,3),(7,3),(8,3),(9,3),(10,22),(11,22)],[.str [],.str [],.str [],.int .u64 0,.int .i64 0,.int .i64 0,.int .i64 0,.int .i64 0,.int .i64 0,.int .i64 0,.nils,.nils],[.str,.str,.str,.int .u64,.int .i64,.int .i64,.int .i64,.int .i64,.int .i64,.int .i64,.bsl,.bsl],[]⟩,
 some ⟨12,152,.struct [(0,42),(3,45),(4,3),(5,3),(6,3),(7,3),(8,3),(9,3),(10,22),(11,22)],[.str [],.str [],.str [],.int .u64 0,.int .i64 0,.int .i64 0,.int .i64 0,.int .i64 0,.int .i64 0,.int .i64 0,.nils,.nils],[.str,.str,.str,.int .u64,.int .i64,.int .i64,.int .i64,.int .i64,.int .i64,.int .i64,.bsl,.bsl],[]⟩,
 none,
 none,
 none,
 none,
 none,
 none,
 none,
 none,
 some ⟨1,24,.slice 9 false,[.nils],[.sl 1],[]⟩,
 none,
 none,
 none,
 none,
 some ⟨1,8,.int .u64,[.int .u64 0],[.int .u64],[.int .u64]⟩,
 some ⟨10,120,.struct [(0,4),(1,42),(4,3),(5,45),(6,3),(7,3),(8,9),(9,9)],[.bool false,.str [],.str [],.str [],.int .i64 0,.int .u64 0,.int .i64 0,.int .i64 0,.str [],.str []],[.bool,.str,.str,.str,.int .i64,.int .u64,.int .i64,.int .i64,.str,.str],[.bool,.str,.str,.str,.int .i64,.int .u64,.int .i64,.int .i64,.str,.str]⟩,
 some ⟨10,120,.struct [(0,4),(1,42),(4,3),(5,45),(6,3),(7,3),(8,9),(9,9)],[.bool false,.str [],.str [],.str [],.int .i64 0,.int .u64 0,.int .i64 0,.int .i64 0,.str [],.str []],[.bool,.str,.str,.str,.int .i64,.int .u64,.int .i64,.int .i64,.str,.str],[.bool,.str,.str,.str,.int .i64,.int .u64,.int .i64,.int .i64,.str,.str]⟩,
 some ⟨6,72,.struct [(0,42),(3,3),(4,3),(5,3)],[.str [],.str [],.str [],.int .i64 0,.int .i64 0,.int .i64 0],[.str,.str,.str,.int .i64,.int .i64,.int .i64],[.str,.str,.str,.int .i64,.int .i64,.int .i64]⟩,
 some ⟨6,72,.struct [(0,42),(3,3),(4,3),(5,3)],[.str [],.str [],.str [],.int .i64 0,.int .i64 0,.int .i64 0],[.str,.str,.str,.int .i64,.int .i64,.int .i64],[.str,.str,.str,.int .i64,.int .i64,.int .i64]⟩,
 none,
 none,
 none,
 none,
 none,
 none,
 none,
 none,
 none,
 none,
 none,
 none,
 none,
 none,
 none,
 none,
 none,
 none,
 none,
 none,
 none,
 none,
 none,
 none,
 none,
 none,
 none,
 none,
 none,
 none,
 none,
 none,
 none,
 none,
 none,
 none,
 some ⟨8,104,.struct [(0,45),(1,42),(4,3),(5,3),(6,22),(7,3)],[.int .u64 0,.str [],.str [],.str [],.int .i64 0,.int .i64 0,.nils,.int .i64 0],[.int .u64,.str,.str,.str,.int .i64,.int .i64,.bsl,.int .i64],[]⟩,
 some ⟨8,104,.struct [(0,45),(1,42),(4,3),(5,3),(6,22),(7,3)],[.int .u64 0,.str [],.str [],.str [],.int .i64 0,.int .i64 0,.nils,.int .i64 0],[.int .u64,.str,.str,.str,.int .i64,.int .i64,.bsl,.int .i64],[]⟩,
 none,
 none,
 none,
 none,
 none,
 none,
 none,
 none,
 none,
 none,
 some ⟨1,24,.slice 3 false,[.nils],[.sl 1],[]⟩,
 none,
 none,
 none,
 none,
 none,
 none,
 none,
 none,
 none,
 none,
 none,
 none,
 none,
 none,
 none,
 none,
 none,
 none,
 none,
 some ⟨7,88,.struct [(0,4),(1,42),(4,3),(5,71),(6,9)],[.bool false,.str [],.str [],.str [],.int .i64 0,.int .i64 0,.str []],[.bool,.str,.str,.str,.int .i64,.int .i64,.str],[.bool,.str,.str,.str,.int .i64,.int .i64,.str]⟩,
 some ⟨7,88,.struct [(0,4),(1,42),(4,3),(5,71),(6,9)],[.bool false,.str [],.str [],.str [],.int .i64 0,.int .i64 0,.str []],[.bool,.str,.str,.str,.int .i64,.int .i64,.str],[.bool,.str,.str,.str,.int .i64,.int .i64,.str]⟩,
 none,
 none,
 none,
 none,
 none,
 none,
 none,
 none,
 none,
 none,
 some ⟨8,104,.struct [(0,4),(1,42),(4,3),(5,3),(6,3),(7,22)],[.bool false,.str [],.str [],.str [],.int .i64 0,.int .i64 0,.int .i64 0,.nils],[.bool,.str,.str,.str,.int .i64,.int .i64,.int .i64,.bsl],[]⟩,
 some ⟨8,104,.struct [(0,4),(1,42),(4,3),(5,3),(6,3),(7,22)],[.bool false,.str [],.str [],.str [],.int .i64 0,.int .i64 0,.int .i64 0,.nils],[.bool,.str,.str,.str,.int .i64,.int .i64,.int .i64,.bsl],[]⟩,
 none,
 none,
 none,
 none,
 none,
 none,
 none,
 some ⟨4,56,.struct [(0,42),(3,3)],[.str [],.str [],.str [],.int .i64 0],[.str,.str,.str,.int .i64],[.str,.str,.str,.int .i64]⟩,
 some ⟨4,56,.struct [(0,42),(3,3)],[.str [],.str [],.str [],.int .i64 0],[.str,.str,.str,.int .i64],[.str,.str,.str,.int .i64]⟩,
 none,
 none,
 none,
 some ⟨10,160,.arr 10 9 false,[.str [],.str [],.str [],.str [],.str [],.str [],.str [],.str [],.str [],.str []],[.str,.str,.str,.str,.str,.str,.str,.str,.str,.str],[]⟩,
 none,
 some ⟨3,40,.struct [(0,3),(1,45),(2,22)],[.int .i64 0,.int .u64 0,.nils],[.int .i64,.int .u64,.bsl],[]⟩,
 some ⟨3,40,.struct [(0,3),(1,45),(2,22)],[.int .i64 0,.int .u64 0,.nils],[.int .i64,.int .u64,.bsl],[]⟩,
 none,
 none,
 none,
 none,
 none,
 none,
 none,
 none,
 some ⟨1,24,.slice 22 false,[.nils],[.sl 1],[]⟩,
 some ⟨4,4,.arr 4 5 true,[.u8 0,.u8 0,.u8 0,.u8 0],[.u8,.u8,.u8,.u8],[]⟩,
 some ⟨1,8,.ptr 9,[.nilp],[.ptr],[]⟩,
 some ⟨1,24,.slice 218 false,[.nils],[.sl 1],[]⟩,
 none,
 some ⟨4,40,.struct [(0,17),(1,17),(2,17),(3,9)],[.nilp,.nilp,.nilp,.str []],[.ptr,.ptr,.ptr,.str],[]⟩,
 none,
 some ⟨0,0,.arr 0 16 false,[],[],[]⟩,
 none,
 none,
 none,
 some ⟨1,1,.u8,[.u8 0],[.u8],[.u8]⟩,
 some ⟨1,1,.u8,[.u8 0],[.u8],[.u8]⟩,
 none,
 some ⟨1,8,.ptr 5,[.nilp],[.ptr],[]⟩,
 some ⟨1,4,.int .i32,[.int .i32 0],[.int .i32],[.int .i32]⟩,
 some ⟨1,4,.int .i32,[.int .i32 0],[.int .i32],[.int .i32]⟩,
 none,
 none,
 none]
def keepT:List (Nat×Nat×List Keep):=[(3,7,[.val 0 22,.val 2 5,.val 6 4,.val 7 24,.val 8 3]),
 (5,4,[.val 3 24,.rowL 4 59 4 false,.val 5 3]),
 (5,8,[.val 3 24,.rowL 4 59 4 false,.val 5 3,.val 6 4,.val 7 3]),
 (6,3,[.cells 4 [.str,.sl 9],.ptr 4 4 0,.cells 11 [.bsl,.int .i64],.ptr 5 11 0,.cells 6 [.str,.sl 9],.ptr 6 6 0]),
 (6,6,[.cells 4 [.str,.sl 9],.ptr 4 4 0,.cells 11 [.bsl,.int .i64],.ptr 5 11 0,.cells 6 [.str,.sl 9],.ptr 6 6 0,.cells 7 [.str,.str,.int .u64,.int .i64,.int .i64,.int .i64,.int .i64,.int .i64,.int .i64],.ptr 7 7 0,.val 8 3]),
 (6,2000003,[.cells 4 [.str,.sl 9],.ptr 4 4 0,.cells 11 [.bsl,.int .i64],.ptr 5 11 0,.cells 6 [.str,.sl 9],.ptr 6 6 0,.val 22 4]),
 (6,2000006,[.cells 4 [.str,.sl 9],.ptr 4 4 0,.cells 11 [.bsl,.int .i64],.ptr 5 11 0,.cells 6 [.str,.sl 9],.ptr 6 6 0,.cells 7 [.str,.str,.int .u64,.int .i64,.int .i64,.int .i64,.int .i64,.int .i64,.int .i64],.ptr 7 7 0,.val 8 3,.val 62 4]),
 (7,4,[.val 0 5,.val 1 5,.val 2 5,.cells 6 [.str,.sl 9],.ptr 6 6 0,.cellsR 7 [.imm (.str),.own 20701 65 9 false],.ptr 7 7 0,.val 8 67,.val 9 3]),
 (7,3000008,[.val 0 5,.val 1 5,.val 2 5,.cells 6 [.str,.sl 9],.ptr 6 6 0,.cellsR 7 [.imm (.str),.own 20701 65 9 false],.ptr 7 7 0,.val 8 67,.val 9 3,.cells 10 [.str,.str,.int .u64,.int .i64,.int .i64,.int .i64,.int .i64,.int .i64,.int .i64],.ptr 10 10 0]),
 (7,3000010,[.val 0 5,.val 1 5,.val 2 5,.cells 6 [.str,.sl 9],.ptr 6 6 0,.cellsR 7 [.imm (.str),.own 20701 65 9 false],.ptr 7 7 0,.val 8 67,.val 9 3,.cells 10 [.str,.str,.int .u64,.int .i64,.int .i64,.int .i64,.int .i64,.int .i64,.int .i64],.ptr 10 10 0]),
 (8,4,[.val 0 33,.val 1 33,.val 4 4,.val 5 3]),
 (9,9,[.cells 2 [.str,.sl 9],.ptr 2 2 0,.rowL 5 69 5 false,.val 45 24,.val 46 3,.val 47 3]),
 (10,6,[.val 1 24,.cells 2 [.str,.sl 9],.ptr 2 2 0,.rowL 5 69 5 false,.val 8 3]),
 (18,3,[.cells 7 [.bsl,.int .i64],.ptr 3 7 0,.rowL 4 59 4 false]),
 (21,3000003,[.cells 0 [.bsl,.int .i64],.ptr 0 0 0,.cells 2 [.str,.str,.int .u64,.int .i64,.int .i64,.int .i64,.int .i64,.int .i64,.int .i64],.ptr 2 2 0,.cells 3 [.str,.str,.str],.ptr 3 3 0]),
 (21,3000006,[.cells 0 [.bsl,.int .i64],.ptr 0 0 0,.cells 2 [.str,.str,.int .u64,.int .i64,.int .i64,.int .i64,.int .i64,.int .i64,.int .i64],.ptr 2 2 0,.cells 4 [.str,.str,.int .u64,.int .i64,.int .i64,.int .i64,.int .i64,.int .i64,.int .i64],.ptr 4 4 0]),
 (21,3000008,[.cells 0 [.bsl,.int .i64],.ptr 0 0 0,.cells 2 [.str,.str,.int .u64,.int .i64,.int .i64,.int .i64,.int .i64,.int .i64,.int .i64],.ptr 2 2 0,.cells 4 [.str,.str,.int .u64,.int .i64,.int .i64,.int .i64,.int .i64,.int .i64,.int .i64],.ptr 4 4 0]),
 (24,3,[.val 1 9,.val 2 9,.val 6 3,.val 7 71,.val 8 3,.val 9 4,.val 13 26,.val 14 3,.val 15 3]),
 (26,3,[.val 1 9,.val 2 9,.cells 3 [.str,.sl 9],.ptr 3 3 0,.val 8 3,.val 9 3,.val 10 3]),
 (29,3000003,[.val 2 45,.val 3 3,.cells 4 [.u8,.u8,.u8,.u8,.bool,.bool,.bool,.u8,.u8,.u8,.u8,.u8,.u8,.int .u32,.u8,.u8,.u8,.int .u16,.int .u16],.ptr 4 4 0,.cells 5 [.str,.str,.str],.ptr 5 5 0,.cells 8 [.bool,.bool,.int .i64,.str,.bsl,.bsl],.ptr 8 8 0,.cells 9 [.bool,.str,.str,.str,.int .i64,.int .u64,.int .i64,.int .i64,.str,.str],.ptr 9 9 0]),
 (29,3000006,[.val 2 45,.val 3 3,.cells 4 [.u8,.u8,.u8,.u8,.bool,.bool,.bool,.u8,.u8,.u8,.u8,.u8,.u8,.int .u32,.u8,.u8,.u8,.int .u16,.int .u16],.ptr 4 4 0,.cells 5 [.str,.str,.str],.ptr 5 5 0,.cells 8 [.bool,.bool,.int .i64,.str,.bsl,.bsl],.ptr 8 8 0,.cells 9 [.bool,.str,.str,.str,.int .i64,.int .u64,.int .i64,.int .i64,.str,.str],.ptr 9 9 0,.cells 10 [.str,.str,.str,.int .i64,.int .i64,.int .i64],.ptr 10 10 0]),
 (29,3000011,[.cells 4 [.u8,.u8,.u8,.u8,.bool,.bool,.bool,.u8,.u8,.u8,.u8,.u8,.u8,.int .u32,.u8,.u8,.u8,.int .u16,.int .u16],.ptr 4 4 0,.cells 8 [.bool,.bool,.int .i64,.str,.bsl,.bsl],.ptr 8 8 0,.val 13 22,.cells 15 [.bool,.bool,.int .i64,.str,.bsl,.bsl],.ptr 15 15 0]),
 (29,3000013,[.cells 4 [.u8,.u8,.u8,.u8,.bool,.bool,.bool,.u8,.u8,.u8,.u8,.u8,.u8,.int .u32,.u8,.u8,.u8,.int .u16,.int .u16],.ptr 4 4 0,.cells 8 [.bool,.bool,.int .i64,.str,.bsl,.bsl],.ptr 8 8 0,.cells 15 [.bool,.bool,.int .i64,.str,.bsl,.bsl],.ptr 15 15 0]),
 (29,3000015,[.cells 4 [.u8,.u8,.u8,.u8,.bool,.bool,.bool,.u8,.u8,.u8,.u8,.u8,.u8,.int .u32,.u8,.u8,.u8,.int .u16,.int .u16],.ptr 4 4 0,.cells 8 [.bool,.bool,.int .i64,.str,.bsl,.bsl],.ptr 8 8 0,.cells 15 [.bool,.bool,.int .i64,.str,.bsl,.bsl],.ptr 15 15 0]),
 (29,3000017,[.cells 4 [.u8,.u8,.u8,.u8,.bool,.bool,.bool,.u8,.u8,.u8,.u8,.u8,.u8,.int .u32,.u8,.u8,.u8,.int .u16,.int .u16],.ptr 4 4 0,.cells 8 [.bool,.bool,.int .i64,.str,.bsl,.bsl],.ptr 8 8 0,.cells 15 [.bool,.bool,.int .i64,.str,.bsl,.bsl],.ptr 15 15 0]),
 (29,3000019,[.cells 8 [.bool,.bool,.int .i64,.str,.bsl,.bsl],.ptr 8 8 0,.cells 15 [.bool,.bool,.int .i64,.str,.bsl,.bsl],.ptr 15 15 0]),
 (36,2,[.cells 2 [.str,.str,.str,.sl 5,.int .i64,.int .i64,.sl 5,.int .i64],.ptr 2 2 0,.cells 3 [.bool,.bool,.int .i64,.str,.bsl,.bsl],.ptr 3 3 0,.cells 4 [.str,.str,.str],.ptr 4 4 0,.val 10 33,.val 11 3,.val 12 3]),
 (45,1000038,[.val 0 3]),
 (45,1000042,[.val 0 3]),
 (64,13,[.cells 4 [.int .i64,.int .i64,.sl 5],.ptr 4 4 0,.cells 5 [.str,.str,.str,.int .i64,.int .i64],.ptr 5 5 0,.cells 8 [.int .i64,.int .i64,.sl 5],.ptr 8 8 0,.cellsR 10 [.imm (.int .i64),.imm (.int .i64),.own 21002 85 5 false],.ptr 10 10 0,.val 60 48,.val 61 3,.val 62 3]),
 (70,1000018,[.val 0 3]),
 (77,1000023,[.val 0 3]),
 (81,2,[.val 0 9,.val 1 9,.val 4 4,.val 5 3]),
 (81,7,[.val 0 9,.val 1 9,.val 4 4,.val 5 3,.val 6 3]),
 (82,3,[.val 1 3,.val 2 3,.val 3 4,.rowB 9 5 false,.val 10 3]),
 (84,2,[.val 0 3,.val 4 4,.val 7 158,.val 8 3,.val 9 3]),
 (86,6,[.val 0 22,.val 1 3,.val 2 3,.val 3 4,.val 12 3,.val 22 3,.val 23 3]),
 (97,4,[.val 0 33,.val 2 71,.val 8 33,.val 9 3,.val 10 3]),
 (98,6,[.cells 1 [.int .i64,.int .i64,.sl 5],.ptr 1 1 0,.val 2 71,.val 22 48,.val 23 3,.val 24 3]),
 (112,3,[.val 0 24,.val 1 9,.val 2 9,.val 8 3,.val 9 4,.val 12 24,.val 13 3,.val 14 3]),
 (122,3,[.val 0 45,.rowB 3 5 false,.val 4 3]),
 (123,2,[.rowB 3 5 false]),
 (129,3,[.val 0 216,.val 3 3,.val 9 216,.val 10 3,.val 11 3]),
 (129,11,[.rowB 6 5 false,.val 25 216,.val 26 3,.val 27 3]),
 (130,2,[.val 0 9,.val 1 9,.val 4 4,.val 7 3,.val 8 3]),
 (131,3,[.val 0 22,.val 1 3,.val 2 3,.val 3 4,.barr 9 false,.ptr 9 9 0,.val 12 3,.val 13 3]),
 (132,2,[.val 0 33,.cells 3 [.str,.str,.str,.int .i64],.ptr 3 3 0,.val 4 3,.val 7 33,.val 8 3,.val 9 3]),
 (134,2,[.cells 3 [.str,.str,.str,.int .i64,.int .i64],.ptr 3 3 0,.val 4 4,.val 7 48,.val 8 3,.val 9 3]),
 (142,4,[.val 0 22,.val 1 3,.cells 4 [.str,.str,.str],.ptr 4 4 0,.val 5 3,.val 6 71,.cells 7 [.str,.str,.str],.ptr 7 7 0,.psl 14 7 [0,1,2],.val 15 3,.val 16 3]),
 (143,5,[.val 4 45,.val 10 22,.val 11 3,.val 12 3]),
 (146,2,[.val 0 3,.val 7 158,.val 8 3,.val 9 3]),
 (148,3,[.val 0 45,.rowB 3 5 false,.val 7 3,.val 8 3])]
def ownT:List Nat:=[31,32,82,123,156,50,51,129,125,131,93,94,151]
def rtsT:List (Nat×List Nat):=[(8,[4]),(13,[45]),(17,[45]),(20,[4]),(23,[42]),(24,[3,71]),(26,[3,71]),(28,[42]),(31,[33]),(32,[48]),(39,[3]),(40,[100]),(42,[45]),(45,[22]),(49,[4]),(52,[22]),(59,[4]),(65,[22]),(68,[4]),(74,[4]),(75,[4]),(80,[22]),(81,[4]),(82,[22]),(84,[4]),(87,[71]),(92,[4]),(99,[4]),(101,[42]),(105,[4]),(107,[9]),(112,[3,4]),(122,[22]),(123,[22]),(126,[4]),(127,[3]),(133,[200]),(134,[4]),(136,[4]),(137,[4]),(138,[4]),(146,[3]),(148,[22]),(150,[4]),(154,[4]),(155,[4]),(156,[22]),(161,[3]),(162,[4]),(163,[4]),(19,[9]),(27,[4]),(41,[3,3,4]),(47,[4]),(48,[4]),(50,[22]),(51,[22]),(60,[52]),(79,[4]),(83,[3,4,71]),(85,[22,3,71]),(86,[3,3,71]),(88,[3]),(103,[4]),(106,[4]),(114,[3]),(121,[22]),(128,[22]),(129,[22]),(132,[3]),(147,[3,4]),(158,[3]),(10,[33]),(12,[42]),(14,[42]),(18,[24]),(22,[42]),(25,[4]),(46,[22,71]),(53,[4,71]),(55,[3,3,71]),(56,[3,3,71]),(57,[9,3,71]),(71,[3]),(77,[22,71]),(95,[22]),(100,[45,4]),(104,[71]),(115,[3,4]),(125,[22]),(131,[22]),(139,[3]),(149,[22]),(152,[4]),(153,[3]),(5,[24]),(7,[28]),(9,[33]),(21,[65]),(30,[22,71]),(38,[42]),(54,[76,3]),(63,[71]),(70,[3,4]),(93,[22]),(94,[22]),(118,[22,71]),(120,[71]),(124,[71]),(130,[4]),(140,[22]),(143,[45,4]),(145,[3,71]),(151,[22]),(6,[28]),(16,[52]),(76,[22,71]),(78,[22,71]),(90,[4]),(91,[4]),(113,[3,71]),(141,[207,3,71]),(43,[22,71]),(44,[22,71]),(109,[22,4]),(111,[4]),(29,[76]),(69,[45,3,3,3,71]),(89,[22,71]),(96,[4]),(11,[22]),(58,[22,71]),(97,[71]),(98,[71]),(108,[22,71]),(117,[22,71]),(119,[22,71]),(142,[42,3,71]),(159,[71]),(160,[71]),(33,[81,71]),(61,[71]),(64,[50,71]),(66,[22]),(73,[22,71]),(144,[22,71]),(157,[22,71]),(35,[22,54,4]),(110,[107,71]),(116,[22,71]),(135,[109,71]),(67,[107,71]),(72,[54,147,71]),(102,[109,71]),(36,[42]),(37,[22,54,4]),(62,[107,109,71]),(34,[52,91,71]),(15,[52,22,54,4]),(4,[4]),(3,[4])]
def sp8:Abs.Spec:=fun xs bl=>match xs,bl with
 | [.sl 5 kls,.sl 5 jls],[]=>chk (kls.all Yu&&decide (kls.length≤1000000)&&jls.all Yu) (some (.bool (Kerb.sameSKeys (kls.map Zw) (jls.map Zw)),[]))
 | _,_=>none
def sp13:Abs.Spec:=fun xs bl=>match xs,bl with
 | [.int .i64 n],[]=>chk (decide (0≤n)&&decide (n≤1000)) (some (.int .u64 (Kerb.long n),[]))
 | _,_=>none
def sp17:Abs.Spec:=fun xs bl=>match xs,bl with
 | [.int .i64 n],[]=>chk (decide (0≤n)&&decide (n≤1000)) (some (.int .u64 (Kerb.session n),[]))
 | _,_=>none
def sp20:Abs.Spec:=fun xs bl=>match xs,bl with
 | [.ptr 0 0],[(0,[.bs l,.int .i64 pos])]=>some (.bool (decide (pos<(l.length:Int))),[[.bs l,.int .i64 pos]])
 | _,_=>none
def sp23:Abs.Spec:=fun xs bl=>match xs,bl with
 | [.str r,.str t],[]=>some (.agg [.str [107,114,98,116,103,116],.str t,.str r],[])
 | _,_=>none
def sp24:Abs.Spec:=fun xs bl=>match xs,bl with
 | [.agg [.str rl,.sl 9 els],.str n,.str i],[]=>chk (els.all Yq&&decide (els.length≤1000000)) (some (.tup [.int .i64 (Kerb.findEnt (els.map Zv) n i).1,.int .i64 (Kerb.findEnt (els.map Zv) n i).2],[]))
 | _,_=>none
def sp26:Abs.Spec:=fun xs bl=>match xs,bl with
 | [.agg [.str rl,.sl 9 els],.str n,.str i],[]=>chk (els.all Yq&&decide (els.length≤1000000)) (some (.tup [.int .i64 (Kerb.findEnt (els.map Zv) n i).1,.int .i64 (Kerb.findEnt (els.map Zv) n i).2],[]))
 | _,_=>none
def sp28:Abs.Spec:=fun xs bl=>match xs,bl with
 | [.str r,.str t],[]=>some (.agg [.str [107,114,98,116,103,116],.str t,.str r],[])
 | _,_=>none
def sp31:Abs.Spec:=fun xs bl=>match xs,bl with
 | [.sl 5 kls],[]=>chk (decide (kls.length≤1000000)) (some (.ownL kls,[]))
 | _,_=>none
def sp32:Abs.Spec:=fun xs bl=>match xs,bl with
 | [.sl 5 mls],[]=>chk (decide (mls.length≤1000000)) (some (.ownL mls,[]))
 | _,_=>none
def sp39:Abs.Spec:=fun xs bl=>match xs,bl with
 | [.ptr 0 0,.int .i64 n],[(0,[.bs l,.int .i64 pos])]=>chk (decide (l.length≤4611686018427387904)&&decide (0≤pos)) (some (.int .i64 (Kerb.next l pos n),[[.bs l,.int .i64 (Kerb.nextPos l pos n)]]))
 | _,_=>none
def sp40:Abs.Spec:=fun xs bl=>match xs,bl with
 | [],[]=>some (.sl 1 [.str [65,84,72],.str [66,79,83],.str [67,65,77]],[])
 | _,_=>none
def sp42:Abs.Spec:=fun xs bl=>match xs,bl with
 | [.int .i64 c,.int .i64 n],[]=>some (.int .u64 (cond (Kerb.isClass c&&Kerb.isSerial n) (c*72057594037927936+n) 0),[])
 | _,_=>none
def sp45:Abs.Spec:=fun xs bl=>match xs,bl with
 | [.bs b,.int .u16 how],[]=>chk (decide (b.length≤1000000)&&decide (0≤how)&&decide (how≤65535)) (some (.bs (Kerb.spoil b how),[]))
 | _,_=>none
def sp49:Abs.Spec:=fun xs bl=>match xs,bl with
 | [.int .i64 n,.int .i64 m],[]=>some (.bool (Yv n m),[])
 | _,_=>none
def sp52:Abs.Spec:=fun xs bl=>match xs,bl with
 | [.bs b,.str s],[]=>chk (decide (b.length+s.length≤70368744177664)) (some (.bs (Kerb.putText b s),[]))
 | _,_=>none
def sp59:Abs.Spec:=fun xs bl=>match xs,bl with
 | [.bs a,.bs b],[]=>some (.bool (a==b),[])
 | _,_=>none
def sp65:Abs.Spec:=fun xs bl=>match xs,bl with
 | [.bs b],[]=>chk (decide (b.length≤140737488355328)) (some (.bs b,[]))
 | _,_=>none
def sp68:Abs.Spec:=fun xs bl=>match xs,bl with
 | [.agg [.str x,.str y,.str z]],[]=>some (.bool (x==Kerb.krbtgt),[])
 | _,_=>none
def sp74:Abs.Spec:=fun xs bl=>match xs,bl with
 | [.int .i64 k],[]=>some (.bool (Kerb.isClass k),[])
 | _,_=>none
def sp75:Abs.Spec:=fun xs bl=>match xs,bl with
 | [.int .i64 k],[]=>some (.bool (Kerb.isSerial k),[])
 | _,_=>none
def sp80:Abs.Spec:=fun xs bl=>match xs,bl with
 | [.int .i64 k,.bool little],[]=>some (.bs (Kerb.header k little),[])
 | _,_=>none
def sp81:Abs.Spec:=fun xs bl=>match xs,bl with
 | [.str s,.str bad],[]=>chk (decide (s.length≤9223372036854775807)&&decide (bad.length≤100)) (some (.bool (Kerb.printable s bad&&decide (s.length≤39)),[]))
 | _,_=>none
def sp82:Abs.Spec:=fun xs bl=>match xs,bl with
 | [.bs b,.int .i64 n,.int .i64 k,.bool little],[]=>chk (decide (k=1∨k=2∨k=4)&&decide (b.length≤70368744177664)) (some (.ownB (b++Yh n k.toNat little),[]))
 | _,_=>none
def sp84:Abs.Spec:=fun xs bl=>match xs,bl with
 | [.int .i64 k,.sl 1 els],[]=>chk (allInts els&&decide (els.length≤1000)) (some (.bool ((intsIn els).contains k),[]))
 | _,_=>none
def sp87:Abs.Spec:=fun xs bl=>match xs,bl with
 | [.bs b,.int .i64 pos,.int .i64 n],[]=>chk (decide (b.length≤4611686018427387904)) (some (.int .i64 (Kerb.room b pos n),[]))
 | _,_=>none
def sp92:Abs.Spec:=fun xs bl=>match xs,bl with
 | [.int .i64 n,.int .i64 m],[]=>some (.bool (Yv n m),[])
 | _,_=>none
def sp99:Abs.Spec:=fun xs bl=>match xs,bl with
 | [.int .i64 n],[]=>some (.bool (Yv n 4294967295),[])
 | _,_=>none
def sp101:Abs.Spec:=fun xs bl=>match xs,bl with
 | [.agg [.bool ali,.str b1,.str b2,.str b3,.int .i64 aad,.int .u64 ak,.int .i64 alf,.int .i64 ais,.str asv,.str ain],.str rl],[]=>some (.agg [.str asv,.str ain,.str rl],[])
 | _,_=>none
def sp105:Abs.Spec:=fun xs bl=>match xs,bl with
 | [.int .i64 n,.int .i64 l,.int .i64 m],[]=>some (.bool (decide (l≤n)&&decide (n≤m)),[])
 | _,_=>none
def sp107:Abs.Spec:=fun xs bl=>match xs,bl with
 | [.int .i64 code],[]=>some (.str (Kerb.message code),[])
 | _,_=>none
def sp112:Abs.Spec:=fun xs bl=>match xs,bl with
 | [.sl 4 xls,.str a,.str b],[]=>chk (xls.all Ym&&decide (xls.length≤1000000)) (some (.tup [.int .i64 (Kerb.findCross (xls.map Zu) a b).1,.bool (Kerb.findCross (xls.map Zu) a b).2],[]))
 | _,_=>none
def sp122:Abs.Spec:=fun xs bl=>match xs,bl with
 | [.int .u64 k],[]=>chk (decide (0≤k)&&decide (k<18446744073709551616)) (some (.bs (Kerb.keyBytes k),[]))
 | _,_=>none
def sp123:Abs.Spec:=fun xs bl=>match xs,bl with
 | [.bs b],[]=>chk (decide (b.length≤70368744177664)) (some (.ownB (Kerb.pad b),[]))
 | _,_=>none
def sp126:Abs.Spec:=fun xs bl=>match xs,bl with
 | [.int .i64 k],[]=>some (.bool (Kerb.isKind k),[])
 | _,_=>none
def sp127:Abs.Spec:=fun xs bl=>match xs,bl with
 | [.bs s,.u8 c],[]=>some (.int .i64 (Kerb.indexOf c s),[])
 | _,_=>none
def sp133:Abs.Spec:=fun xs bl=>match xs,bl with
 | [.agg [.str x,.str y,.str z,.int .i64 v,.int .u64 k]],[]=>some (.agg [.str x,.str y,.str z,.int .i64 v],[])
 | _,_=>none
def sp134:Abs.Spec:=fun xs bl=>match xs,bl with
 | [.sl 5 mls,.agg [.str a1,.str a2,.str a3,.int .i64 at_,.int .i64 atk]],[]=>chk (mls.all Yp&&decide (mls.length≤1000000)) (some (.bool (Kerb.hasMark (mls.map Zx) (Yb ⟨a1,a2,a3⟩ at_ atk)),[]))
 | _,_=>none
def sp136:Abs.Spec:=fun xs bl=>match xs,bl with
 | [.int .i64 n],[]=>some (.bool (Yv n 4294967295),[])
 | _,_=>none
def sp137:Abs.Spec:=fun xs bl=>match xs,bl with
 | [.int .i64 n],[]=>some (.bool (Yv n 255),[])
 | _,_=>none
def sp138:Abs.Spec:=fun xs bl=>match xs,bl with
 | [.int .i64 n,.int .i64 m],[]=>some (.bool (Yv n m),[])
 | _,_=>none
def sp146:Abs.Spec:=fun xs bl=>match xs,bl with
 | [.int .i64 n,.sl 1 els],[]=>chk (allInts els&&decide (els.length≤1000000)) (some (.int .i64 (Kerb.least n (intsIn els)),[]))
 | _,_=>none
def sp148:Abs.Spec:=fun xs bl=>match xs,bl with
 | [.int .u64 k],[]=>chk (decide (0≤k)&&decide (k<18446744073709551616)) (some (.bs (Kerb.keyBytes k),[]))
 | _,_=>none
def sp150:Abs.Spec:=fun xs bl=>match xs,bl with
 | [.int .i64 k],[]=>some (.bool (Kerb.isKind k),[])
 | _,_=>none
def sp154:Abs.Spec:=fun xs bl=>match xs,bl with
 | [.int .i64 n,.int .i64 m],[]=>some (.bool (Yv n m),[])
 | _,_=>none
def sp155:Abs.Spec:=fun xs bl=>match xs,bl with
 | [.int .i64 n,.int .i64 m],[]=>some (.bool (Yv n m),[])
 | _,_=>none
def sp156:Abs.Spec:=fun xs bl=>match xs,bl with
 | [.nils,.int .i64 n],[]=>chk (decide (0≤n)&&decide (n≤140737488355328)) (some (.ownB [],[]))
 | _,_=>none
def sp161:Abs.Spec:=fun xs bl=>match xs,bl with
 | [.str s,.u8 c],[]=>some (.int .i64 (Kerb.indexOf c s),[])
 | _,_=>none
def sp162:Abs.Spec:=fun xs bl=>match xs,bl with
 | [.int .i64 n,.int .i64 m],[]=>some (.bool (Yv n m),[])
 | _,_=>none
def sp163:Abs.Spec:=fun xs bl=>match xs,bl with
 | [.int .i64 n,.int .i64 m],[]=>some (.bool (Yv n m),[])
 | _,_=>none
def sp19:Abs.Spec:=fun xs bl=>match xs,bl with
 | [.int .i64 n],[]=>chk (decide (0≤n)) (some (.str (Kerb.realm n),[]))
 | _,_=>none
def sp27:Abs.Spec:=fun xs bl=>match xs,bl with
 | [.int .u64 k],[]=>chk (decide (0≤k)&&decide (k<18446744073709551616)) (some (.bool (Xw k),[]))
 | _,_=>none
def sp41:Abs.Spec:=fun xs bl=>match xs,bl with
 | [.int .u64 k],[]=>chk (decide (0≤k)&&decide (k<18446744073709551616)) (some (.tup [.int .i64 (cond (Xw k) (Kerb.keyClass k) 0),.int .i64 (cond (Xw k) (Kerb.keySerial k) 0),.bool (Xw k)],[]))
 | _,_=>none
def sp47:Abs.Spec:=fun xs bl=>match xs,bl with
 | [.str s],[]=>chk (decide (s.length≤9223372036854775807)) (some (.bool (Kerb.validName s),[]))
 | _,_=>none
def sp48:Abs.Spec:=fun xs bl=>match xs,bl with
 | [.str s],[]=>chk (decide (s.length≤9223372036854775807)) (some (.bool (Kerb.validInst s),[]))
 | _,_=>none
def sp50:Abs.Spec:=fun xs bl=>match xs,bl with
 | [.bs b,.int .i64 n],[]=>chk (decide (b.length≤70368744177664)) (some (.ownB (b++Yh n 1 false),[]))
 | _,_=>none
def sp51:Abs.Spec:=fun xs bl=>match xs,bl with
 | [.bs b,.int .i64 n,.bool little],[]=>chk (decide (b.length≤70368744177664)) (some (.ownB (b++Yh n 4 little),[]))
 | _,_=>none
def sp60:Abs.Spec:=fun xs bl=>match xs,bl with
 | [.agg [.str m1,.str m2,.str m3,.sl 5 kls,.int .i64 sz,.int .i64 fl,.sl 5 mls,.int .i64 sk]],[]=>chk (decide (kls.length≤1000000)&&decide (mls.length≤1000000)) (some (.agg [.str m1,.str m2,.str m3,.sl 5 kls,.int .i64 sz,.int .i64 fl,.sl 5 mls,.int .i64 sk],[]))
 | _,_=>none
def sp79:Abs.Spec:=fun xs bl=>match xs,bl with
 | [.str s],[]=>chk (decide (s.length≤9223372036854775807)) (some (.bool (Kerb.validRealm s),[]))
 | _,_=>none
def sp83:Abs.Spec:=fun xs bl=>match xs,bl with
 | [.bs b],[]=>some (.tup [.int .i64 (Kerb.readHead b).kind,.bool (Kerb.readHead b).little,.int .i64 (Kerb.readHead b).err],[])
 | _,_=>none
def sp85:Abs.Spec:=fun xs bl=>match xs,bl with
 | [.bs b,.int .i64 pos,.int .i64 n],[]=>chk (decide (b.length≤140737488355328)) (some (.tup [.bs (Kerb.bytes b pos n).val,.int .i64 (Kerb.bytes b pos n).next,.int .i64 (Kerb.bytes b pos n).err],[]))
 | _,_=>none
def sp86:Abs.Spec:=fun xs bl=>match xs,bl with
 | [.bs b,.int .i64 pos,.int .i64 k,.bool little],[]=>chk (decide (b.length≤4611686018427387904)&&decide (0≤k)&&decide (k≤4)) (some (.tup [.int .i64 (Xz b pos k little).val,.int .i64 (Xz b pos k little).next,.int .i64 (Xz b pos k little).err],[]))
 | _,_=>none
def sp88:Abs.Spec:=fun xs bl=>match xs,bl with
 | [.bs s,.u8 c],[]=>some (.int .i64 (Kerb.indexOf c s),[])
 | _,_=>none
def sp103:Abs.Spec:=fun xs bl=>match xs,bl with
 | [.int .i64 a,.int .i64 b,.int .i64 s],[]=>some (.bool (Kerb.near a b s),[])
 | _,_=>none
def sp106:Abs.Spec:=fun xs bl=>match xs,bl with
 | [.agg [.int .i64 sz,.int .i64 fl,.sl 5 mls],.agg [.str a1,.str a2,.str a3,.int .i64 at_,.int .i64 atk]],[]=>chk (mls.all Yp&&decide (mls.length≤1000000)) (some (.bool (Kerb.hasMark (mls.map Zx) (Yb ⟨a1,a2,a3⟩ at_ atk)),[]))
 | _,_=>none
def sp114:Abs.Spec:=fun xs bl=>match xs,bl with
 | [.int .i64 i,.int .i64 l],[]=>some (.int .i64 (Kerb.tEnd i l),[])
 | _,_=>none
def sp121:Abs.Spec:=fun xs bl=>match xs,bl with
 | [.bs b,.agg [.str x,.str y,.str z]],[]=>chk (decide (b.length+x.length+y.length+z.length≤70368744170000)) (some (.bs (Kerb.putPrin b ⟨x,y,z⟩),[]))
 | _,_=>none
def sp128:Abs.Spec:=fun xs bl=>match xs,bl with
 | [.int .i64 k,.bool little],[]=>some (.bs (Kerb.header k little),[])
 | _,_=>none
def sp129:Abs.Spec:=fun xs bl=>match xs,bl with
 | [.sl 1 els],[]=>chk (allB els&&decide ((catB els).length≤140737488355328)&&decide (els.length≤1000)) (some (.ownB (catB els),[]))
 | _,_=>none
def sp132:Abs.Spec:=fun xs bl=>match xs,bl with
 | [.sl 5 kls,.agg [.str x,.str y,.str z,.int .i64 v]],[]=>chk (kls.all Yu&&decide (kls.length≤1000000)) (some (.int .i64 ((Kerb.skAt (kls.map Zw) ⟨x,y,z⟩ v:Nat):Int),[]))
 | _,_=>none
def sp147:Abs.Spec:=fun xs bl=>match xs,bl with
 | [.int .i64 n],[]=>chk (decide (-9223372036854775808≤n)&&decide (n≤9223372036854775807)) (some (.tup [.int .i64 (cond (decide (n<300)) 0 (Kerb.fromSec n)),.bool (!decide (n<300))],[]))
 | _,_=>none
def sp158:Abs.Spec:=fun xs bl=>match xs,bl with
 | [.str s,.u8 c],[]=>some (.int .i64 (Kerb.indexOf c s),[])
 | _,_=>none
def sp10:Abs.Spec:=fun xs bl=>match xs,bl with
 | [.agg [.str rl,.sl 9 els],.sl 4 xls],[]=>chk (els.all Yq&&decide (els.length≤1000000)&&xls.all Ym&&decide (xls.length≤1000000)&&decide (rl.length≤9223372036854775807)) (some (.sl 5 ((Kerb.grantKeys (Zq rl (els.map Zv)) (xls.map Zu)).map Xx),[]))
 | _,_=>none
def sp12:Abs.Spec:=fun xs bl=>match xs,bl with
 | [.int .i64 n,.int .i64 m],[]=>chk (decide (0≤n)&&decide (0≤m)) (some (.agg [.str Kerb.krbtgt,.str (Kerb.realm m),.str (Kerb.realm n)],[]))
 | _,_=>none
def sp14:Abs.Spec:=fun xs bl=>match xs,bl with
 | [.int .i64 n],[]=>chk (decide (0≤n)&&decide (n≤4611686018427387904)) (some (.agg [.str (Kerb.service n).name,.str (Kerb.service n).inst,.str (Kerb.service n).realm],[]))
 | _,_=>none
def sp18:Abs.Spec:=fun xs bl=>match xs,bl with
 | [.bs l],[]=>chk (decide (l.length≤100000)) (some (.sl 4 ((Kerb.dataCross l).map Kerb.Cross.av),[]))
 | _,_=>none
def sp22:Abs.Spec:=fun xs bl=>match xs,bl with
 | [.int .i64 n],[]=>chk (decide (0≤n)&&decide (n≤4611686018427387904)) (some (.agg [.str (Kerb.user n).name,.str (Kerb.user n).inst,.str (Kerb.user n).realm],[]))
 | _,_=>none
def sp25:Abs.Spec:=fun xs bl=>match xs,bl with
 | [.int .u64 k],[]=>chk (decide (0≤k)&&decide (k<18446744073709551616)) (some (.bool (Xw k),[]))
 | _,_=>none
def sp46:Abs.Spec:=fun xs bl=>match xs,bl with
 | [.agg [.bool li,.bool mu,.int .i64 kv,.str rl,.bs tk,.bs au]],[]=>chk (decide (rl.length≤9223372036854775807)) (some (.tup [.bs (Kerb.encodeAp (Zz li mu kv rl tk au)).val,.int .i64 (Kerb.encodeAp (Zz li mu kv rl tk au)).err],[]))
 | _,_=>none
def sp53:Abs.Spec:=fun xs bl=>match xs,bl with
 | [.bs b,.sl 1 els],[]=>chk (allInts els&&decide (els.length≤1000)) (some (.tup [.bool (Kerb.headIs b (intsIn els)).1,.int .i64 (Kerb.headIs b (intsIn els)).2],[]))
 | _,_=>none
def sp55:Abs.Spec:=fun xs bl=>match xs,bl with
 | [.bs b,.int .i64 pos,.bool little],[]=>chk (decide (b.length≤4611686018427387904)) (some (.tup [.int .i64 (Xz b pos 4 little).val,.int .i64 (Xz b pos 4 little).next,.int .i64 (Xz b pos 4 little).err],[]))
 | _,_=>none
def sp56:Abs.Spec:=fun xs bl=>match xs,bl with
 | [.bs b,.int .i64 pos],[]=>chk (decide (b.length≤4611686018427387904)) (some (.tup [.int .i64 (Xz b pos 1 false).val,.int .i64 (Xz b pos 1 false).next,.int .i64 (Xz b pos 1 false).err],[]))
 | _,_=>none
def sp57:Abs.Spec:=fun xs bl=>match xs,bl with
 | [.bs b,.int .i64 pos],[]=>chk (decide (b.length≤4611686018427387904)) (some (.tup [.str (Kerb.text b pos).val,.int .i64 (Kerb.text b pos).next,.int .i64 (Kerb.text b pos).err],[]))
 | _,_=>none
def sp71:Abs.Spec:=fun xs bl=>match xs,bl with
 | [.int .u64 k],[]=>chk (decide (0≤k)&&decide (k<18446744073709551616)) (some (.int .i64 (Kerb.classOf k),[]))
 | _,_=>none
def sp77:Abs.Spec:=fun xs bl=>match xs,bl with
 | [.int .i64 kd,.int .u64 k,.bs bd],[]=>chk (decide (0≤k)&&decide (k<18446744073709551616)) (some (.tup [.bs (Kerb.makeBox kd k bd).val,.int .i64 (Kerb.makeBox kd k bd).err],[]))
 | _,_=>none
def sp95:Abs.Spec:=fun xs bl=>match xs,bl with
 | [.bs b,.str s],[]=>chk (decide (b.length+s.length≤70368744177664)) (some (.bs (Kerb.putText b s),[]))
 | _,_=>none
def sp100:Abs.Spec:=fun xs bl=>match xs,bl with
 | [.sl 5 kls,.agg [.str x,.str y,.str z],.int .i64 v],[]=>chk (kls.all Yu&&decide (kls.length≤1000000)) (some (.tup [.int .u64 (Kerb.skFind (kls.map Zw) ⟨x,y,z⟩ v).1,.bool (Kerb.skFind (kls.map Zw) ⟨x,y,z⟩ v).2],[]))
 | _,_=>none
def sp104:Abs.Spec:=fun xs bl=>match xs,bl with
 | [.int .i64 i,.int .i64 l,.int .i64 n,.int .i64 s],[]=>some (.int .i64 (Kerb.stateErr i l n s),[])
 | _,_=>none
def sp115:Abs.Spec:=fun xs bl=>match xs,bl with
 | [.int .i64 n,.int .i64 w,.sl 1 els],[]=>chk (allInts els&&decide (els.length≤1000000)&&(intsIn els).all Kerb.isI64) (some (.tup [.int .i64 (Kerb.grantLife n w (intsIn els)).1,.bool (Kerb.grantLife n w (intsIn els)).2],[]))
 | _,_=>none
def sp125:Abs.Spec:=fun xs bl=>match xs,bl with
 | [.bs b,.bool little],[]=>chk (decide (b.length≤70368744177664)) (some (.ownB (b++Yh (cond little 1 0) 1 false),[]))
 | _,_=>none
def sp131:Abs.Spec:=fun xs bl=>match xs,bl with
 | [.bs b,.int .i64 n,.int .i64 k,.bool little],[]=>chk (decide (k=1∨k=2∨k=4)&&decide (b.length≤70368744177664)) (some (.ownB (b++Yh n k.toNat little),[]))
 | _,_=>none
def sp139:Abs.Spec:=fun xs bl=>match xs,bl with
 | [.str s,.u8 c],[]=>some (.int .i64 (Kerb.indexOf c s),[])
 | _,_=>none
def sp149:Abs.Spec:=fun xs bl=>match xs,bl with
 | [.bs b],[]=>chk (decide (b.length≤70368744177664)) (some (.bs (Kerb.pad b),[]))
 | _,_=>none
def sp152:Abs.Spec:=fun xs bl=>match xs,bl with
 | [.agg [.str a,.str b,.str c]],[]=>chk (decide (a.length≤9223372036854775807)&&decide (b.length≤9223372036854775807)&&decide (c.length≤9223372036854775807)) (some (.bool (Kerb.Prin.valid ⟨a,b,c⟩),[]))
 | _,_=>none
def sp153:Abs.Spec:=fun xs bl=>match xs,bl with
 | [.int .u64 k],[]=>chk (decide (0≤k)&&decide (k<18446744073709551616)) (some (.int .i64 (Kerb.classOf k),[]))
 | _,_=>none
def sp5:Abs.Spec:=fun xs bl=>match xs,bl with
 | [.bs l],[]=>chk (decide (l.length≤100000)) (some (.sl 4 ((Kerb.goodCross l).map Kerb.Cross.av),[]))
 | _,_=>none
def sp7:Abs.Spec:=fun xs bl=>match xs,bl with
 | [.u8 lf,.u8 xp,.u8 bd],[]=>some (.agg [.str (Kerb.simpleDb lf xp bd).realm,.sl 9 ((Kerb.simpleDb lf xp bd).entries.map Kerb.Entry.av)],[])
 | _,_=>none
def sp9:Abs.Spec:=fun xs bl=>match xs,bl with
 | [.agg [.str rl,.sl 9 els],.sl 4 xls],[]=>chk (els.all Yq&&decide (els.length≤1000000)&&xls.all Ym&&decide (xls.length≤1000000)&&decide (rl.length≤9223372036854775807)) (some (.sl 5 ((Kerb.grantKeys (Zq rl (els.map Zv)) (xls.map Zu)).map Xx),[]))
 | _,_=>none
def sp21:Abs.Spec:=fun xs bl=>match xs,bl with
 | [.ptr 0 0],[(0,[.bs l,.int .i64 pos])]=>chk (decide (l.length≤100000)&&decide (0≤pos)) (some (.agg [.str (Yj l pos).name,.str (Yj l pos).inst,.int .u64 (Yj l pos).key,.int .i64 (Yj l pos).kvno,.int .i64 (Yj l pos).expires,.int .i64 (Yj l pos).maxLife,.int .i64 (Yj l pos).attr,.int .i64 (Yj l pos).fails,.int .i64 (Yj l pos).till],[[.bs l,.int .i64 (Kerb.dataEntPos l pos)]]))
 | _,_=>none
def sp30:Abs.Spec:=fun xs bl=>match xs,bl with
 | [.agg [.bool li,.bool mu,.int .i64 kv,.str rl,.bs tk,.bs au,.int .i64 tm,.int .i64 lf,.str sv,.str ins]],[]=>chk (decide (rl.length≤9223372036854775807)&&decide (sv.length≤9223372036854775807)&&decide (ins.length≤9223372036854775807)) (some (.tup [.bs (Kerb.encodeTgs (Zj (Zz li mu kv rl tk au) tm lf sv ins)).val,.int .i64 (Kerb.encodeTgs (Zj (Zz li mu kv rl tk au) tm lf sv ins)).err],[]))
 | _,_=>none
def sp38:Abs.Spec:=fun xs bl=>match xs,bl with
 | [.agg [.u8 cu,.u8 co,.u8 cv,.u8 cr,.bool lt,.bool tn,.bool mt,.u8 cad,.u8 cfr,.u8 cis,.u8 ctm,.u8 ctk,.u8 clf,.int .u32 ccs,.u8 cky,.u8 ckv,.u8 css,.int .u16 ctt,.int .u16 cau]],[]=>some (.agg [.str ((Zb cu co cv cr lt tn mt cad cfr cis ctm ctk clf ccs cky ckv css ctt cau).me).name,.str ((Zb cu co cv cr lt tn mt cad cfr cis ctm ctk clf ccs cky ckv css ctt cau).me).inst,.str ((Zb cu co cv cr lt tn mt cad cfr cis ctm ctk clf ccs cky ckv css ctt cau).me).realm],[])
 | _,_=>none
def sp54:Abs.Spec:=fun xs bl=>match xs,bl with
 | [.bs b],[]=>chk (decide (b.length≤140737488355328)) (some (.tup [.agg [.bool ((Yn b).val).little,.bool ((Yn b).val).mutual_,.int .i64 ((Yn b).val).kvno,.str ((Yn b).val).realm,.bs ((Yn b).val).ticket,.bs ((Yn b).val).auth],.int .i64 (Yn b).next],[]))
 | _,_=>none
def sp63:Abs.Spec:=fun xs bl=>match xs,bl with
 | [.agg [.bool ali,.str b1,.str b2,.str b3,.int .i64 aad,.int .u64 ak,.int .i64 alf,.int .i64 ais,.str asv,.str ain],.agg [.str x,.str y,.str z,.int .i64 ck,.int .i64 tc,.int .i64 tm],.int .i64 src,.int .i64 now,.int .i64 skw],[]=>some (.int .i64 (Kerb.judge (Yy ali ⟨b1,b2,b3⟩ aad ak alf ais asv ain) (Yw ⟨x,y,z⟩ ck tc tm) src now skw),[])
 | _,_=>none
def sp70:Abs.Spec:=fun xs bl=>match xs,bl with
 | [.agg [.str rl,.sl 9 els,.sl 4 xls,.int .i64 now,.bool li,.int .u64 se],.int .i64 wn,.int .i64 mo,.int .i64 xp,.agg [.str cx,.str cy,.str cz,.int .u64 ck2,.int .i64 cad,.int .i64 ccs,.int .i64 ctm,.int .i64 ctc,.int .i64 cis,.int .i64 clf,.bs ctk,.bs cau]],[]=>chk (Kerb.isI64 xp) (some (.tup [.int .i64 (Kerb.tgsLife now wn mo xp cis clf).1,.bool (Kerb.tgsLife now wn mo xp cis clf).2],[]))
 | _,_=>none
def sp93:Abs.Spec:=fun xs bl=>match xs,bl with
 | [.bs b,.int .i64 n,.bool little],[]=>chk (decide (b.length≤70368744177664)) (some (.ownB (b++Yh n 4 little),[]))
 | _,_=>none
def sp94:Abs.Spec:=fun xs bl=>match xs,bl with
 | [.bs b,.int .i64 n],[]=>chk (decide (b.length≤70368744177664)) (some (.ownB (b++Yh n 1 false),[]))
 | _,_=>none
def sp118:Abs.Spec:=fun xs bl=>match xs,bl with
 | [.int .i64 kd,.int .u64 k,.bs bd],[]=>chk (decide (0≤k)&&decide (k<18446744073709551616)) (some (.tup [.bs (Kerb.makeBox kd k bd).val,.int .i64 (Kerb.makeBox kd k bd).err],[]))
 | _,_=>none
def sp120:Abs.Spec:=fun xs bl=>match xs,bl with
 | [.agg [.bool li,.str x,.str y,.str z,.int .i64 ad,.int .u64 k,.int .i64 lf,.int .i64 iss,.str sv,.str ins]],[]=>chk (decide (x.length≤9223372036854775807)&&decide (y.length≤9223372036854775807)&&decide (z.length≤9223372036854775807)&&decide (sv.length≤9223372036854775807)&&decide (ins.length≤9223372036854775807)&&decide (0≤k)&&decide (k<18446744073709551616)) (some (.int .i64 (Yy li ⟨x,y,z⟩ ad k lf iss sv ins).err,[]))
 | _,_=>none
def sp124:Abs.Spec:=fun xs bl=>match xs,bl with
 | [.agg [.str x,.str y,.str z,.int .i64 ck,.int .i64 tc,.int .i64 tm]],[]=>chk (decide (x.length≤9223372036854775807)&&decide (y.length≤9223372036854775807)&&decide (z.length≤9223372036854775807)) (some (.int .i64 (Yw ⟨x,y,z⟩ ck tc tm).check,[]))
 | _,_=>none
def sp130:Abs.Spec:=fun xs bl=>match xs,bl with
 | [.str s,.str bad],[]=>chk (decide (s.length≤9223372036854775807)) (some (.bool (Kerb.printable s bad),[]))
 | _,_=>none
def sp140:Abs.Spec:=fun xs bl=>match xs,bl with
 | [.bs b,.agg [.str x,.str y,.str z]],[]=>chk (decide (b.length+x.length+y.length+z.length≤70368744170000)) (some (.bs (Kerb.putPrin b ⟨x,y,z⟩),[]))
 | _,_=>none
def sp143:Abs.Spec:=fun xs bl=>match xs,bl with
 | [.bs b],[]=>chk (decide (b.length≤4611686018427387904)) (some (.tup [.int .u64 (Kerb.keyRead b).1,.bool (Kerb.keyRead b).2],[]))
 | _,_=>none
def sp145:Abs.Spec:=fun xs bl=>match xs,bl with
 | [.agg [.str rl,.sl 9 els],.str n,.str i,.int .i64 now,.int .i64 bit,.int .i64 xp,.int .i64 br],[]=>chk (els.all Yq&&decide (els.length≤1000000)) (some (.tup [.int .i64 (Kerb.useEnt (Zq rl (els.map Zv)) n i now bit xp br).1,.int .i64 (Kerb.useEnt (Zq rl (els.map Zv)) n i now bit xp br).2],[]))
 | _,_=>none
def sp151:Abs.Spec:=fun xs bl=>match xs,bl with
 | [.bs b,.int .i64 n,.bool little],[]=>chk (decide (b.length≤70368744177664)) (some (.ownB (b++Yh n 2 little),[]))
 | _,_=>none
def sp6:Abs.Spec:=fun xs bl=>match xs,bl with
 | [.bs l,.int .i64 n],[]=>chk (decide (l.length≤100000)&&decide (0≤n)) (some (.agg [.str (Kerb.dataDb l n).realm,.sl 9 ((Kerb.dataDb l n).entries.map Kerb.Entry.av)],[]))
 | _,_=>none
def sp16:Abs.Spec:=fun xs bl=>match xs,bl with
 | [.agg [.u8 cu,.u8 co,.u8 cv,.u8 cr,.bool lt,.bool tn,.bool mt,.u8 cad,.u8 cfr,.u8 cis,.u8 ctm,.u8 ctk,.u8 clf,.int .u32 ccs,.u8 cky,.u8 ckv,.u8 css,.int .u16 ctt,.int .u16 cau],.u8 sz,.u8 sk],[]=>some (.agg [.str (((Zb cu co cv cr lt tn mt cad cfr cis ctm ctk clf ccs cky ckv css ctt cau).server sz sk)).me.name,.str (((Zb cu co cv cr lt tn mt cad cfr cis ctm ctk clf ccs cky ckv css ctt cau).server sz sk)).me.inst,.str (((Zb cu co cv cr lt tn mt cad cfr cis ctm ctk clf ccs cky ckv css ctt cau).server sz sk)).me.realm,.sl 5 ((((Zb cu co cv cr lt tn mt cad cfr cis ctm ctk clf ccs cky ckv css ctt cau).server sz sk)).keys.map Xx),.int .i64 ((((Zb cu co cv cr lt tn mt cad cfr cis ctm ctk clf ccs cky ckv css ctt cau).server sz sk)).replay).size,.int .i64 ((((Zb cu co cv cr lt tn mt cad cfr cis ctm ctk clf ccs cky ckv css ctt cau).server sz sk)).replay).floor,.sl 5 (((((Zb cu co cv cr lt tn mt cad cfr cis ctm ctk clf ccs cky ckv css ctt cau).server sz sk)).replay).marks.map Kerb.Mark.av),.int .i64 (((Zb cu co cv cr lt tn mt cad cfr cis ctm ctk clf ccs cky ckv css ctt cau).server sz sk)).skew],[])
 | _,_=>none
def sp76:Abs.Spec:=fun xs bl=>match xs,bl with
 | [.agg [.bool li,.str x,.str y,.str z,.int .i64 ad,.int .u64 k,.int .i64 lf,.int .i64 iss,.str sv,.str ins]],[]=>chk (decide (x.length≤9223372036854775807)&&decide (y.length≤9223372036854775807)&&decide (z.length≤9223372036854775807)&&decide (sv.length≤9223372036854775807)&&decide (ins.length≤9223372036854775807)&&decide (0≤k)&&decide (k<18446744073709551616)) (some (.tup [.bs (Xy (Yy li ⟨x,y,z⟩ ad k lf iss sv ins)).val,.int .i64 (Xy (Yy li ⟨x,y,z⟩ ad k lf iss sv ins)).err],[]))
 | _,_=>none
def sp78:Abs.Spec:=fun xs bl=>match xs,bl with
 | [.agg [.str x,.str y,.str z,.int .i64 ck,.int .i64 tc,.int .i64 tm],.bool li],[]=>chk (decide (x.length≤9223372036854775807)&&decide (y.length≤9223372036854775807)&&decide (z.length≤9223372036854775807)) (some (.tup [.bs (Kerb.encodeAuth (Yw ⟨x,y,z⟩ ck tc tm) li).val,.int .i64 (Kerb.encodeAuth (Yw ⟨x,y,z⟩ ck tc tm) li).err],[]))
 | _,_=>none
def sp90:Abs.Spec:=fun xs bl=>match xs,bl with
 | [.str s],[]=>chk (decide (s.length≤9223372036854775807)) (some (.bool (Kerb.validName s),[]))
 | _,_=>none
def sp91:Abs.Spec:=fun xs bl=>match xs,bl with
 | [.str s],[]=>chk (decide (s.length≤9223372036854775807)) (some (.bool (Kerb.validInst s),[]))
 | _,_=>none
def sp113:Abs.Spec:=fun xs bl=>match xs,bl with
 | [.agg [.str rl,.sl 9 els],.str n,.str i,.int .i64 now],[]=>chk (els.all Yq&&decide (els.length≤1000000)) (some (.tup [.int .i64 (Kerb.serviceEnt (Zq rl (els.map Zv)) n i now).1,.int .i64 (Kerb.serviceEnt (Zq rl (els.map Zv)) n i now).2],[]))
 | _,_=>none
def sp141:Abs.Spec:=fun xs bl=>match xs,bl with
 | [.bs b],[]=>chk (decide (b.length≤140737488355328)) (some (.tup [.agg [.int .i64 (Kerb.readBox b).box.kind,.int .u64 (Kerb.readBox b).box.key,.bs (Kerb.readBox b).box.body],.int .i64 (Kerb.readBox b).n,.int .i64 (Kerb.readBox b).err],[]))
 | _,_=>none
def sp43:Abs.Spec:=fun xs bl=>match xs,bl with
 | [.agg [.bool li,.str x,.str y,.str z,.int .i64 ad,.int .u64 k,.int .i64 lf,.int .i64 iss,.str sv,.str ins],.int .u64 key],[]=>chk (decide (x.length≤9223372036854775807)&&decide (y.length≤9223372036854775807)&&decide (z.length≤9223372036854775807)&&decide (sv.length≤9223372036854775807)&&decide (ins.length≤9223372036854775807)&&decide (0≤k)&&decide (k<18446744073709551616)&&decide (0≤key)&&decide (key<18446744073709551616)) (some (.tup [.bs (Kerb.sealTicket (Yy li ⟨x,y,z⟩ ad k lf iss sv ins) key).val,.int .i64 (Kerb.sealTicket (Yy li ⟨x,y,z⟩ ad k lf iss sv ins) key).err],[]))
 | _,_=>none
def sp44:Abs.Spec:=fun xs bl=>match xs,bl with
 | [.agg [.str x,.str y,.str z,.int .i64 ck,.int .i64 tc,.int .i64 tm],.bool li,.int .u64 k],[]=>chk (decide (x.length≤9223372036854775807)&&decide (y.length≤9223372036854775807)&&decide (z.length≤9223372036854775807)&&decide (0≤k)&&decide (k<18446744073709551616)) (some (.tup [.bs (Kerb.sealAuth (Yw ⟨x,y,z⟩ ck tc tm) li k).val,.int .i64 (Kerb.sealAuth (Yw ⟨x,y,z⟩ ck tc tm) li k).err],[]))
 | _,_=>none
def sp109:Abs.Spec:=fun xs bl=>match xs,bl with
 | [.bs b,.int .i64 kd,.int .u64 k],[]=>chk (decide (b.length≤140737488355328)) (some (.tup [.bs (Kerb.openBox b kd k).1,.bool (Kerb.openBox b kd k).2],[]))
 | _,_=>none
def sp111:Abs.Spec:=fun xs bl=>match xs,bl with
 | [.str s],[]=>chk (decide (s.length≤9223372036854775807)) (some (.bool (Kerb.validRealm s),[]))
 | _,_=>none
def sp29:Abs.Spec:=fun xs bl=>match xs,bl with
 | [.agg [.u8 cu,.u8 co,.u8 cv,.u8 cr,.bool lt,.bool tn,.bool mt,.u8 cad,.u8 cfr,.u8 cis,.u8 ctm,.u8 ctk,.u8 clf,.int .u32 ccs,.u8 cky,.u8 ckv,.u8 css,.int .u16 ctt,.int .u16 cau],.agg [.str x,.str y,.str z],.int .u64 k,.int .i64 v],[]=>chk (decide (x.length≤9223372036854775807)&&decide (y.length≤9223372036854775807)&&decide (z.length≤9223372036854775807)&&Yf k&&decide (0≤v)&&decide (v≤1000)&&decide (0≤ccs)&&decide (ccs≤4294967295)&&decide (0≤ctt)&&decide (ctt≤65535)&&decide (0≤cau)&&decide (cau≤65535)) (some (.agg [.bool (((Zb cu co cv cr lt tn mt cad cfr cis ctm ctk clf ccs cky ckv css ctt cau).req ⟨x,y,z⟩ k v)).little,.bool (((Zb cu co cv cr lt tn mt cad cfr cis ctm ctk clf ccs cky ckv css ctt cau).req ⟨x,y,z⟩ k v)).mutual_,.int .i64 (((Zb cu co cv cr lt tn mt cad cfr cis ctm ctk clf ccs cky ckv css ctt cau).req ⟨x,y,z⟩ k v)).kvno,.str (((Zb cu co cv cr lt tn mt cad cfr cis ctm ctk clf ccs cky ckv css ctt cau).req ⟨x,y,z⟩ k v)).realm,.bs (((Zb cu co cv cr lt tn mt cad cfr cis ctm ctk clf ccs cky ckv css ctt cau).req ⟨x,y,z⟩ k v)).ticket,.bs (((Zb cu co cv cr lt tn mt cad cfr cis ctm ctk clf ccs cky ckv css ctt cau).req ⟨x,y,z⟩ k v)).auth],[]))
 | _,_=>none
def sp69:Abs.Spec:=fun xs bl=>match xs,bl with
 | [.agg [.str rl,.sl 9 els],.sl 4 xls,.str n,.str i,.int .i64 now],[]=>chk (els.all Yq&&decide (els.length≤1000000)&&xls.all Ym&&decide (xls.length≤1000000)&&decide (i.length≤9223372036854775807)) (some (.tup [.int .u64 (Kerb.svc (Zq rl (els.map Zv)) (xls.map Zu) n i now).key,.int .i64 (Kerb.svc (Zq rl (els.map Zv)) (xls.map Zu) n i now).kvno,.int .i64 (Kerb.svc (Zq rl (els.map Zv)) (xls.map Zu) n i now).life,.int .i64 (Kerb.svc (Zq rl (els.map Zv)) (xls.map Zu) n i now).expires,.int .i64 (Kerb.svc (Zq rl (els.map Zv)) (xls.map Zu) n i now).err],[]))
 | _,_=>none
def sp89:Abs.Spec:=fun xs bl=>match xs,bl with
 | [.agg [.bool li,.bool mu,.int .i64 kv,.str rl,.bs tk,.bs au]],[]=>chk (decide (rl.length≤9223372036854775807)) (some (.tup [.bs (Kerb.encodeAp (Zz li mu kv rl tk au)).val,.int .i64 (Kerb.encodeAp (Zz li mu kv rl tk au)).err],[]))
 | _,_=>none
def sp96:Abs.Spec:=fun xs bl=>match xs,bl with
 | [.agg [.str a,.str b,.str c]],[]=>chk (decide (a.length≤9223372036854775807)&&decide (b.length≤9223372036854775807)&&decide (c.length≤9223372036854775807)) (some (.bool (Kerb.Prin.valid ⟨a,b,c⟩),[]))
 | _,_=>none
def sp11:Abs.Spec:=fun xs bl=>match xs,bl with
 | [.agg [.u8 cu,.u8 co,.u8 cv,.u8 cr,.bool lt,.bool tn,.bool mt,.u8 cad,.u8 cfr,.u8 cis,.u8 ctm,.u8 ctk,.u8 clf,.int .u32 ccs,.u8 cky,.u8 ckv,.u8 css,.int .u16 ctt,.int .u16 cau],.agg [.str x,.str y,.str z],.int .u64 k,.int .i64 v,.int .i64 wtm,.int .i64 wlf,.agg [.str s1,.str s2,.str s3]],[]=>chk (decide (x.length≤9223372036854775807)&&decide (y.length≤9223372036854775807)&&decide (z.length≤9223372036854775807)&&Yf k&&decide (0≤v)&&decide (v≤1000)&&decide (0≤ccs)&&decide (ccs≤4294967295)&&decide (0≤ctt)&&decide (ctt≤65535)&&decide (0≤cau)&&decide (cau≤65535)&&decide (s1.length≤9223372036854775807)&&decide (s2.length≤9223372036854775807)) (some (.bs ((Zb cu co cv cr lt tn mt cad cfr cis ctm ctk clf ccs cky ckv css ctt cau).tgsMsg ⟨x,y,z⟩ k v wtm wlf ⟨s1,s2,s3⟩),[]))
 | _,_=>none
def sp58:Abs.Spec:=fun xs bl=>match xs,bl with
 | [.agg [.bool li,.bool mu,.int .i64 kv,.str rl,.bs tk,.bs au,.int .i64 tm,.int .i64 lf,.str sv,.str ins]],[]=>chk (decide (rl.length≤9223372036854775807)&&decide (sv.length≤9223372036854775807)&&decide (ins.length≤9223372036854775807)) (some (.tup [.bs (Kerb.encodeTgs (Zj (Zz li mu kv rl tk au) tm lf sv ins)).val,.int .i64 (Kerb.encodeTgs (Zj (Zz li mu kv rl tk au) tm lf sv ins)).err],[]))
 | _,_=>none
def sp97:Abs.Spec:=fun xs bl=>match xs,bl with
 | [.sl 5 kls],[]=>chk (kls.all Yu&&decide (kls.length≤1000000)) (some (.int .i64 (Kerb.skErr (kls.map Zw)),[]))
 | _,_=>none
def sp98:Abs.Spec:=fun xs bl=>match xs,bl with
 | [.agg [.int .i64 sz,.int .i64 fl,.sl 5 mls]],[]=>chk (mls.all Yp&&decide (mls.length≤1000000)) (some (.int .i64 (Yg sz fl (mls.map Zx)).err,[]))
 | _,_=>none
def sp108:Abs.Spec:=fun xs bl=>match xs,bl with
 | [.agg [.bool li,.str x,.str y,.str z,.int .i64 t,.int .i64 cd,.str tx]],[]=>chk (decide (x.length≤9223372036854775807)&&decide (y.length≤9223372036854775807)&&decide (z.length≤9223372036854775807)&&decide (tx.length≤9223372036854775807)) (some (.tup [.bs (Kerb.encodeError ⟨li,⟨x,y,z⟩,t,cd,tx⟩).val,.int .i64 (Kerb.encodeError ⟨li,⟨x,y,z⟩,t,cd,tx⟩).err],[]))
 | _,_=>none
def sp117:Abs.Spec:=fun xs bl=>match xs,bl with
 | [.agg [.int .u64 k,.str x,.str y,.str z,.int .i64 lf,.int .i64 kv,.bs tk,.int .i64 t],.bool little],[]=>chk (decide (x.length≤9223372036854775807)&&decide (y.length≤9223372036854775807)&&decide (z.length≤9223372036854775807)&&decide (0≤k)&&decide (k<18446744073709551616)) (some (.tup [.bs (Kerb.encodePart ⟨k,⟨x,y,z⟩,lf,kv,tk,t⟩ little).val,.int .i64 (Kerb.encodePart ⟨k,⟨x,y,z⟩,lf,kv,tk,t⟩ little).err],[]))
 | _,_=>none
def sp119:Abs.Spec:=fun xs bl=>match xs,bl with
 | [.agg [.bool li,.str x,.str y,.str z,.int .i64 t,.int .i64 ex,.int .i64 kv,.bs sd]],[]=>chk (decide (x.length≤9223372036854775807)&&decide (y.length≤9223372036854775807)&&decide (z.length≤9223372036854775807)) (some (.tup [.bs (Kerb.encodeReply ⟨li,⟨x,y,z⟩,t,ex,kv,sd⟩).val,.int .i64 (Kerb.encodeReply ⟨li,⟨x,y,z⟩,t,ex,kv,sd⟩).err],[]))
 | _,_=>none
def sp142:Abs.Spec:=fun xs bl=>match xs,bl with
 | [.bs b,.int .i64 pos],[]=>chk (decide (b.length≤4611686018427387904)) (some (.tup [.agg [.str (Kerb.prin b pos).val.name,.str (Kerb.prin b pos).val.inst,.str (Kerb.prin b pos).val.realm],.int .i64 (Kerb.prin b pos).next,.int .i64 (Kerb.prin b pos).err],[]))
 | _,_=>none
def sp159:Abs.Spec:=fun xs bl=>match xs,bl with
 | [.agg [.bool li,.str x,.str y,.str z,.int .i64 ad,.int .u64 k,.int .i64 lf,.int .i64 iss,.str sv,.str ins]],[]=>chk (decide (x.length≤9223372036854775807)&&decide (y.length≤9223372036854775807)&&decide (z.length≤9223372036854775807)&&decide (sv.length≤9223372036854775807)&&decide (ins.length≤9223372036854775807)&&decide (0≤k)&&decide (k<18446744073709551616)) (some (.int .i64 (Yy li ⟨x,y,z⟩ ad k lf iss sv ins).err,[]))
 | _,_=>none
def sp160:Abs.Spec:=fun xs bl=>match xs,bl with
 | [.agg [.str x,.str y,.str z,.int .i64 ck,.int .i64 tc,.int .i64 tm]],[]=>chk (decide (x.length≤9223372036854775807)&&decide (y.length≤9223372036854775807)&&decide (z.length≤9223372036854775807)) (some (.int .i64 (Yw ⟨x,y,z⟩ ck tc tm).check,[]))
 | _,_=>none
def sp33:Abs.Spec:=fun xs bl=>match xs,bl with
 | [.bs b],[]=>chk (decide (b.length≤140737488355328)) (some (.tup [.agg [.bool ((Yx b).val).ap.little,.bool ((Yx b).val).ap.mutual_,.int .i64 ((Yx b).val).ap.kvno,.str ((Yx b).val).ap.realm,.bs ((Yx b).val).ap.ticket,.bs ((Yx b).val).ap.auth,.int .i64 ((Yx b).val).time,.int .i64 ((Yx b).val).life,.str ((Yx b).val).service,.str ((Yx b).val).inst],.int .i64 (Yx b).err],[]))
 | _,_=>none
def sp61:Abs.Spec:=fun xs bl=>match xs,bl with
 | [.agg [.str m1,.str m2,.str m3,.sl 5 kls,.int .i64 sz,.int .i64 fl,.sl 5 mls,.int .i64 sk]],[]=>chk (decide (m1.length≤9223372036854775807)&&decide (m2.length≤9223372036854775807)&&decide (m3.length≤9223372036854775807)&&kls.all Yu&&decide (kls.length≤1000000)&&mls.all Yp&&decide (mls.length≤1000000)) (some (.int .i64 (Zy ⟨m1,m2,m3⟩ (kls.map Zw) ⟨sz,fl,mls.map Zx⟩ sk).err,[]))
 | _,_=>none
def sp64:Abs.Spec:=fun xs bl=>match xs,bl with
 | [.agg [.int .i64 sz,.int .i64 fl,.sl 5 mls],.agg [.str a1,.str a2,.str a3,.int .i64 at_,.int .i64 atk],.int .i64 now,.int .i64 skw],[]=>chk (mls.all Yp&&decide (mls.length≤1000000)&&decide (a1.length≤9223372036854775807)&&decide (a2.length≤9223372036854775807)&&decide (a3.length≤9223372036854775807)) (some (.tup [.agg [.int .i64 ((Kerb.addMark (Yg sz fl (mls.map Zx)) (Yb ⟨a1,a2,a3⟩ at_ atk) now skw).val).size,.int .i64 ((Kerb.addMark (Yg sz fl (mls.map Zx)) (Yb ⟨a1,a2,a3⟩ at_ atk) now skw).val).floor,.sl 5 (((Kerb.addMark (Yg sz fl (mls.map Zx)) (Yb ⟨a1,a2,a3⟩ at_ atk) now skw).val).marks.map Kerb.Mark.av)],.int .i64 (Kerb.addMark (Yg sz fl (mls.map Zx)) (Yb ⟨a1,a2,a3⟩ at_ atk) now skw).err],[]))
 | _,_=>none
def sp66:Abs.Spec:=fun xs bl=>match xs,bl with
 | [.agg [.str x,.str y,.str z],.int .i64 cd,.int .i64 now,.bool li],[]=>chk (decide (x.length≤9223372036854775807)&&decide (y.length≤9223372036854775807)&&decide (z.length≤9223372036854775807)) (some (.bs (Kerb.refuse ⟨x,y,z⟩ cd now li),[]))
 | _,_=>none
def sp73:Abs.Spec:=fun xs bl=>match xs,bl with
 | [.agg [.str rl,.sl 9 els,.sl 4 xls,.int .i64 now,.bool li,.int .u64 se],.agg [.bool rli,.bool rmu,.int .i64 rkv,.str rrl,.bs rtk,.bs rau,.int .i64 wtm,.int .i64 wlf,.str wsv,.str win],.agg [.str cx,.str cy,.str cz,.int .u64 ck2,.int .i64 cad,.int .i64 ccs,.int .i64 ctm,.int .i64 ctc,.int .i64 cis,.int .i64 clf,.bs ctk,.bs cau],.agg [.int .u64 pk,.str p1,.str p2,.str p3,.int .i64 pl,.int .i64 pv,.bs pt,.int .i64 pm]],[]=>chk (decide (cx.length≤9223372036854775807)&&decide (cy.length≤9223372036854775807)&&decide (cz.length≤9223372036854775807)&&decide (p1.length≤9223372036854775807)&&decide (p2.length≤9223372036854775807)&&decide (p3.length≤9223372036854775807)&&Yf pk&&Yf ck2) (some (.tup [.bs (Kerb.sealReply ⟨li,⟨cx,cy,cz⟩,wtm,0,0,[]⟩ (Kerb.ReplyPart.mk pk ⟨p1,p2,p3⟩ pl pv pt pm) ck2).val,.int .i64 (Kerb.sealReply ⟨li,⟨cx,cy,cz⟩,wtm,0,0,[]⟩ (Kerb.ReplyPart.mk pk ⟨p1,p2,p3⟩ pl pv pt pm) ck2).err],[]))
 | _,_=>none
def sp144:Abs.Spec:=fun xs bl=>match xs,bl with
 | [.agg [.bool li,.str x,.str y,.str z,.int .i64 ad,.int .u64 k,.int .i64 lf,.int .i64 iss,.str sv,.str ins]],[]=>chk (decide (x.length≤9223372036854775807)&&decide (y.length≤9223372036854775807)&&decide (z.length≤9223372036854775807)&&decide (sv.length≤9223372036854775807)&&decide (ins.length≤9223372036854775807)&&decide (0≤k)&&decide (k<18446744073709551616)) (some (.tup [.bs (Xy (Yy li ⟨x,y,z⟩ ad k lf iss sv ins)).val,.int .i64 (Xy (Yy li ⟨x,y,z⟩ ad k lf iss sv ins)).err],[]))
 | _,_=>none
def sp157:Abs.Spec:=fun xs bl=>match xs,bl with
 | [.agg [.str x,.str y,.str z,.int .i64 ck,.int .i64 tc,.int .i64 tm],.bool li],[]=>chk (decide (x.length≤9223372036854775807)&&decide (y.length≤9223372036854775807)&&decide (z.length≤9223372036854775807)) (some (.tup [.bs (Kerb.encodeAuth (Yw ⟨x,y,z⟩ ck tc tm) li).val,.int .i64 (Kerb.encodeAuth (Yw ⟨x,y,z⟩ ck tc tm) li).err],[]))
 | _,_=>none
def sp35:Abs.Spec:=fun xs bl=>match xs,bl with
 | [.agg [.str rl,.sl 9 els,.sl 4 xls,.int .i64 now,.bool li,.int .u64 se],.agg [.str x,.str y,.str z],.int .i64 cd],[]=>chk (decide (x.length≤9223372036854775807)&&decide (y.length≤9223372036854775807)&&decide (z.length≤9223372036854775807)) (some (.tup [.bs (Kerb.refuse ⟨x,y,z⟩ cd now li),.agg [.int .i64 (Zm).kind,.str (Zm).server.name,.str (Zm).server.inst,.str (Zm).server.realm,.str (Zm).client.name,.str (Zm).client.inst,.str (Zm).client.realm,.str (Zm).service.name,.str (Zm).service.inst,.str (Zm).service.realm,.int .u64 (Zm).session,.int .u64 (Zm).sealer,.int .u64 (Zm).granter,.bs (Zm).text,.int .i64 (Zm).issued,.int .i64 (Zm).stop],.bool false],[]))
 | _,_=>none
def sp110:Abs.Spec:=fun xs bl=>match xs,bl with
 | [.bs b],[]=>chk (decide (b.length≤140737488355328)) (some (.tup [.agg [.bool ((Zh b).val).little,.str ((Zh b).val).client.name,.str ((Zh b).val).client.inst,.str ((Zh b).val).client.realm,.int .i64 ((Zh b).val).address,.int .u64 ((Zh b).val).session,.int .i64 ((Zh b).val).life,.int .i64 ((Zh b).val).issued,.str ((Zh b).val).service,.str ((Zh b).val).inst],.int .i64 (Zh b).err],[]))
 | _,_=>none
def sp116:Abs.Spec:=fun xs bl=>match xs,bl with
 | [.agg [.bool li,.str x,.str y,.str z,.int .i64 ad,.int .u64 k,.int .i64 lf,.int .i64 iss,.str sv,.str ins],.int .u64 key],[]=>chk (decide (x.length≤9223372036854775807)&&decide (y.length≤9223372036854775807)&&decide (z.length≤9223372036854775807)&&decide (sv.length≤9223372036854775807)&&decide (ins.length≤9223372036854775807)&&decide (0≤k)&&decide (k<18446744073709551616)&&decide (0≤key)&&decide (key<18446744073709551616)) (some (.tup [.bs (Kerb.sealTicket (Yy li ⟨x,y,z⟩ ad k lf iss sv ins) key).val,.int .i64 (Kerb.sealTicket (Yy li ⟨x,y,z⟩ ad k lf iss sv ins) key).err],[]))
 | _,_=>none
def sp135:Abs.Spec:=fun xs bl=>match xs,bl with
 | [.bs b,.bool li],[]=>chk (decide (b.length≤140737488355328)) (some (.tup [.agg [.str ((Yk b li).val).client.name,.str ((Yk b li).val).client.inst,.str ((Yk b li).val).client.realm,.int .i64 ((Yk b li).val).checksum,.int .i64 ((Yk b li).val).tick,.int .i64 ((Yk b li).val).time],.int .i64 (Yk b li).err],[]))
 | _,_=>none
def sp67:Abs.Spec:=fun xs bl=>match xs,bl with
 | [.bs b,.int .u64 k],[]=>chk (decide (b.length≤140737488355328)) (some (.tup [.agg [.bool ((Yz b k).val).little,.str ((Yz b k).val).client.name,.str ((Yz b k).val).client.inst,.str ((Yz b k).val).client.realm,.int .i64 ((Yz b k).val).address,.int .u64 ((Yz b k).val).session,.int .i64 ((Yz b k).val).life,.int .i64 ((Yz b k).val).issued,.str ((Yz b k).val).service,.str ((Yz b k).val).inst],.int .i64 (Yz b k).err],[]))
 | _,_=>none
def sp72:Abs.Spec:=fun xs bl=>match xs,bl with
 | [.agg [.str rl,.sl 9 els],.agg [.str x,.str y,.str z],.agg [.str u,.str v,.str w],.int .i64 ad,.bool li,.int .i64 now,.int .i64 lf,.int .u64 se,.int .u64 sl,.int .u64 tg,.int .i64 kv],[]=>chk (decide (x.length≤9223372036854775807)&&decide (y.length≤9223372036854775807)&&decide (z.length≤9223372036854775807)&&decide (u.length≤9223372036854775807)&&decide (v.length≤9223372036854775807)&&decide (w.length≤9223372036854775807)&&Yf se&&Yf tg) (some (.tup [.agg [.int .i64 ((Zd rl ⟨x,y,z⟩ ⟨u,v,w⟩ ad li now lf se sl tg kv).issue).kind,.str ((Zd rl ⟨x,y,z⟩ ⟨u,v,w⟩ ad li now lf se sl tg kv).issue).server.name,.str ((Zd rl ⟨x,y,z⟩ ⟨u,v,w⟩ ad li now lf se sl tg kv).issue).server.inst,.str ((Zd rl ⟨x,y,z⟩ ⟨u,v,w⟩ ad li now lf se sl tg kv).issue).server.realm,.str ((Zd rl ⟨x,y,z⟩ ⟨u,v,w⟩ ad li now lf se sl tg kv).issue).client.name,.str ((Zd rl ⟨x,y,z⟩ ⟨u,v,w⟩ ad li now lf se sl tg kv).issue).client.inst,.str ((Zd rl ⟨x,y,z⟩ ⟨u,v,w⟩ ad li now lf se sl tg kv).issue).client.realm,.str ((Zd rl ⟨x,y,z⟩ ⟨u,v,w⟩ ad li now lf se sl tg kv).issue).service.name,.str ((Zd rl ⟨x,y,z⟩ ⟨u,v,w⟩ ad li now lf se sl tg kv).issue).service.inst,.str ((Zd rl ⟨x,y,z⟩ ⟨u,v,w⟩ ad li now lf se sl tg kv).issue).service.realm,.int .u64 ((Zd rl ⟨x,y,z⟩ ⟨u,v,w⟩ ad li now lf se sl tg kv).issue).session,.int .u64 ((Zd rl ⟨x,y,z⟩ ⟨u,v,w⟩ ad li now lf se sl tg kv).issue).sealer,.int .u64 ((Zd rl ⟨x,y,z⟩ ⟨u,v,w⟩ ad li now lf se sl tg kv).issue).granter,.bs ((Zd rl ⟨x,y,z⟩ ⟨u,v,w⟩ ad li now lf se sl tg kv).issue).text,.int .i64 ((Zd rl ⟨x,y,z⟩ ⟨u,v,w⟩ ad li now lf se sl tg kv).issue).issued,.int .i64 ((Zd rl ⟨x,y,z⟩ ⟨u,v,w⟩ ad li now lf se sl tg kv).issue).stop],.agg [.int .u64 (Zd rl ⟨x,y,z⟩ ⟨u,v,w⟩ ad li now lf se sl tg kv).part.session,.str (Zd rl ⟨x,y,z⟩ ⟨u,v,w⟩ ad li now lf se sl tg kv).part.service.name,.str (Zd rl ⟨x,y,z⟩ ⟨u,v,w⟩ ad li now lf se sl tg kv).part.service.inst,.str (Zd rl ⟨x,y,z⟩ ⟨u,v,w⟩ ad li now lf se sl tg kv).part.service.realm,.int .i64 (Zd rl ⟨x,y,z⟩ ⟨u,v,w⟩ ad li now lf se sl tg kv).part.life,.int .i64 (Zd rl ⟨x,y,z⟩ ⟨u,v,w⟩ ad li now lf se sl tg kv).part.kvno,.bs (Zd rl ⟨x,y,z⟩ ⟨u,v,w⟩ ad li now lf se sl tg kv).part.ticket,.int .i64 (Zd rl ⟨x,y,z⟩ ⟨u,v,w⟩ ad li now lf se sl tg kv).part.time],.int .i64 (Zd rl ⟨x,y,z⟩ ⟨u,v,w⟩ ad li now lf se sl tg kv).err],[]))
 | _,_=>none
def sp102:Abs.Spec:=fun xs bl=>match xs,bl with
 | [.bs b,.bool li,.int .u64 k],[]=>chk (decide (b.length≤140737488355328)) (some (.tup [.agg [.str ((Yd b li k).val).client.name,.str ((Yd b li k).val).client.inst,.str ((Yd b li k).val).client.realm,.int .i64 ((Yd b li k).val).checksum,.int .i64 ((Yd b li k).val).tick,.int .i64 ((Yd b li k).val).time],.int .i64 (Yd b li k).err],[]))
 | _,_=>none
def sp36:Abs.Spec:=fun xs bl=>match xs,bl with
 | [.agg [.str m1,.str m2,.str m3,.sl 5 kls,.int .i64 sz,.int .i64 fl,.sl 5 mls,.int .i64 sk],.agg [.bool rli,.bool rmu,.int .i64 rkv,.str rrl,.bs rtk,.bs rau]],[]=>chk (decide (m1.length≤9223372036854775807)&&decide (m2.length≤9223372036854775807)&&decide (m3.length≤9223372036854775807)&&kls.all Yu&&decide (kls.length≤1000000)&&mls.all Yp&&decide (mls.length≤1000000)&&decide (rtk.length≤1000000)&&decide (rau.length≤1000000)) (some (.agg [.str (Kerb.holder (Zy ⟨m1,m2,m3⟩ (kls.map Zw) ⟨sz,fl,mls.map Zx⟩ sk) (Zz rli rmu rkv rrl rtk rau)).name,.str (Kerb.holder (Zy ⟨m1,m2,m3⟩ (kls.map Zw) ⟨sz,fl,mls.map Zx⟩ sk) (Zz rli rmu rkv rrl rtk rau)).inst,.str (Kerb.holder (Zy ⟨m1,m2,m3⟩ (kls.map Zw) ⟨sz,fl,mls.map Zx⟩ sk) (Zz rli rmu rkv rrl rtk rau)).realm],[]))
 | _,_=>none
def sp37:Abs.Spec:=fun xs bl=>match xs,bl with
 | [.agg [.str rl,.sl 9 els,.sl 4 xls,.int .i64 now,.bool li,.int .u64 se],.agg [.bool rli,.bool rmu,.int .i64 rkv,.str rrl,.bs rtk,.bs rau,.int .i64 wtm,.int .i64 wlf,.str wsv,.str win],.agg [.str cx,.str cy,.str cz,.int .u64 ck2,.int .i64 cad,.int .i64 ccs,.int .i64 ctm,.int .i64 ctc,.int .i64 cis,.int .i64 clf,.bs ctk,.bs cau]],[]=>chk (els.all Yq&&decide (els.length≤1000000)&&xls.all Ym&&decide (xls.length≤1000000)&&decide (rl.length≤9223372036854775807)&&decide (wsv.length≤9223372036854775807)&&decide (win.length≤9223372036854775807)&&decide (cx.length≤9223372036854775807)&&decide (cy.length≤9223372036854775807)&&decide (cz.length≤9223372036854775807)&&Yf se&&Yf ck2) (some (.tup [.bs (Zf (Zq rl (els.map Zv)) (xls.map Zu) now li se (Zj (Zz rli rmu rkv rrl rtk rau) wtm wlf wsv win) (Zp ⟨cx,cy,cz⟩ ck2 cad ccs ctm ctc cis clf ctk cau)).answer,.agg [.int .i64 ((Zf (Zq rl (els.map Zv)) (xls.map Zu) now li se (Zj (Zz rli rmu rkv rrl rtk rau) wtm wlf wsv win) (Zp ⟨cx,cy,cz⟩ ck2 cad ccs ctm ctc cis clf ctk cau)).issue).kind,.str ((Zf (Zq rl (els.map Zv)) (xls.map Zu) now li se (Zj (Zz rli rmu rkv rrl rtk rau) wtm wlf wsv win) (Zp ⟨cx,cy,cz⟩ ck2 cad ccs ctm ctc cis clf ctk cau)).issue).server.name,.str ((Zf (Zq rl (els.map Zv)) (xls.map Zu) now li se (Zj (Zz rli rmu rkv rrl rtk rau) wtm wlf wsv win) (Zp ⟨cx,cy,cz⟩ ck2 cad ccs ctm ctc cis clf ctk cau)).issue).server.inst,.str ((Zf (Zq rl (els.map Zv)) (xls.map Zu) now li se (Zj (Zz rli rmu rkv rrl rtk rau) wtm wlf wsv win) (Zp ⟨cx,cy,cz⟩ ck2 cad ccs ctm ctc cis clf ctk cau)).issue).server.realm,.str ((Zf (Zq rl (els.map Zv)) (xls.map Zu) now li se (Zj (Zz rli rmu rkv rrl rtk rau) wtm wlf wsv win) (Zp ⟨cx,cy,cz⟩ ck2 cad ccs ctm ctc cis clf ctk cau)).issue).client.name,.str ((Zf (Zq rl (els.map Zv)) (xls.map Zu) now li se (Zj (Zz rli rmu rkv rrl rtk rau) wtm wlf wsv win) (Zp ⟨cx,cy,cz⟩ ck2 cad ccs ctm ctc cis clf ctk cau)).issue).client.inst,.str ((Zf (Zq rl (els.map Zv)) (xls.map Zu) now li se (Zj (Zz rli rmu rkv rrl rtk rau) wtm wlf wsv win) (Zp ⟨cx,cy,cz⟩ ck2 cad ccs ctm ctc cis clf ctk cau)).issue).client.realm,.str ((Zf (Zq rl (els.map Zv)) (xls.map Zu) now li se (Zj (Zz rli rmu rkv rrl rtk rau) wtm wlf wsv win) (Zp ⟨cx,cy,cz⟩ ck2 cad ccs ctm ctc cis clf ctk cau)).issue).service.name,.str ((Zf (Zq rl (els.map Zv)) (xls.map Zu) now li se (Zj (Zz rli rmu rkv rrl rtk rau) wtm wlf wsv win) (Zp ⟨cx,cy,cz⟩ ck2 cad ccs ctm ctc cis clf ctk cau)).issue).service.inst,.str ((Zf (Zq rl (els.map Zv)) (xls.map Zu) now li se (Zj (Zz rli rmu rkv rrl rtk rau) wtm wlf wsv win) (Zp ⟨cx,cy,cz⟩ ck2 cad ccs ctm ctc cis clf ctk cau)).issue).service.realm,.int .u64 ((Zf (Zq rl (els.map Zv)) (xls.map Zu) now li se (Zj (Zz rli rmu rkv rrl rtk rau) wtm wlf wsv win) (Zp ⟨cx,cy,cz⟩ ck2 cad ccs ctm ctc cis clf ctk cau)).issue).session,.int .u64 ((Zf (Zq rl (els.map Zv)) (xls.map Zu) now li se (Zj (Zz rli rmu rkv rrl rtk rau) wtm wlf wsv win) (Zp ⟨cx,cy,cz⟩ ck2 cad ccs ctm ctc cis clf ctk cau)).issue).sealer,.int .u64 ((Zf (Zq rl (els.map Zv)) (xls.map Zu) now li se (Zj (Zz rli rmu rkv rrl rtk rau) wtm wlf wsv win) (Zp ⟨cx,cy,cz⟩ ck2 cad ccs ctm ctc cis clf ctk cau)).issue).granter,.bs ((Zf (Zq rl (els.map Zv)) (xls.map Zu) now li se (Zj (Zz rli rmu rkv rrl rtk rau) wtm wlf wsv win) (Zp ⟨cx,cy,cz⟩ ck2 cad ccs ctm ctc cis clf ctk cau)).issue).text,.int .i64 ((Zf (Zq rl (els.map Zv)) (xls.map Zu) now li se (Zj (Zz rli rmu rkv rrl rtk rau) wtm wlf wsv win) (Zp ⟨cx,cy,cz⟩ ck2 cad ccs ctm ctc cis clf ctk cau)).issue).issued,.int .i64 ((Zf (Zq rl (els.map Zv)) (xls.map Zu) now li se (Zj (Zz rli rmu rkv rrl rtk rau) wtm wlf wsv win) (Zp ⟨cx,cy,cz⟩ ck2 cad ccs ctm ctc cis clf ctk cau)).issue).stop],.bool (Zf (Zq rl (els.map Zv)) (xls.map Zu) now li se (Zj (Zz rli rmu rkv rrl rtk rau) wtm wlf wsv win) (Zp ⟨cx,cy,cz⟩ ck2 cad ccs ctm ctc cis clf ctk cau)).ok],[]))
 | _,_=>none
def sp62:Abs.Spec:=fun xs bl=>match xs,bl with
 | [.agg [.str m1,.str m2,.str m3,.sl 5 kls,.int .i64 sz,.int .i64 fl,.sl 5 mls,.int .i64 sk],.agg [.bool rli,.bool rmu,.int .i64 rkv,.str rrl,.bs rtk,.bs rau]],[]=>chk (decide (m1.length≤9223372036854775807)&&decide (m2.length≤9223372036854775807)&&decide (m3.length≤9223372036854775807)&&kls.all Yu&&decide (kls.length≤1000000)&&mls.all Yp&&decide (mls.length≤1000000)&&decide (rtk.length≤1000000)&&decide (rau.length≤1000000)) (some (.tup [.agg [.bool ((Zn (Zy ⟨m1,m2,m3⟩ (kls.map Zw) ⟨sz,fl,mls.map Zx⟩ sk) (Zz rli rmu rkv rrl rtk rau)).ticket).little,.str ((Zn (Zy ⟨m1,m2,m3⟩ (kls.map Zw) ⟨sz,fl,mls.map Zx⟩ sk) (Zz rli rmu rkv rrl rtk rau)).ticket).client.name,.str ((Zn (Zy ⟨m1,m2,m3⟩ (kls.map Zw) ⟨sz,fl,mls.map Zx⟩ sk) (Zz rli rmu rkv rrl rtk rau)).ticket).client.inst,.str ((Zn (Zy ⟨m1,m2,m3⟩ (kls.map Zw) ⟨sz,fl,mls.map Zx⟩ sk) (Zz rli rmu rkv rrl rtk rau)).ticket).client.realm,.int .i64 ((Zn (Zy ⟨m1,m2,m3⟩ (kls.map Zw) ⟨sz,fl,mls.map Zx⟩ sk) (Zz rli rmu rkv rrl rtk rau)).ticket).address,.int .u64 ((Zn (Zy ⟨m1,m2,m3⟩ (kls.map Zw) ⟨sz,fl,mls.map Zx⟩ sk) (Zz rli rmu rkv rrl rtk rau)).ticket).session,.int .i64 ((Zn (Zy ⟨m1,m2,m3⟩ (kls.map Zw) ⟨sz,fl,mls.map Zx⟩ sk) (Zz rli rmu rkv rrl rtk rau)).ticket).life,.int .i64 ((Zn (Zy ⟨m1,m2,m3⟩ (kls.map Zw) ⟨sz,fl,mls.map Zx⟩ sk) (Zz rli rmu rkv rrl rtk rau)).ticket).issued,.str ((Zn (Zy ⟨m1,m2,m3⟩ (kls.map Zw) ⟨sz,fl,mls.map Zx⟩ sk) (Zz rli rmu rkv rrl rtk rau)).ticket).service,.str ((Zn (Zy ⟨m1,m2,m3⟩ (kls.map Zw) ⟨sz,fl,mls.map Zx⟩ sk) (Zz rli rmu rkv rrl rtk rau)).ticket).inst],.agg [.str ((Zn (Zy ⟨m1,m2,m3⟩ (kls.map Zw) ⟨sz,fl,mls.map Zx⟩ sk) (Zz rli rmu rkv rrl rtk rau)).auth).client.name,.str ((Zn (Zy ⟨m1,m2,m3⟩ (kls.map Zw) ⟨sz,fl,mls.map Zx⟩ sk) (Zz rli rmu rkv rrl rtk rau)).auth).client.inst,.str ((Zn (Zy ⟨m1,m2,m3⟩ (kls.map Zw) ⟨sz,fl,mls.map Zx⟩ sk) (Zz rli rmu rkv rrl rtk rau)).auth).client.realm,.int .i64 ((Zn (Zy ⟨m1,m2,m3⟩ (kls.map Zw) ⟨sz,fl,mls.map Zx⟩ sk) (Zz rli rmu rkv rrl rtk rau)).auth).checksum,.int .i64 ((Zn (Zy ⟨m1,m2,m3⟩ (kls.map Zw) ⟨sz,fl,mls.map Zx⟩ sk) (Zz rli rmu rkv rrl rtk rau)).auth).tick,.int .i64 ((Zn (Zy ⟨m1,m2,m3⟩ (kls.map Zw) ⟨sz,fl,mls.map Zx⟩ sk) (Zz rli rmu rkv rrl rtk rau)).auth).time],.int .i64 (Zn (Zy ⟨m1,m2,m3⟩ (kls.map Zw) ⟨sz,fl,mls.map Zx⟩ sk) (Zz rli rmu rkv rrl rtk rau)).err],[]))
 | _,_=>none
def sp34:Abs.Spec:=fun xs bl=>match xs,bl with
 | [.agg [.str m1,.str m2,.str m3,.sl 5 kls,.int .i64 sz,.int .i64 fl,.sl 5 mls,.int .i64 sk],.agg [.bool rli,.bool rmu,.int .i64 rkv,.str rrl,.bs rtk,.bs rau],.int .i64 src,.int .i64 now],[]=>chk (decide (m1.length≤9223372036854775807)&&decide (m2.length≤9223372036854775807)&&decide (m3.length≤9223372036854775807)&&kls.all Yu&&decide (kls.length≤1000000)&&mls.all Yp&&decide (mls.length≤1000000)&&decide (rtk.length≤1000000)&&decide (rau.length≤1000000)) (some (.tup [.agg [.str ((Zg (Zy ⟨m1,m2,m3⟩ (kls.map Zw) ⟨sz,fl,mls.map Zx⟩ sk) (Zz rli rmu rkv rrl rtk rau) src now).s).me.name,.str ((Zg (Zy ⟨m1,m2,m3⟩ (kls.map Zw) ⟨sz,fl,mls.map Zx⟩ sk) (Zz rli rmu rkv rrl rtk rau) src now).s).me.inst,.str ((Zg (Zy ⟨m1,m2,m3⟩ (kls.map Zw) ⟨sz,fl,mls.map Zx⟩ sk) (Zz rli rmu rkv rrl rtk rau) src now).s).me.realm,.sl 5 (((Zg (Zy ⟨m1,m2,m3⟩ (kls.map Zw) ⟨sz,fl,mls.map Zx⟩ sk) (Zz rli rmu rkv rrl rtk rau) src now).s).keys.map Xx),.int .i64 (((Zg (Zy ⟨m1,m2,m3⟩ (kls.map Zw) ⟨sz,fl,mls.map Zx⟩ sk) (Zz rli rmu rkv rrl rtk rau) src now).s).replay).size,.int .i64 (((Zg (Zy ⟨m1,m2,m3⟩ (kls.map Zw) ⟨sz,fl,mls.map Zx⟩ sk) (Zz rli rmu rkv rrl rtk rau) src now).s).replay).floor,.sl 5 ((((Zg (Zy ⟨m1,m2,m3⟩ (kls.map Zw) ⟨sz,fl,mls.map Zx⟩ sk) (Zz rli rmu rkv rrl rtk rau) src now).s).replay).marks.map Kerb.Mark.av),.int .i64 ((Zg (Zy ⟨m1,m2,m3⟩ (kls.map Zw) ⟨sz,fl,mls.map Zx⟩ sk) (Zz rli rmu rkv rrl rtk rau) src now).s).skew],.agg [.str ((Zg (Zy ⟨m1,m2,m3⟩ (kls.map Zw) ⟨sz,fl,mls.map Zx⟩ sk) (Zz rli rmu rkv rrl rtk rau) src now).a).client.name,.str ((Zg (Zy ⟨m1,m2,m3⟩ (kls.map Zw) ⟨sz,fl,mls.map Zx⟩ sk) (Zz rli rmu rkv rrl rtk rau) src now).a).client.inst,.str ((Zg (Zy ⟨m1,m2,m3⟩ (kls.map Zw) ⟨sz,fl,mls.map Zx⟩ sk) (Zz rli rmu rkv rrl rtk rau) src now).a).client.realm,.int .u64 ((Zg (Zy ⟨m1,m2,m3⟩ (kls.map Zw) ⟨sz,fl,mls.map Zx⟩ sk) (Zz rli rmu rkv rrl rtk rau) src now).a).session,.int .i64 ((Zg (Zy ⟨m1,m2,m3⟩ (kls.map Zw) ⟨sz,fl,mls.map Zx⟩ sk) (Zz rli rmu rkv rrl rtk rau) src now).a).address,.int .i64 ((Zg (Zy ⟨m1,m2,m3⟩ (kls.map Zw) ⟨sz,fl,mls.map Zx⟩ sk) (Zz rli rmu rkv rrl rtk rau) src now).a).checksum,.int .i64 ((Zg (Zy ⟨m1,m2,m3⟩ (kls.map Zw) ⟨sz,fl,mls.map Zx⟩ sk) (Zz rli rmu rkv rrl rtk rau) src now).a).time,.int .i64 ((Zg (Zy ⟨m1,m2,m3⟩ (kls.map Zw) ⟨sz,fl,mls.map Zx⟩ sk) (Zz rli rmu rkv rrl rtk rau) src now).a).tick,.int .i64 ((Zg (Zy ⟨m1,m2,m3⟩ (kls.map Zw) ⟨sz,fl,mls.map Zx⟩ sk) (Zz rli rmu rkv rrl rtk rau) src now).a).issued,.int .i64 ((Zg (Zy ⟨m1,m2,m3⟩ (kls.map Zw) ⟨sz,fl,mls.map Zx⟩ sk) (Zz rli rmu rkv rrl rtk rau) src now).a).life,.bs ((Zg (Zy ⟨m1,m2,m3⟩ (kls.map Zw) ⟨sz,fl,mls.map Zx⟩ sk) (Zz rli rmu rkv rrl rtk rau) src now).a).ticket,.bs ((Zg (Zy ⟨m1,m2,m3⟩ (kls.map Zw) ⟨sz,fl,mls.map Zx⟩ sk) (Zz rli rmu rkv rrl rtk rau) src now).a).auth],.int .i64 (Zg (Zy ⟨m1,m2,m3⟩ (kls.map Zw) ⟨sz,fl,mls.map Zx⟩ sk) (Zz rli rmu rkv rrl rtk rau) src now).err],[]))
 | _,_=>none
def sp15:Abs.Spec:=fun xs bl=>match xs,bl with
 | [.agg [.str rl,.sl 9 els],.sl 4 xls,.agg [.str m1,.str m2,.str m3,.sl 5 kls,.int .i64 sz,.int .i64 fl,.sl 5 mls,.int .i64 sk],.int .i64 now,.int .i64 ad,.bool li,.int .u64 se,.bs msg],[]=>chk (els.all Yq&&decide (els.length≤1000000)&&xls.all Ym&&decide (xls.length≤1000000)&&decide (rl.length≤9223372036854775807)&&decide (m1.length≤9223372036854775807)&&decide (m2.length≤9223372036854775807)&&decide (m3.length≤9223372036854775807)&&kls.all Yu&&decide (kls.length≤1000000)&&mls.all Yp&&decide (mls.length≤1000000)&&Yf se&&decide (msg.length≤1000000)&&decide (xls.length≤900000)) (some (.tup [.agg [.str ((Zk (Zq rl (els.map Zv)) (xls.map Zu) (Zy ⟨m1,m2,m3⟩ (kls.map Zw) ⟨sz,fl,mls.map Zx⟩ sk) now ad li se msg).s).me.name,.str ((Zk (Zq rl (els.map Zv)) (xls.map Zu) (Zy ⟨m1,m2,m3⟩ (kls.map Zw) ⟨sz,fl,mls.map Zx⟩ sk) now ad li se msg).s).me.inst,.str ((Zk (Zq rl (els.map Zv)) (xls.map Zu) (Zy ⟨m1,m2,m3⟩ (kls.map Zw) ⟨sz,fl,mls.map Zx⟩ sk) now ad li se msg).s).me.realm,.sl 5 (((Zk (Zq rl (els.map Zv)) (xls.map Zu) (Zy ⟨m1,m2,m3⟩ (kls.map Zw) ⟨sz,fl,mls.map Zx⟩ sk) now ad li se msg).s).keys.map Xx),.int .i64 (((Zk (Zq rl (els.map Zv)) (xls.map Zu) (Zy ⟨m1,m2,m3⟩ (kls.map Zw) ⟨sz,fl,mls.map Zx⟩ sk) now ad li se msg).s).replay).size,.int .i64 (((Zk (Zq rl (els.map Zv)) (xls.map Zu) (Zy ⟨m1,m2,m3⟩ (kls.map Zw) ⟨sz,fl,mls.map Zx⟩ sk) now ad li se msg).s).replay).floor,.sl 5 ((((Zk (Zq rl (els.map Zv)) (xls.map Zu) (Zy ⟨m1,m2,m3⟩ (kls.map Zw) ⟨sz,fl,mls.map Zx⟩ sk) now ad li se msg).s).replay).marks.map Kerb.Mark.av),.int .i64 ((Zk (Zq rl (els.map Zv)) (xls.map Zu) (Zy ⟨m1,m2,m3⟩ (kls.map Zw) ⟨sz,fl,mls.map Zx⟩ sk) now ad li se msg).s).skew],.bs (Zk (Zq rl (els.map Zv)) (xls.map Zu) (Zy ⟨m1,m2,m3⟩ (kls.map Zw) ⟨sz,fl,mls.map Zx⟩ sk) now ad li se msg).out.answer,.agg [.int .i64 ((Zk (Zq rl (els.map Zv)) (xls.map Zu) (Zy ⟨m1,m2,m3⟩ (kls.map Zw) ⟨sz,fl,mls.map Zx⟩ sk) now ad li se msg).out.issue).kind,.str ((Zk (Zq rl (els.map Zv)) (xls.map Zu) (Zy ⟨m1,m2,m3⟩ (kls.map Zw) ⟨sz,fl,mls.map Zx⟩ sk) now ad li se msg).out.issue).server.name,.str ((Zk (Zq rl (els.map Zv)) (xls.map Zu) (Zy ⟨m1,m2,m3⟩ (kls.map Zw) ⟨sz,fl,mls.map Zx⟩ sk) now ad li se msg).out.issue).server.inst,.str ((Zk (Zq rl (els.map Zv)) (xls.map Zu) (Zy ⟨m1,m2,m3⟩ (kls.map Zw) ⟨sz,fl,mls.map Zx⟩ sk) now ad li se msg).out.issue).server.realm,.str ((Zk (Zq rl (els.map Zv)) (xls.map Zu) (Zy ⟨m1,m2,m3⟩ (kls.map Zw) ⟨sz,fl,mls.map Zx⟩ sk) now ad li se msg).out.issue).client.name,.str ((Zk (Zq rl (els.map Zv)) (xls.map Zu) (Zy ⟨m1,m2,m3⟩ (kls.map Zw) ⟨sz,fl,mls.map Zx⟩ sk) now ad li se msg).out.issue).client.inst,.str ((Zk (Zq rl (els.map Zv)) (xls.map Zu) (Zy ⟨m1,m2,m3⟩ (kls.map Zw) ⟨sz,fl,mls.map Zx⟩ sk) now ad li se msg).out.issue).client.realm,.str ((Zk (Zq rl (els.map Zv)) (xls.map Zu) (Zy ⟨m1,m2,m3⟩ (kls.map Zw) ⟨sz,fl,mls.map Zx⟩ sk) now ad li se msg).out.issue).service.name,.str ((Zk (Zq rl (els.map Zv)) (xls.map Zu) (Zy ⟨m1,m2,m3⟩ (kls.map Zw) ⟨sz,fl,mls.map Zx⟩ sk) now ad li se msg).out.issue).service.inst,.str ((Zk (Zq rl (els.map Zv)) (xls.map Zu) (Zy ⟨m1,m2,m3⟩ (kls.map Zw) ⟨sz,fl,mls.map Zx⟩ sk) now ad li se msg).out.issue).service.realm,.int .u64 ((Zk (Zq rl (els.map Zv)) (xls.map Zu) (Zy ⟨m1,m2,m3⟩ (kls.map Zw) ⟨sz,fl,mls.map Zx⟩ sk) now ad li se msg).out.issue).session,.int .u64 ((Zk (Zq rl (els.map Zv)) (xls.map Zu) (Zy ⟨m1,m2,m3⟩ (kls.map Zw) ⟨sz,fl,mls.map Zx⟩ sk) now ad li se msg).out.issue).sealer,.int .u64 ((Zk (Zq rl (els.map Zv)) (xls.map Zu) (Zy ⟨m1,m2,m3⟩ (kls.map Zw) ⟨sz,fl,mls.map Zx⟩ sk) now ad li se msg).out.issue).granter,.bs ((Zk (Zq rl (els.map Zv)) (xls.map Zu) (Zy ⟨m1,m2,m3⟩ (kls.map Zw) ⟨sz,fl,mls.map Zx⟩ sk) now ad li se msg).out.issue).text,.int .i64 ((Zk (Zq rl (els.map Zv)) (xls.map Zu) (Zy ⟨m1,m2,m3⟩ (kls.map Zw) ⟨sz,fl,mls.map Zx⟩ sk) now ad li se msg).out.issue).issued,.int .i64 ((Zk (Zq rl (els.map Zv)) (xls.map Zu) (Zy ⟨m1,m2,m3⟩ (kls.map Zw) ⟨sz,fl,mls.map Zx⟩ sk) now ad li se msg).out.issue).stop],.bool (Zk (Zq rl (els.map Zv)) (xls.map Zu) (Zy ⟨m1,m2,m3⟩ (kls.map Zw) ⟨sz,fl,mls.map Zx⟩ sk) now ad li se msg).out.ok],[]))
 | _,_=>none
def sp4:Abs.Spec:=fun xs bl=>match xs,bl with
 | [],[]=>some (.bool true,[])
 | _,_=>none
def sp3:Abs.Spec:=fun xs bl=>match xs,bl with
 | [.bs d,.bs cx,.u8 bd],[]=>some (.bool true,[])
 | _,_=>none
def tabT:List (Nat×Nat×List CT×Abs.Spec):=[(8,1,[.sl 5,.sl 5],sp8),(13,1,[.int .i64],sp13),(17,1,[.int .i64],sp17),(20,1,[.ptr],sp20),(23,1,[.str,.str],sp23),(24,1,[.other,.str,.str],sp24),(26,1,[.other,.str,.str],sp26),(28,1,[.str,.str],sp28),(31,1,[.sl 5],sp31),(32,1,[.sl 5],sp32),(39,1,[.ptr,.int .i64],sp39),(40,1,[],sp40),(42,1,[.int .i64,.int .i64],sp42),(45,1,[.bsl,.int .u16],sp45),(49,1,[.int .i64,.int .i64],sp49),(52,1,[.bsl,.str],sp52),(59,1,[.bsl,.bsl],sp59),(65,1,[.bsl],sp65),(68,1,[.other],sp68),(74,1,[.int .i64],sp74),(75,1,[.int .i64],sp75),(80,1,[.int .i64,.bool],sp80),(81,1,[.str,.str],sp81),(82,1,[.bsl,.int .i64,.int .i64,.bool],sp82),(84,1,[.int .i64,.sl 1],sp84),(87,1,[.bsl,.int .i64,.int .i64],sp87),(92,1,[.int .i64,.int .i64],sp92),(99,1,[.int .i64],sp99),(101,1,[.other,.str],sp101),(105,1,[.int .i64,.int .i64,.int .i64],sp105),(107,1,[.int .i64],sp107),(112,1,[.sl 4,.str,.str],sp112),(122,1,[.int .u64],sp122),(123,1,[.bsl],sp123),(126,1,[.int .i64],sp126),(127,1,[.bsl,.u8],sp127),(133,1,[.other],sp133),(134,1,[.sl 5,.other],sp134),(136,1,[.int .i64],sp136),(137,1,[.int .i64],sp137),(138,1,[.int .i64,.int .i64],sp138),(146,1,[.int .i64,.sl 1],sp146),(148,1,[.int .u64],sp148),(150,1,[.int .i64],sp150),(154,1,[.int .i64,.int .i64],sp154),(155,1,[.int .i64,.int .i64],sp155),(156,1,[.other,.other],sp156),(161,1,[.str,.u8],sp161),(162,1,[.int .i64,.int .i64],sp162),(163,1,[.int .i64,.int .i64],sp163),(19,2,[.int .i64],sp19),(27,2,[.int .u64],sp27),(41,2,[.int .u64],sp41),(47,2,[.str],sp47),(48,2,[.str],sp48),(50,2,[.bsl,.int .i64],sp50),(51,2,[.bsl,.int .i64,.bool],sp51),(60,2,[.other],sp60),(79,2,[.str],sp79),(83,2,[.bsl],sp83),(85,2,[.bsl,.int .i64,.int .i64],sp85),(86,2,[.bsl,.int .i64,.int .i64,.bool],sp86),(88,2,[.bsl,.u8],sp88),(103,2,[.int .i64,.int .i64,.int .i64],sp103),(106,2,[.other,.other],sp106),(114,2,[.int .i64,.int .i64],sp114),(121,2,[.bsl,.other],sp121),(128,2,[.int .i64,.bool],sp128),(129,2,[.sl 1],sp129),(132,2,[.sl 5,.other],sp132),(147,2,[.int .i64],sp147),(158,2,[.str,.u8],sp158),(10,3,[.other,.sl 4],sp10),(12,3,[.int .i64,.int .i64],sp12),(14,3,[.int .i64],sp14),(18,3,[.bsl],sp18),(22,3,[.int .i64],sp22),(25,3,[.int .u64],sp25),(46,3,[.other],sp46),(53,3,[.bsl,.sl 1],sp53),(55,3,[.bsl,.int .i64,.bool],sp55),(56,3,[.bsl,.int .i64],sp56),(57,3,[.bsl,.int .i64],sp57),(71,3,[.int .u64],sp71),(77,3,[.int .i64,.int .u64,.bsl],sp77),(95,3,[.bsl,.str],sp95),(100,3,[.sl 5,.other,.int .i64],sp100),(104,3,[.int .i64,.int .i64,.int .i64,.int .i64],sp104),(115,3,[.int .i64,.int .i64,.sl 1],sp115),(125,3,[.bsl,.bool],sp125),(131,3,[.bsl,.int .i64,.int .i64,.bool],sp131),(139,3,[.str,.u8],sp139),(149,3,[.bsl],sp149),(152,3,[.other],sp152),(153,3,[.int .u64],sp153),(5,4,[.bsl],sp5),(7,4,[.u8,.u8,.u8],sp7),(9,4,[.other,.sl 4],sp9),(21,4,[.ptr],sp21),(30,4,[.other],sp30),(38,4,[.other],sp38),(54,4,[.bsl],sp54),(63,4,[.other,.other,.int .i64,.int .i64,.int .i64],sp63),(70,4,[.other,.int .i64,.int .i64,.int .i64,.other],sp70),(93,4,[.bsl,.int .i64,.bool],sp93),(94,4,[.bsl,.int .i64],sp94),(118,4,[.int .i64,.int .u64,.bsl],sp118),(120,4,[.other],sp120),(124,4,[.other],sp124),(130,4,[.str,.str],sp130),(140,4,[.bsl,.other],sp140),(143,4,[.bsl],sp143),(145,4,[.other,.str,.str,.int .i64,.int .i64,.int .i64,.int .i64],sp145),(151,4,[.bsl,.int .i64,.bool],sp151),(6,5,[.bsl,.int .i64],sp6),(16,5,[.other,.u8,.u8],sp16),(76,5,[.other],sp76),(78,5,[.other,.bool],sp78),(90,5,[.str],sp90),(91,5,[.str],sp91),(113,5,[.other,.str,.str,.int .i64],sp113),(141,5,[.bsl],sp141),(43,6,[.other,.int .u64],sp43),(44,6,[.other,.bool,.int .u64],sp44),(109,6,[.bsl,.int .i64,.int .u64],sp109),(111,6,[.str],sp111),(29,7,[.other,.other,.int .u64,.int .i64],sp29),(69,7,[.other,.sl 4,.str,.str,.int .i64],sp69),(89,7,[.other],sp89),(96,7,[.other],sp96),(11,8,[.other,.other,.int .u64,.int .i64,.int .i64,.int .i64,.other],sp11),(58,8,[.other],sp58),(97,8,[.sl 5],sp97),(98,8,[.other],sp98),(108,8,[.other],sp108),(117,8,[.other,.bool],sp117),(119,8,[.other],sp119),(142,8,[.bsl,.int .i64],sp142),(159,8,[.other],sp159),(160,8,[.other],sp160),(33,9,[.bsl],sp33),(61,9,[.other],sp61),(64,9,[.other,.other,.int .i64,.int .i64],sp64),(66,9,[.other,.int .i64,.int .i64,.bool],sp66),(73,9,[.other,.other,.other,.other],sp73),(144,9,[.other],sp144),(157,9,[.other,.bool],sp157),(35,10,[.other,.other,.int .i64],sp35),(110,10,[.bsl],sp110),(116,10,[.other,.int .u64],sp116),(135,10,[.bsl,.bool],sp135),(67,11,[.bsl,.int .u64],sp67),(72,11,[.other,.other,.other,.int .i64,.bool,.int .i64,.int .i64,.int .u64,.int .u64,.int .u64,.int .i64],sp72),(102,11,[.bsl,.bool,.int .u64],sp102),(36,12,[.other,.other],sp36),(37,12,[.other,.other,.other],sp37),(62,12,[.other,.other],sp62),(34,13,[.other,.other,.int .i64,.int .i64],sp34),(15,14,[.other,.sl 4,.other,.int .i64,.int .i64,.bool,.int .u64,.bsl],sp15),(4,15,[],sp4),(3,16,[.bsl,.bsl,.u8],sp3)]
def globT:List (Nat×List AV):=[(0,[.str [99,108,105,101,110,116,32,101,120,112,105,114,101,100],.str [115,101,114,118,105,99,101,32,101,120,112,105,114,101,100],.str [110,111,32,108,105,102,101,116,105,109,101,32,108,101,102,116],.str [112,114,111,116,111,99,111,108,32,118,101,114,115,105,111,110],.str [110,111,116,32,97,32,99,108,105,101,110,116],.str [110,111,116,32,97,32,115,101,114,118,105,99,101],.str [98,121,116,101,32,111,114,100,101,114],.str [112,114,105,110,99,105,112,97,108,32,117,110,107,110,111,119,110],.str [112,114,105,110,99,105,112,97,108,32,110,111,116,32,117,110,105,113,117,101],.str [110,111,32,107,101,121]])]
noncomputable def inlT:List (Nat×Func):=[]
def look {α:Type} (k:Nat):List (Nat×α)→Option α
 | []=>none
 | (j,x)::r=>cond (Nat.beq j k) (some x) (look k r)
def look2 {α:Type} (k m:Nat):List (Nat×Nat×List α)→List α
 | []=>[]
 | (j,i,x)::r=>cond (Nat.beq j k) (cond (Nat.beq i m) x (look2 k m r)) (look2 k m r)
noncomputable def G:Cfg2:={ ty:=fun t=>(tbl[t]?).join,keep:=fun f r=>look2 f r keepT,own:=fun f=>ownT.contains f,glob:=fun q=>look q globT,rts:=fun f=>look f rtsT,tab:=fun f=>look f tabT,inl:=fun f=>look f inlT }
end Go.Proofs.YtljhmpcfjfcgiaaGreatDoor
