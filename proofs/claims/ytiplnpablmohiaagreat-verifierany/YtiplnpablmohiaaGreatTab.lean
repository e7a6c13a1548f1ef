/- The table of functions of this seat. -/
import Derived.Test.YtiplnpablmohiaaGreatAbsSpec
import Derived.Test.YtiplnpablmohiaaGreatKerbDefs
import Derived.Test.YtiplnpablmohiaaGreatAbsPlain
import Derived.Test.YtiplnpablmohiaaGreatKerbCli6
import Derived.Test.YtiplnpablmohiaaGreatKerbKaRef
import Derived.Test.YtiplnpablmohiaaGreatKerbCli2
import Derived.Test.YtiplnpablmohiaaGreatKerbTkt
import Derived.Test.YtiplnpablmohiaaGreatKerbDb
import Derived.Test.YtiplnpablmohiaaGreatKerbVerL
import Derived.Test.YtiplnpablmohiaaGreatKerbVerL
import Derived.Test.YtiplnpablmohiaaGreatProg
import Derived.KernelRfl
open Kerb.Server renaming mk→Zz
open Kerb.ApRequest renaming mk→Zy
open Kerb renaming toMark→Zx,toSKey→Zw,verify→Zv,decodeTicket→Zu,openTicket→Zq,decodeAuth→Zk,vRead→Zp,openReq→Zd,isMark→Zf,get→Zg,openAuth→Zb,isSKey→Zn,readBox→Yy,within→Yw,bytes→Yv,addMark→Yu,decodeAp→Yq,text→Yj,putN→Yk,readAp→Yd,serviceAnswer→Yf,encodeTicket→Yg,encodeMutual→Yb,keyValid→Yn
open Kerb.Case renaming mk→Zj
open Kerb.RCache renaming mk→Zm
open Kerb.Mark renaming mk→Zh,av→Yp
open Kerb.Ticket renaming mk→Yz
open Kerb.Auth renaming mk→Yx
namespace Go.Proofs.YtiplnpablmohiaaGreat
open Go Go.Abs
set_option linter.unusedVariables false
def tbl:List (Option TI):=[
 none,
 none,
 some ⟨1,8,.int .i64,[.int .i64 0],[.int .i64],[.int .i64]⟩,
 some ⟨1,8,.int .i64,[.int .i64 0],[.int .i64],[.int .i64]⟩,
 some ⟨1,1,.bool,[.bool false],[.bool],[.bool]⟩,
 some ⟨1,1,.u8,[.u8 0],[.u8],[.u8]⟩,
 some ⟨1,1,.u8,[.u8 0],[.u8],[.u8]⟩,
 some ⟨4,24,.struct [(0,2),(1,3),(2,4),(3,6)],[.int .i64 0,.int .i64 0,.bool false,.u8 0],[.int .i64,.int .i64,.bool,.u8],[.int .i64,.int .i64,.bool,.u8]⟩,
 none,
 some ⟨1,16,.str,[.str []],[.str],[.str]⟩,
 none,
 none,
 some ⟨1,8,.int .u64,[.int .u64 0],[.int .u64],[.int .u64]⟩,
 none,
 none,
 some ⟨1,8,.ptr 205,[.nilp],[.ptr],[]⟩,
 some ⟨1,8,.ptr 208,[.nilp],[.ptr],[]⟩,
 some ⟨1,8,.ptr 216,[.nilp],[.ptr],[]⟩,
 some ⟨1,8,.struct [(0,17)],[.nilp],[.ptr],[]⟩,
 some ⟨1,8,.struct [(0,17)],[.nilp],[.ptr],[]⟩,
 none,
 some ⟨1,4,.int .i32,[.int .i32 0],[.int .i32],[.int .i32]⟩,
 some ⟨1,4,.int .u32,[.int .u32 0],[.int .u32],[.int .u32]⟩,
 some ⟨1,2,.int .u16,[.int .u16 0],[.int .u16],[.int .u16]⟩,
 some ⟨19,28,.struct [(0,5),(1,5),(2,5),(3,5),(4,4),(5,4),(6,4),(7,5),(8,5),(9,5),(10,5),(11,5),(12,5),(13,22),(14,5),(15,5),(16,5),(17,23),(18,23)],[.u8 0,.u8 0,.u8 0,.u8 0,.bool false,.bool false,.bool false,.u8 0,.u8 0,.u8 0,.u8 0,.u8 0,.u8 0,.int .u32 0,.u8 0,.u8 0,.u8 0,.int .u16 0,.int .u16 0],[.u8,.u8,.u8,.u8,.bool,.bool,.bool,.u8,.u8,.u8,.u8,.u8,.u8,.int .u32,.u8,.u8,.u8,.int .u16,.int .u16],[.u8,.u8,.u8,.u8,.bool,.bool,.bool,.u8,.u8,.u8,.u8,.u8,.u8,.int .u32,.u8,.u8,.u8,.int .u16,.int .u16]⟩,
 some ⟨19,28,.struct [(0,5),(1,5),(2,5),(3,5),(4,4),(5,4),(6,4),(7,5),(8,5),(9,5),(10,5),(11,5),(12,5),(13,22),(14,5),(15,5),(16,5),(17,23),(18,23)],[.u8 0,.u8 0,.u8 0,.u8 0,.bool false,.bool false,.bool false,.u8 0,.u8 0,.u8 0,.u8 0,.u8 0,.u8 0,.int .u32 0,.u8 0,.u8 0,.u8 0,.int .u16 0,.int .u16 0],[.u8,.u8,.u8,.u8,.bool,.bool,.bool,.u8,.u8,.u8,.u8,.u8,.u8,.int .u32,.u8,.u8,.u8,.int .u16,.int .u16],[.u8,.u8,.u8,.u8,.bool,.bool,.bool,.u8,.u8,.u8,.u8,.u8,.u8,.int .u32,.u8,.u8,.u8,.int .u16,.int .u16]⟩,
 some ⟨1,24,.slice 25 false,[.nils],[.sl 19],[]⟩,
 some ⟨1,24,.slice 5 true,[.nils],[.bsl],[]⟩,
 none,
 some ⟨3,48,.struct [(0,9),(1,9),(2,9)],[.str [],.str [],.str []],[.str,.str,.str],[.str,.str,.str]⟩,
 some ⟨3,48,.struct [(0,9),(1,9),(2,9)],[.str [],.str [],.str []],[.str,.str,.str],[.str,.str,.str]⟩,
 some ⟨1,24,.slice 84 false,[.nils],[.sl 5],[]⟩,
 some ⟨1,24,.slice 66 false,[.nils],[.sl 5],[]⟩,
 some ⟨3,40,.struct [(0,3),(1,3),(2,32)],[.int .i64 0,.int .i64 0,.nils],[.int .i64,.int .i64,.sl 5],[]⟩,
 some ⟨3,40,.struct [(0,3),(1,3),(2,32)],[.int .i64 0,.int .i64 0,.nils],[.int .i64,.int .i64,.sl 5],[]⟩,
 some ⟨8,120,.struct [(0,30),(3,31),(4,34),(7,3)],[.str [],.str [],.str [],.nils,.int .i64 0,.int .i64 0,.nils,.int .i64 0],[.str,.str,.str,.sl 5,.int .i64,.int .i64,.sl 5,.int .i64],[]⟩,
 some ⟨8,120,.struct [(0,30),(3,31),(4,34),(7,3)],[.str [],.str [],.str [],.nils,.int .i64 0,.int .i64 0,.nils,.int .i64 0],[.str,.str,.str,.sl 5,.int .i64,.int .i64,.sl 5,.int .i64],[]⟩,
 none,
 none,
 some ⟨1,8,.int .u64,[.int .u64 0],[.int .u64],[.int .u64]⟩,
 some ⟨1,8,.int .u64,[.int .u64 0],[.int .u64],[.int .u64]⟩,
 none,
 none,
 some ⟨12,152,.struct [(0,30),(3,40),(4,3),(5,3),(6,3),(7,3),(8,3),(9,3),(10,27),(11,27)],[.str [],.str [],.str [],.int .u64 0,.int .i64 0,.int .i64 0,.int .i64 0,.int .i64 0,.int .i64 0,.int .i64 0,.nils,.nils],[.str,.str,.str,.int .u64,.int .i64,.int .i64,.int .i64,.int .i64,.int .i64,.int .i64,.bsl,.bsl],[]⟩,
 some ⟨12,152,.struct [(0,30),(3,40),(4,3),(5,3),(6,3),(7,3),(8,3),(9,3),(10,27),(11,27)],[.str [],.str [],.str [],.int .u64 0,.int .i64 0,.int .i64 0,.int .i64 0,.int .i64 0,.int .i64 0,.int .i64 0,.nils,.nils],[.str,.str,.str,.int .u64,.int .i64,.int .i64,.int .i64,.int .i64,.int .i64,.int .i64,.bsl,.bsl],[]⟩,
 some ⟨1,8,.int .i64,[.int .i64 0],[.int .i64],[.int .i64]⟩,
 none,
 none,
 none,
 none,
 none,
 some ⟨6,80,.struct [(0,4),(1,4),(2,3),(3,9),(4,27),(5,27)],[.bool false,.bool false,.int .i64 0,.str [],.nils,.nils],[.bool,.bool,.int .i64,.str,.bsl,.bsl],[]⟩,
 some ⟨6,80,.struct [(0,4),(1,4),(2,3),(3,9),(4,27),(5,27)],[.bool false,.bool false,.int .i64 0,.str [],.nils,.nils],[.bool,.bool,.int .i64,.str,.bsl,.bsl],[]⟩,
 none,
 none,
 some ⟨1,24,.slice 52 false,[.nils],[.sl 6],[]⟩,
 some ⟨1,24,.slice 36 false,[.nils],[.sl 8],[]⟩,
 none,
 none,
 none,
 none,
 none,
 none,
 none,
 none,
 some ⟨5,64,.struct [(0,30),(3,3),(4,3)],[.str [],.str [],.str [],.int .i64 0,.int .i64 0],[.str,.str,.str,.int .i64,.int .i64],[.str,.str,.str,.int .i64,.int .i64]⟩,
 some ⟨5,64,.struct [(0,30),(3,3),(4,3)],[.str [],.str [],.str [],.int .i64 0,.int .i64 0],[.str,.str,.str,.int .i64,.int .i64],[.str,.str,.str,.int .i64,.int .i64]⟩,
 none,
 none,
 none,
 none,
 some ⟨3,24,.struct [(0,3),(1,3),(2,3)],[.int .i64 0,.int .i64 0,.int .i64 0],[.int .i64,.int .i64,.int .i64],[.int .i64,.int .i64,.int .i64]⟩,
 some ⟨3,24,.struct [(0,3),(1,3),(2,3)],[.int .i64 0,.int .i64 0,.int .i64 0],[.int .i64,.int .i64,.int .i64],[.int .i64,.int .i64,.int .i64]⟩,
 none,
 none,
 none,
 none,
 some ⟨1,24,.slice 31 false,[.nils],[.sl 1],[]⟩,
 none,
 some ⟨1,24,.slice 30 false,[.nils],[.sl 3],[]⟩,
 some ⟨1,24,.slice 3 false,[.nils],[.sl 1],[]⟩,
 none,
 none,
 some ⟨5,64,.struct [(0,30),(3,3),(4,40)],[.str [],.str [],.str [],.int .i64 0,.int .u64 0],[.str,.str,.str,.int .i64,.int .u64],[.str,.str,.str,.int .i64,.int .u64]⟩,
 some ⟨5,64,.struct [(0,30),(3,3),(4,40)],[.str [],.str [],.str [],.int .i64 0,.int .u64 0],[.str,.str,.str,.int .i64,.int .u64],[.str,.str,.str,.int .i64,.int .u64]⟩,
 none,
 none,
 some ⟨1,8,.int .u64,[.int .u64 0],[.int .u64],[.int .u64]⟩,
 none,
 none,
 none,
 none,
 none,
 none,
 some ⟨10,120,.struct [(0,4),(1,30),(4,3),(5,40),(6,3),(7,3),(8,9),(9,9)],[.bool false,.str [],.str [],.str [],.int .i64 0,.int .u64 0,.int .i64 0,.int .i64 0,.str [],.str []],[.bool,.str,.str,.str,.int .i64,.int .u64,.int .i64,.int .i64,.str,.str],[.bool,.str,.str,.str,.int .i64,.int .u64,.int .i64,.int .i64,.str,.str]⟩,
 some ⟨10,120,.struct [(0,4),(1,30),(4,3),(5,40),(6,3),(7,3),(8,9),(9,9)],[.bool false,.str [],.str [],.str [],.int .i64 0,.int .u64 0,.int .i64 0,.int .i64 0,.str [],.str []],[.bool,.str,.str,.str,.int .i64,.int .u64,.int .i64,.int .i64,.str,.str],[.bool,.str,.str,.str,.int .i64,.int .u64,.int .i64,.int .i64,.str,.str]⟩,
 some ⟨6,72,.struct [(0,30),(3,3),(4,3),(5,3)],[.str [],.str [],.str [],.int .i64 0,.int .i64 0,.int .i64 0],[.str,.str,.str,.int .i64,.int .i64,.int .i64],[.str,.str,.str,.int .i64,.int .i64,.int .i64]⟩,
 some ⟨6,72,.struct [(0,30),(3,3),(4,3),(5,3)],[.str [],.str [],.str [],.int .i64 0,.int .i64 0,.int .i64 0],[.str,.str,.str,.int .i64,.int .i64,.int .i64],[.str,.str,.str,.int .i64,.int .i64,.int .i64]⟩,
 none,
 none,
 none,
 none,
 none,
 none,
 none,
 none,
 none,
 none,
 none,
 none,
 none,
 none,
 none,
 none,
 none,
 none,
 none,
 some ⟨1,24,.slice 9 false,[.nils],[.sl 1],[]⟩,
 none,
 none,
 none,
 none,
 none,
 none,
 none,
 some ⟨1,8,.ptr 127,[.nilp],[.ptr],[]⟩,
 some ⟨4,40,.struct [(0,27),(1,3),(2,4),(3,4)],[.nils,.int .i64 0,.bool false,.bool false],[.bsl,.int .i64,.bool,.bool],[]⟩,
 some ⟨4,40,.struct [(0,27),(1,3),(2,4),(3,4)],[.nils,.int .i64 0,.bool false,.bool false],[.bsl,.int .i64,.bool,.bool],[]⟩,
 none,
 none,
 some ⟨3,40,.struct [(0,3),(1,40),(2,27)],[.int .i64 0,.int .u64 0,.nils],[.int .i64,.int .u64,.bsl],[]⟩,
 some ⟨3,40,.struct [(0,3),(1,40),(2,27)],[.int .i64 0,.int .u64 0,.nils],[.int .i64,.int .u64,.bsl],[]⟩,
 none,
 none,
 some ⟨1,8,.ptr 136,[.nilp],[.ptr],[]⟩,
 some ⟨2,32,.struct [(0,27),(1,3)],[.nils,.int .i64 0],[.bsl,.int .i64],[]⟩,
 some ⟨2,32,.struct [(0,27),(1,3)],[.nils,.int .i64 0],[.bsl,.int .i64],[]⟩,
 none,
 none,
 none,
 none,
 none,
 none,
 none,
 none,
 none,
 none,
 none,
 some ⟨1,24,.slice 45 false,[.nils],[.sl 1],[]⟩,
 none,
 none,
 none,
 none,
 none,
 none,
 none,
 none,
 none,
 none,
 none,
 none,
 none,
 none,
 none,
 none,
 none,
 none,
 none,
 none,
 some ⟨4,56,.struct [(0,30),(3,3)],[.str [],.str [],.str [],.int .i64 0],[.str,.str,.str,.int .i64],[.str,.str,.str,.int .i64]⟩,
 some ⟨4,56,.struct [(0,30),(3,3)],[.str [],.str [],.str [],.int .i64 0],[.str,.str,.str,.int .i64],[.str,.str,.str,.int .i64]⟩,
 none,
 none,
 none,
 none,
 none,
 none,
 none,
 none,
 none,
 none,
 none,
 none,
 none,
 none,
 none,
 none,
 none,
 none,
 none,
 none,
 none,
 some ⟨1,24,.slice 27 false,[.nils],[.sl 1],[]⟩,
 none,
 none,
 none,
 none,
 none,
 none,
 none,
 some ⟨4,4,.arr 4 5 true,[.u8 0,.u8 0,.u8 0,.u8 0],[.u8,.u8,.u8,.u8],[]⟩,
 none,
 some ⟨1,8,.ptr 9,[.nilp],[.ptr],[]⟩,
 some ⟨1,24,.slice 202 false,[.nils],[.sl 1],[]⟩,
 some ⟨4,40,.struct [(0,17),(1,17),(2,17),(3,9)],[.nilp,.nilp,.nilp,.str []],[.ptr,.ptr,.ptr,.str],[]⟩,
 none,
 some ⟨0,0,.arr 0 16 false,[],[],[]⟩,
 none,
 none,
 some ⟨1,1,.u8,[.u8 0],[.u8],[.u8]⟩,
 some ⟨1,1,.u8,[.u8 0],[.u8],[.u8]⟩,
 none,
 some ⟨1,8,.ptr 5,[.nilp],[.ptr],[]⟩,
 some ⟨1,4,.int .i32,[.int .i32 0],[.int .i32],[.int .i32]⟩,
 some ⟨1,4,.int .i32,[.int .i32 0],[.int .i32],[.int .i32]⟩,
 none,
 none,
 none]
def keepT:List (Nat×Nat×List Keep):=[(3,7,[.val 3 26,.val 4 27,.val 5 3,.val 6 3,.val 14 4,.cells 15 [.str,.str,.str,.sl 5,.int .i64,.int .i64,.sl 5,.int .i64],.ptr 15 15 0,.val 16 3]),
 (4,6,[.val 2 3,.val 3 3,.val 6 4,.val 7 5,.cells 8 [.str,.str,.str,.sl 5,.int .i64,.int .i64,.sl 5,.int .i64],.ptr 8 8 0,.cells 9 [.bool,.bool,.int .i64,.str,.bsl,.bsl],.ptr 9 9 0,.cells 12 [.u8,.u8,.u8,.u8,.bool,.bool,.bool,.u8,.u8,.u8,.u8,.u8,.u8,.int .u32,.u8,.u8,.u8,.int .u16,.int .u16],.ptr 12 12 0,.cells 13 [.str,.str,.str,.int .u64,.int .i64,.int .i64,.int .i64,.int .i64,.int .i64,.int .i64,.bsl,.bsl],.ptr 13 13 0,.val 16 4,.val 17 3]),
 (4,10,[.val 2 3,.val 3 3,.val 6 4,.val 7 5,.cells 8 [.str,.str,.str,.sl 5,.int .i64,.int .i64,.sl 5,.int .i64],.ptr 8 8 0,.cells 9 [.bool,.bool,.int .i64,.str,.bsl,.bsl],.ptr 9 9 0,.cells 12 [.u8,.u8,.u8,.u8,.bool,.bool,.bool,.u8,.u8,.u8,.u8,.u8,.u8,.int .u32,.u8,.u8,.u8,.int .u16,.int .u16],.ptr 12 12 0,.cells 13 [.str,.str,.str,.int .u64,.int .i64,.int .i64,.int .i64,.int .i64,.int .i64,.int .i64,.bsl,.bsl],.ptr 13 13 0,.val 16 4,.val 17 3,.cells 18 [.bool,.bool,.int .i64,.str,.bsl,.bsl],.ptr 18 18 0,.val 19 3]),
 (4,18,[.val 6 4,.val 7 5,.cells 13 [.str,.str,.str,.int .u64,.int .i64,.int .i64,.int .i64,.int .i64,.int .i64,.int .i64,.bsl,.bsl],.ptr 13 13 0,.val 16 4,.val 27 3]),
 (5,7,[.val 3 26,.val 8 4,.cells 9 [.str,.str,.str,.sl 5,.int .i64,.int .i64,.sl 5,.int .i64],.ptr 9 9 0,.val 10 3]),
 (6,8,[.val 1 5,.val 3 26,.val 8 4,.cells 9 [.str,.str,.str,.sl 5,.int .i64,.int .i64,.sl 5,.int .i64],.ptr 9 9 0,.rowL 10 66 5 false,.val 11 3]),
 (6,15,[.val 1 5,.val 3 26,.val 8 4,.cells 9 [.str,.str,.str,.sl 5,.int .i64,.int .i64,.sl 5,.int .i64],.ptr 9 9 0,.rowL 10 66 5 false,.val 11 3,.cells 13 [.str,.str,.str,.sl 5,.int .i64,.int .i64,.sl 5,.int .i64],.ptr 13 13 0,.cells 16 [.str,.str,.str,.int .i64,.int .i64],.ptr 16 16 0,.val 17 3]),
 (8,6,[.val 1 27,.val 2 3,.val 3 3,.val 6 5,.val 7 5,.cells 8 [.str,.str,.str],.ptr 8 8 0,.cells 12 [.str,.str,.str,.sl 5,.int .i64,.int .i64,.sl 5,.int .i64],.ptr 12 12 0,.cells 13 [.u8,.u8,.u8,.u8,.bool,.bool,.bool,.u8,.u8,.u8,.u8,.u8,.u8,.int .u32,.u8,.u8,.u8,.int .u16,.int .u16],.ptr 13 13 0,.val 16 4,.val 17 3]),
 (8,10,[.val 1 27,.val 2 3,.val 3 3,.val 6 5,.val 7 5,.cells 8 [.str,.str,.str],.ptr 8 8 0,.cells 12 [.str,.str,.str,.sl 5,.int .i64,.int .i64,.sl 5,.int .i64],.ptr 12 12 0,.cells 13 [.u8,.u8,.u8,.u8,.bool,.bool,.bool,.u8,.u8,.u8,.u8,.u8,.u8,.int .u32,.u8,.u8,.u8,.int .u16,.int .u16],.ptr 13 13 0,.val 16 4,.val 17 3,.val 18 31,.val 19 3]),
 (13,1000038,[.val 0 3]),
 (13,1000042,[.val 0 3]),
 (19,3000003,[.val 2 40,.val 3 3,.cells 4 [.u8,.u8,.u8,.u8,.bool,.bool,.bool,.u8,.u8,.u8,.u8,.u8,.u8,.int .u32,.u8,.u8,.u8,.int .u16,.int .u16],.ptr 4 4 0,.cells 5 [.str,.str,.str],.ptr 5 5 0,.cells 8 [.bool,.bool,.int .i64,.str,.bsl,.bsl],.ptr 8 8 0,.cells 9 [.bool,.str,.str,.str,.int .i64,.int .u64,.int .i64,.int .i64,.str,.str],.ptr 9 9 0]),
 (19,3000006,[.val 2 40,.val 3 3,.cells 4 [.u8,.u8,.u8,.u8,.bool,.bool,.bool,.u8,.u8,.u8,.u8,.u8,.u8,.int .u32,.u8,.u8,.u8,.int .u16,.int .u16],.ptr 4 4 0,.cells 5 [.str,.str,.str],.ptr 5 5 0,.cells 8 [.bool,.bool,.int .i64,.str,.bsl,.bsl],.ptr 8 8 0,.cells 9 [.bool,.str,.str,.str,.int .i64,.int .u64,.int .i64,.int .i64,.str,.str],.ptr 9 9 0,.cells 10 [.str,.str,.str,.int .i64,.int .i64,.int .i64],.ptr 10 10 0]),
 (19,3000011,[.cells 4 [.u8,.u8,.u8,.u8,.bool,.bool,.bool,.u8,.u8,.u8,.u8,.u8,.u8,.int .u32,.u8,.u8,.u8,.int .u16,.int .u16],.ptr 4 4 0,.cells 8 [.bool,.bool,.int .i64,.str,.bsl,.bsl],.ptr 8 8 0,.val 13 27,.cells 15 [.bool,.bool,.int .i64,.str,.bsl,.bsl],.ptr 15 15 0]),
 (19,3000013,[.cells 4 [.u8,.u8,.u8,.u8,.bool,.bool,.bool,.u8,.u8,.u8,.u8,.u8,.u8,.int .u32,.u8,.u8,.u8,.int .u16,.int .u16],.ptr 4 4 0,.cells 8 [.bool,.bool,.int .i64,.str,.bsl,.bsl],.ptr 8 8 0,.cells 15 [.bool,.bool,.int .i64,.str,.bsl,.bsl],.ptr 15 15 0]),
 (19,3000015,[.cells 4 [.u8,.u8,.u8,.u8,.bool,.bool,.bool,.u8,.u8,.u8,.u8,.u8,.u8,.int .u32,.u8,.u8,.u8,.int .u16,.int .u16],.ptr 4 4 0,.cells 8 [.bool,.bool,.int .i64,.str,.bsl,.bsl],.ptr 8 8 0,.cells 15 [.bool,.bool,.int .i64,.str,.bsl,.bsl],.ptr 15 15 0]),
 (19,3000017,[.cells 4 [.u8,.u8,.u8,.u8,.bool,.bool,.bool,.u8,.u8,.u8,.u8,.u8,.u8,.int .u32,.u8,.u8,.u8,.int .u16,.int .u16],.ptr 4 4 0,.cells 8 [.bool,.bool,.int .i64,.str,.bsl,.bsl],.ptr 8 8 0,.cells 15 [.bool,.bool,.int .i64,.str,.bsl,.bsl],.ptr 15 15 0]),
 (19,3000019,[.cells 8 [.bool,.bool,.int .i64,.str,.bsl,.bsl],.ptr 8 8 0,.cells 15 [.bool,.bool,.int .i64,.str,.bsl,.bsl],.ptr 15 15 0]),
 (30,3,[.cells 7 [.bsl,.int .i64],.ptr 3 7 0,.rowL 4 84 5 false]),
 (31,4,[.val 3 31,.rowL 4 84 5 false,.val 5 3]),
 (31,8,[.val 3 31,.rowL 4 84 5 false,.val 5 3,.val 6 4,.val 7 3]),
 (41,4,[.val 0 31,.val 1 31,.val 4 4,.val 5 3]),
 (42,4,[.cells 2 [.int .i64,.int .i64,.sl 5],.ptr 2 2 0,.cells 3 [.int .i64,.int .i64,.sl 5],.ptr 3 3 0,.val 4 4,.val 5 3]),
 (47,13,[.cells 4 [.int .i64,.int .i64,.sl 5],.ptr 4 4 0,.cells 5 [.str,.str,.str,.int .i64,.int .i64],.ptr 5 5 0,.cells 8 [.int .i64,.int .i64,.sl 5],.ptr 8 8 0,.cellsR 10 [.imm (.int .i64),.imm (.int .i64),.own 21002 66 5 false],.ptr 10 10 0,.val 60 32,.val 61 3,.val 62 3]),
 (49,2,[.val 0 31,.val 2 3,.cells 4 [.str,.str,.str],.ptr 4 4 0,.val 6 40,.val 7 4,.val 8 3]),
 (54,13,[.cells 4 [.int .i64,.int .i64,.sl 5],.ptr 4 4 0,.cells 5 [.str,.str,.str,.int .i64,.int .i64],.ptr 5 5 0,.cells 8 [.int .i64,.int .i64,.sl 5],.ptr 8 8 0,.cellsR 10 [.imm (.int .i64),.imm (.int .i64),.own 21002 66 5 false],.ptr 10 10 0,.val 11 3]),
 (59,1000023,[.val 0 3]),
 (63,4,[.val 0 31,.val 2 45,.val 8 31,.val 9 3,.val 10 3]),
 (64,6,[.cells 1 [.int .i64,.int .i64,.sl 5],.ptr 1 1 0,.val 2 45,.val 22 32,.val 23 3,.val 24 3]),
 (66,5,[.val 1 80,.val 4 4,.val 5 45,.val 6 3,.val 7 4,.val 9 3]),
 (78,4,[.val 0 31,.val 2 45,.val 3 3]),
 (80,6,[.cells 1 [.int .i64,.int .i64,.sl 5],.ptr 1 1 0,.val 2 45,.val 3 3]),
 (108,2,[.cells 2 [.int .i64,.int .i64,.sl 5],.ptr 2 2 0,.cells 3 [.str,.str,.str,.int .i64,.int .i64],.ptr 3 3 0,.val 4 4,.val 5 3]),
 (115,3,[.val 0 40,.rowB 3 5 false,.val 7 3,.val 8 3]),
 (118,3,[.val 0 192,.val 3 3,.val 9 192,.val 10 3,.val 11 3]),
 (118,11,[.rowB 6 5 false,.val 25 192,.val 26 3,.val 27 3]),
 (121,2,[.rowB 3 5 false]),
 (123,3,[.val 0 40,.rowB 3 5 false,.val 4 3]),
 (129,2,[.val 0 31,.cells 3 [.str,.str,.str,.int .i64],.ptr 3 3 0,.val 4 3,.val 7 31,.val 8 3,.val 9 3]),
 (131,2,[.cells 3 [.str,.str,.str,.int .i64,.int .i64],.ptr 3 3 0,.val 4 4,.val 7 32,.val 8 3,.val 9 3]),
 (135,5,[.val 0 27,.val 4 40,.val 5 3]),
 (140,2,[.val 0 9,.val 1 9,.val 4 4,.val 5 3]),
 (140,7,[.val 0 9,.val 1 9,.val 4 4,.val 5 3,.val 6 3]),
 (141,3,[.val 1 3,.val 2 3,.val 3 4,.rowB 9 5 false,.val 10 3]),
 (143,2,[.val 0 3,.val 4 4,.val 7 80,.val 8 3,.val 9 3]),
 (148,2,[.val 0 148,.val 1 45,.val 4 3,.val 7 3,.val 8 3]),
 (160,3,[.val 0 27,.val 1 3,.val 2 3,.val 3 4,.barr 9 false,.ptr 9 9 0,.val 12 3,.val 13 3]),
 (165,2,[.val 0 9,.val 1 9,.val 4 4,.val 7 3,.val 8 3]),
 (166,6,[.val 2 3,.val 3 4,.val 11 27,.val 12 3,.val 14 3,.val 15 3]),
 (167,6,[.val 0 27,.val 1 3,.val 2 3,.val 3 4,.val 12 3,.val 22 3,.val 23 3]),
 (170,4,[.val 0 27,.val 1 3,.val 4 9,.val 5 3,.val 6 45,.val 7 3]),
 (175,4,[.val 0 27,.val 1 3,.cells 4 [.str,.str,.str],.ptr 4 4 0,.val 5 3,.val 6 45,.cells 7 [.str,.str,.str],.ptr 7 7 0,.psl 14 7 [0,1,2],.val 15 3,.val 16 3]),
 (177,5,[.val 4 40,.val 10 27,.val 11 3,.val 12 3])]
def ownT:List Nat:=[76,91,121,141,163,83,118,119,124,120,160,110,111,117]
def rtsT:List (Nat×List Nat):=[(12,[40]),(13,[27]),(17,[4]),(18,[4]),(22,[40]),(41,[4]),(42,[4]),(48,[27]),(49,[40,4]),(65,[4]),(76,[31]),(82,[4]),(84,[27]),(85,[27]),(89,[4]),(91,[32]),(98,[30]),(102,[4]),(106,[4]),(108,[4]),(109,[4]),(113,[4]),(115,[27]),(121,[27]),(123,[27]),(125,[117]),(130,[170]),(131,[4]),(133,[]),(134,[27,3,45]),(140,[4]),(141,[27]),(143,[4]),(156,[4]),(157,[4]),(162,[4]),(163,[27]),(164,[40]),(168,[45]),(170,[9,3,45]),(172,[4]),(173,[4]),(180,[4]),(181,[4]),(183,[3]),(189,[4]),(190,[4]),(191,[3]),(16,[4]),(39,[36]),(52,[4]),(61,[9]),(68,[27]),(81,[4]),(83,[27]),(100,[4]),(103,[4]),(107,[3]),(116,[27]),(118,[27]),(119,[27]),(122,[4]),(124,[27]),(129,[3]),(138,[4]),(139,[4]),(142,[3,4,45]),(146,[27,3,45]),(149,[9]),(151,[27]),(158,[3]),(161,[3,3,4]),(166,[3,3,45]),(167,[3,3,45]),(169,[3]),(187,[3]),(25,[30]),(36,[27,45]),(53,[45]),(59,[27,45]),(60,[27,45]),(73,[30]),(77,[4]),(86,[4,45]),(96,[40,4]),(101,[45]),(112,[27]),(114,[4]),(120,[27]),(135,[40,4]),(136,[3,3,45]),(137,[3,3,45]),(144,[3,3,45]),(145,[9,3,45]),(147,[27]),(159,[30]),(160,[27]),(171,[3]),(176,[3,3,45]),(182,[3]),(188,[3]),(32,[30]),(46,[45]),(56,[27,45]),(58,[27,45]),(69,[131,3,45]),(70,[3]),(71,[3]),(78,[45]),(80,[45]),(87,[52,3]),(110,[27]),(111,[27]),(117,[27]),(150,[45]),(152,[45]),(165,[4]),(177,[40,4]),(185,[27]),(10,[36]),(24,[27,45]),(28,[27,4]),(35,[45]),(54,[34,45]),(55,[27,45]),(57,[27,45]),(94,[27,45]),(95,[27,45]),(126,[4]),(127,[4]),(174,[131,3,45]),(23,[27,45]),(43,[27,45]),(44,[27,45]),(104,[95,45]),(105,[97,45]),(128,[4]),(153,[27,4]),(19,[52]),(50,[95,45]),(51,[97,45]),(62,[4]),(88,[27,45]),(11,[27]),(21,[36,44,45]),(37,[52,45]),(63,[45]),(64,[45]),(175,[30,3,45]),(184,[45]),(186,[45]),(26,[45]),(47,[34,45]),(178,[27,45]),(179,[27,45]),(154,[95,45]),(155,[97,45]),(97,[95,45]),(99,[97,45]),(45,[95,97,45]),(20,[36,44,45]),(14,[36,44,27,45]),(9,[4]),(4,[4])]
def sp12:Abs.Spec:=fun xs bl=>match xs,bl with
 | [.int .i64 n],[]=>chk (decide (0≤n)&&decide (n≤1000)) (some (.int .u64 (Kerb.long n),[]))
 | _,_=>none
def sp13:Abs.Spec:=fun xs bl=>match xs,bl with
 | [.bs b,.int .u16 how],[]=>chk (decide (b.length≤1000000)&&decide (0≤how)&&decide (how≤65535)) (some (.bs (Kerb.spoil b how),[]))
 | _,_=>none
def sp17:Abs.Spec:=fun xs bl=>match xs,bl with
 | [.agg [.str x,.str y,.str z,.int .u64 k,.int .i64 ad,.int .i64 ck,.int .i64 tm,.int .i64 tc,.int .i64 iss,.int .i64 lf,.bs tk,.bs au],.agg [.str cx,.str cy,.str cz,.int .u64 ck2,.int .i64 cad,.int .i64 ccs,.int .i64 ctm,.int .i64 ctc,.int .i64 cis,.int .i64 clf,.bs ctk,.bs cau]],[]=>some (.bool (Kerb.Accepted.same ⟨⟨x,y,z⟩,k,ad,ck,tm,tc,iss,lf,tk,au⟩ (Kerb.Accepted.mk ⟨cx,cy,cz⟩ ck2 cad ccs ctm ctc cis clf ctk cau)),[])
 | _,_=>none
def sp18:Abs.Spec:=fun xs bl=>match xs,bl with
 | [.agg [.str m1,.str m2,.str m3,.sl 5 kls,.int .i64 sz,.int .i64 fl,.sl 5 mls,.int .i64 sk]],[]=>some (.bool (decide (20<kls.length)||decide (20<mls.length)),[])
 | _,_=>none
def sp22:Abs.Spec:=fun xs bl=>match xs,bl with
 | [.int .i64 n],[]=>chk (decide (0≤n)&&decide (n≤1000)) (some (.int .u64 (Kerb.session n),[]))
 | _,_=>none
def sp41:Abs.Spec:=fun xs bl=>match xs,bl with
 | [.sl 5 kls,.sl 5 jls],[]=>chk (kls.all Zn&&decide (kls.length≤1000000)&&jls.all Zn) (some (.bool (Kerb.sameSKeys (kls.map Zw) (jls.map Zw)),[]))
 | _,_=>none
def sp42:Abs.Spec:=fun xs bl=>match xs,bl with
 | [.agg [.int .i64 sz,.int .i64 fl,.sl 5 mls],.agg [.int .i64 sy,.int .i64 fm,.sl 5 nls]],[]=>chk (mls.all Zf&&decide (mls.length≤1000000)&&nls.all Zf) (some (.bool (Kerb.RCache.same (Zm sz fl (mls.map Zx)) ⟨sy,fm,nls.map Zx⟩),[]))
 | _,_=>none
def sp48:Abs.Spec:=fun xs bl=>match xs,bl with
 | [.bs b],[]=>chk (decide (b.length≤140737488355328)) (some (.bs b,[]))
 | _,_=>none
def sp49:Abs.Spec:=fun xs bl=>match xs,bl with
 | [.sl 5 kls,.agg [.str x,.str y,.str z],.int .i64 v],[]=>chk (kls.all Zn&&decide (kls.length≤1000000)) (some (.tup [.int .u64 (Kerb.skFind (kls.map Zw) ⟨x,y,z⟩ v).1,.bool (Kerb.skFind (kls.map Zw) ⟨x,y,z⟩ v).2],[]))
 | _,_=>none
def sp65:Abs.Spec:=fun xs bl=>match xs,bl with
 | [.int .i64 n],[]=>some (.bool (Yw n 4294967295),[])
 | _,_=>none
def sp76:Abs.Spec:=fun xs bl=>match xs,bl with
 | [.sl 5 kls],[]=>chk (decide (kls.length≤1000000)) (some (.ownL kls,[]))
 | _,_=>none
def sp82:Abs.Spec:=fun xs bl=>match xs,bl with
 | [.int .i64 n,.int .i64 m],[]=>some (.bool (Yw n m),[])
 | _,_=>none
def sp84:Abs.Spec:=fun xs bl=>match xs,bl with
 | [.int .i64 k,.bool little],[]=>some (.bs (Kerb.header k little),[])
 | _,_=>none
def sp85:Abs.Spec:=fun xs bl=>match xs,bl with
 | [.bs b,.str s],[]=>chk (decide (b.length+s.length≤70368744177664)) (some (.bs (Kerb.putText b s),[]))
 | _,_=>none
def sp89:Abs.Spec:=fun xs bl=>match xs,bl with
 | [.bs a,.bs b],[]=>some (.bool (a==b),[])
 | _,_=>none
def sp91:Abs.Spec:=fun xs bl=>match xs,bl with
 | [.sl 5 mls],[]=>chk (decide (mls.length≤1000000)) (some (.ownL mls,[]))
 | _,_=>none
def sp98:Abs.Spec:=fun xs bl=>match xs,bl with
 | [.agg [.bool ali,.str b1,.str b2,.str b3,.int .i64 aad,.int .u64 ak,.int .i64 alf,.int .i64 ais,.str asv,.str ain],.str rl],[]=>some (.agg [.str asv,.str ain,.str rl],[])
 | _,_=>none
def sp102:Abs.Spec:=fun xs bl=>match xs,bl with
 | [.int .i64 n,.int .i64 l,.int .i64 m],[]=>some (.bool (decide (l≤n)&&decide (n≤m)),[])
 | _,_=>none
def sp106:Abs.Spec:=fun xs bl=>match xs,bl with
 | [.int .i64 n],[]=>some (.bool (Yw n 4294967295),[])
 | _,_=>none
def sp108:Abs.Spec:=fun xs bl=>match xs,bl with
 | [.agg [.int .i64 sz,.int .i64 fl,.sl 5 mls],.agg [.str a1,.str a2,.str a3,.int .i64 at_,.int .i64 atk]],[]=>chk (mls.all Zf&&decide (mls.length≤1000000)) (some (.bool (Kerb.hasMark (mls.map Zx) (Zh ⟨a1,a2,a3⟩ at_ atk)),[]))
 | _,_=>none
def sp109:Abs.Spec:=fun xs bl=>match xs,bl with
 | [.int .i64 n,.int .i64 m],[]=>some (.bool (Yw n m),[])
 | _,_=>none
def sp113:Abs.Spec:=fun xs bl=>match xs,bl with
 | [.int .i64 k],[]=>some (.bool (Kerb.isKind k),[])
 | _,_=>none
def sp115:Abs.Spec:=fun xs bl=>match xs,bl with
 | [.int .u64 k],[]=>chk (decide (0≤k)&&decide (k<18446744073709551616)) (some (.bs (Kerb.keyBytes k),[]))
 | _,_=>none
def sp121:Abs.Spec:=fun xs bl=>match xs,bl with
 | [.bs b],[]=>chk (decide (b.length≤70368744177664)) (some (.ownB (Kerb.pad b),[]))
 | _,_=>none
def sp123:Abs.Spec:=fun xs bl=>match xs,bl with
 | [.int .u64 k],[]=>chk (decide (0≤k)&&decide (k<18446744073709551616)) (some (.bs (Kerb.keyBytes k),[]))
 | _,_=>none
def sp125:Abs.Spec:=fun xs bl=>match xs,bl with
 | [],[]=>some (.sl 1 [.str [65,84,72],.str [66,79,83],.str [67,65,77]],[])
 | _,_=>none
def sp130:Abs.Spec:=fun xs bl=>match xs,bl with
 | [.agg [.str x,.str y,.str z,.int .i64 v,.int .u64 k]],[]=>some (.agg [.str x,.str y,.str z,.int .i64 v],[])
 | _,_=>none
def sp131:Abs.Spec:=fun xs bl=>match xs,bl with
 | [.sl 5 mls,.agg [.str a1,.str a2,.str a3,.int .i64 at_,.int .i64 atk]],[]=>chk (mls.all Zf&&decide (mls.length≤1000000)) (some (.bool (Kerb.hasMark (mls.map Zx) (Zh ⟨a1,a2,a3⟩ at_ atk)),[]))
 | _,_=>none
def sp133:Abs.Spec:=fun xs bl=>match xs,bl with
 | [.ptr 0 0,.int .i64 nx,.int .i64 e],[(0,[.bs B,.int .i64 at_,.bool li,.bool bad])]=>some (.tup [],[[.bs B,.int .i64 (cond (bad || !(e==0)) at_ nx),.bool li,.bool (bad || !(e==0))]])
 | _,_=>none
def sp134:Abs.Spec:=fun xs bl=>match xs,bl with
 | [.bs b,.int .i64 pos,.int .i64 n],[]=>chk (decide (b.length≤140737488355328)) (some (.tup [.bs (Yv b pos n).val,.int .i64 (Yv b pos n).next,.int .i64 (Yv b pos n).err],[]))
 | _,_=>none
def sp140:Abs.Spec:=fun xs bl=>match xs,bl with
 | [.str s,.str bad],[]=>chk (decide (s.length≤9223372036854775807)&&decide (bad.length≤100)) (some (.bool (Kerb.printable s bad&&decide (s.length≤39)),[]))
 | _,_=>none
def sp141:Abs.Spec:=fun xs bl=>match xs,bl with
 | [.bs b,.int .i64 n,.int .i64 k,.bool little],[]=>chk (decide (k=1∨k=2∨k=4)&&decide (b.length≤70368744177664)) (some (.ownB (b++Yk n k.toNat little),[]))
 | _,_=>none
def sp143:Abs.Spec:=fun xs bl=>match xs,bl with
 | [.int .i64 k,.sl 1 els],[]=>chk (allInts els&&decide (els.length≤1000)) (some (.bool ((intsIn els).contains k),[]))
 | _,_=>none
def sp156:Abs.Spec:=fun xs bl=>match xs,bl with
 | [.int .i64 n],[]=>some (.bool (Yw n 4294967295),[])
 | _,_=>none
def sp157:Abs.Spec:=fun xs bl=>match xs,bl with
 | [.int .i64 n],[]=>some (.bool (Yw n 255),[])
 | _,_=>none
def sp162:Abs.Spec:=fun xs bl=>match xs,bl with
 | [.int .i64 k],[]=>some (.bool (Kerb.isKind k),[])
 | _,_=>none
def sp163:Abs.Spec:=fun xs bl=>match xs,bl with
 | [.nils,.int .i64 n],[]=>chk (decide (0≤n)&&decide (n≤140737488355328)) (some (.ownB [],[]))
 | _,_=>none
def sp164:Abs.Spec:=fun xs bl=>match xs,bl with
 | [.int .i64 c,.int .i64 n],[]=>some (.int .u64 (cond (Kerb.isClass c&&Kerb.isSerial n) (c*72057594037927936+n) 0),[])
 | _,_=>none
def sp168:Abs.Spec:=fun xs bl=>match xs,bl with
 | [.bs b,.int .i64 pos,.int .i64 n],[]=>chk (decide (b.length≤4611686018427387904)) (some (.int .i64 (Kerb.room b pos n),[]))
 | _,_=>none
def sp170:Abs.Spec:=fun xs bl=>match xs,bl with
 | [.bs b,.int .i64 pos],[]=>chk (decide (b.length≤140737488355328)) (some (.tup [.str (Yj b pos).val,.int .i64 (Yj b pos).next,.int .i64 (Yj b pos).err],[]))
 | _,_=>none
def sp172:Abs.Spec:=fun xs bl=>match xs,bl with
 | [.int .i64 n,.int .i64 m],[]=>some (.bool (Yw n m),[])
 | _,_=>none
def sp173:Abs.Spec:=fun xs bl=>match xs,bl with
 | [.int .i64 n,.int .i64 m],[]=>some (.bool (Yw n m),[])
 | _,_=>none
def sp180:Abs.Spec:=fun xs bl=>match xs,bl with
 | [.int .i64 k],[]=>some (.bool (Kerb.isClass k),[])
 | _,_=>none
def sp181:Abs.Spec:=fun xs bl=>match xs,bl with
 | [.int .i64 k],[]=>some (.bool (Kerb.isSerial k),[])
 | _,_=>none
def sp183:Abs.Spec:=fun xs bl=>match xs,bl with
 | [.bs s,.u8 c],[]=>some (.int .i64 (Kerb.indexOf c s),[])
 | _,_=>none
def sp189:Abs.Spec:=fun xs bl=>match xs,bl with
 | [.int .i64 n,.int .i64 m],[]=>some (.bool (Yw n m),[])
 | _,_=>none
def sp190:Abs.Spec:=fun xs bl=>match xs,bl with
 | [.int .i64 n,.int .i64 m],[]=>some (.bool (Yw n m),[])
 | _,_=>none
def sp191:Abs.Spec:=fun xs bl=>match xs,bl with
 | [.str s,.u8 c],[]=>some (.int .i64 (Kerb.indexOf c s),[])
 | _,_=>none
def sp16:Abs.Spec:=fun xs bl=>match xs,bl with
 | [.agg [.str m1,.str m2,.str m3,.sl 5 kls,.int .i64 sz,.int .i64 fl,.sl 5 mls,.int .i64 sk],.agg [.str n1,.str n2,.str n3,.sl 5 jls,.int .i64 sy,.int .i64 fm,.sl 5 nls,.int .i64 sl]],[]=>chk (kls.all Zn&&decide (kls.length≤1000000)&&mls.all Zf&&decide (mls.length≤1000000)&&jls.all Zn&&nls.all Zf) (some (.bool (Kerb.Server.same (Zz ⟨m1,m2,m3⟩ (kls.map Zw) ⟨sz,fl,mls.map Zx⟩ sk) ⟨⟨n1,n2,n3⟩,jls.map Zw,⟨sy,fm,nls.map Zx⟩,sl⟩),[]))
 | _,_=>none
def sp39:Abs.Spec:=fun xs bl=>match xs,bl with
 | [.agg [.str m1,.str m2,.str m3,.sl 5 kls,.int .i64 sz,.int .i64 fl,.sl 5 mls,.int .i64 sk]],[]=>chk (decide (kls.length≤1000000)&&decide (mls.length≤1000000)) (some (.agg [.str m1,.str m2,.str m3,.sl 5 kls,.int .i64 sz,.int .i64 fl,.sl 5 mls,.int .i64 sk],[]))
 | _,_=>none
def sp52:Abs.Spec:=fun xs bl=>match xs,bl with
 | [.int .i64 a,.int .i64 b,.int .i64 s],[]=>some (.bool (Kerb.near a b s),[])
 | _,_=>none
def sp61:Abs.Spec:=fun xs bl=>match xs,bl with
 | [.int .i64 n],[]=>chk (decide (0≤n)) (some (.str (Kerb.realm n),[]))
 | _,_=>none
def sp68:Abs.Spec:=fun xs bl=>match xs,bl with
 | [.ptr 0 0,.int .i64 n],[(0,[.bs B,.int .i64 at_,.bool li,.bool bad])]=>chk (decide (B.length≤140737488355328)) (some (.bs (Yv B at_ n).val,[[.bs B,.int .i64 (cond (bad || !((Yv B at_ n).err==0)) at_ (Yv B at_ n).next),.bool li,.bool (bad || !((Yv B at_ n).err==0))]]))
 | _,_=>none
def sp81:Abs.Spec:=fun xs bl=>match xs,bl with
 | [.str s],[]=>chk (decide (s.length≤9223372036854775807)) (some (.bool (Kerb.validRealm s),[]))
 | _,_=>none
def sp83:Abs.Spec:=fun xs bl=>match xs,bl with
 | [.bs b,.int .i64 n],[]=>chk (decide (b.length≤70368744177664)) (some (.ownB (b++Yk n 1 false),[]))
 | _,_=>none
def sp100:Abs.Spec:=fun xs bl=>match xs,bl with
 | [.int .i64 a,.int .i64 b,.int .i64 s],[]=>some (.bool (Kerb.near a b s),[])
 | _,_=>none
def sp103:Abs.Spec:=fun xs bl=>match xs,bl with
 | [.agg [.int .i64 sz,.int .i64 fl,.sl 5 mls],.agg [.str a1,.str a2,.str a3,.int .i64 at_,.int .i64 atk]],[]=>chk (mls.all Zf&&decide (mls.length≤1000000)) (some (.bool (Kerb.hasMark (mls.map Zx) (Zh ⟨a1,a2,a3⟩ at_ atk)),[]))
 | _,_=>none
def sp107:Abs.Spec:=fun xs bl=>match xs,bl with
 | [.int .i64 i,.int .i64 l],[]=>some (.int .i64 (Kerb.tEnd i l),[])
 | _,_=>none
def sp116:Abs.Spec:=fun xs bl=>match xs,bl with
 | [.int .i64 k,.bool little],[]=>some (.bs (Kerb.header k little),[])
 | _,_=>none
def sp118:Abs.Spec:=fun xs bl=>match xs,bl with
 | [.sl 1 els],[]=>chk (allB els&&decide ((catB els).length≤140737488355328)&&decide (els.length≤1000)) (some (.ownB (catB els),[]))
 | _,_=>none
def sp119:Abs.Spec:=fun xs bl=>match xs,bl with
 | [.bs b,.int .i64 n,.bool little],[]=>chk (decide (b.length≤70368744177664)) (some (.ownB (b++Yk n 4 little),[]))
 | _,_=>none
def sp122:Abs.Spec:=fun xs bl=>match xs,bl with
 | [.int .u64 k],[]=>chk (decide (0≤k)&&decide (k<18446744073709551616)) (some (.bool (Yn k),[]))
 | _,_=>none
def sp124:Abs.Spec:=fun xs bl=>match xs,bl with
 | [.bs b,.int .i64 n,.bool little],[]=>chk (decide (b.length≤70368744177664)) (some (.ownB (b++Yk n 2 little),[]))
 | _,_=>none
def sp129:Abs.Spec:=fun xs bl=>match xs,bl with
 | [.sl 5 kls,.agg [.str x,.str y,.str z,.int .i64 v]],[]=>chk (kls.all Zn&&decide (kls.length≤1000000)) (some (.int .i64 ((Kerb.skAt (kls.map Zw) ⟨x,y,z⟩ v:Nat):Int),[]))
 | _,_=>none
def sp138:Abs.Spec:=fun xs bl=>match xs,bl with
 | [.str s],[]=>chk (decide (s.length≤9223372036854775807)) (some (.bool (Kerb.validName s),[]))
 | _,_=>none
def sp139:Abs.Spec:=fun xs bl=>match xs,bl with
 | [.str s],[]=>chk (decide (s.length≤9223372036854775807)) (some (.bool (Kerb.validInst s),[]))
 | _,_=>none
def sp142:Abs.Spec:=fun xs bl=>match xs,bl with
 | [.bs b],[]=>some (.tup [.int .i64 (Kerb.readHead b).kind,.bool (Kerb.readHead b).little,.int .i64 (Kerb.readHead b).err],[])
 | _,_=>none
def sp146:Abs.Spec:=fun xs bl=>match xs,bl with
 | [.bs b,.int .i64 pos,.int .i64 n],[]=>chk (decide (b.length≤140737488355328)) (some (.tup [.bs (Yv b pos n).val,.int .i64 (Yv b pos n).next,.int .i64 (Yv b pos n).err],[]))
 | _,_=>none
def sp149:Abs.Spec:=fun xs bl=>match xs,bl with
 | [.ptr 0 0],[(0,[.bs B,.int .i64 at_,.bool li,.bool bad])]=>chk (decide (B.length≤140737488355328)) (some (.str (Yj B at_).val,[[.bs B,.int .i64 (cond (bad || !((Yj B at_).err==0)) at_ (Yj B at_).next),.bool li,.bool (bad || !((Yj B at_).err==0))]]))
 | _,_=>none
def sp151:Abs.Spec:=fun xs bl=>match xs,bl with
 | [.bs b,.agg [.str x,.str y,.str z]],[]=>chk (decide (b.length+x.length+y.length+z.length≤70368744170000)) (some (.bs (Kerb.putPrin b ⟨x,y,z⟩),[]))
 | _,_=>none
def sp158:Abs.Spec:=fun xs bl=>match xs,bl with
 | [.int .i64 i,.int .i64 l],[]=>some (.int .i64 (Kerb.tEnd i l),[])
 | _,_=>none
def sp161:Abs.Spec:=fun xs bl=>match xs,bl with
 | [.int .u64 k],[]=>chk (decide (0≤k)&&decide (k<18446744073709551616)) (some (.tup [.int .i64 (cond (Yn k) (Kerb.keyClass k) 0),.int .i64 (cond (Yn k) (Kerb.keySerial k) 0),.bool (Yn k)],[]))
 | _,_=>none
def sp166:Abs.Spec:=fun xs bl=>match xs,bl with
 | [.bs b,.int .i64 pos,.int .i64 k,.bool little],[]=>chk (decide (b.length≤140737488355328)&&decide (0≤k)&&decide (k≤4)) (some (.tup [.int .i64 (Zg b pos k little).val,.int .i64 (Zg b pos k little).next,.int .i64 (Zg b pos k little).err],[]))
 | _,_=>none
def sp167:Abs.Spec:=fun xs bl=>match xs,bl with
 | [.bs b,.int .i64 pos,.int .i64 k,.bool little],[]=>chk (decide (b.length≤4611686018427387904)&&decide (0≤k)&&decide (k≤4)) (some (.tup [.int .i64 (Zg b pos k little).val,.int .i64 (Zg b pos k little).next,.int .i64 (Zg b pos k little).err],[]))
 | _,_=>none
def sp169:Abs.Spec:=fun xs bl=>match xs,bl with
 | [.bs s,.u8 c],[]=>some (.int .i64 (Kerb.indexOf c s),[])
 | _,_=>none
def sp187:Abs.Spec:=fun xs bl=>match xs,bl with
 | [.str s,.u8 c],[]=>some (.int .i64 (Kerb.indexOf c s),[])
 | _,_=>none
def sp25:Abs.Spec:=fun xs bl=>match xs,bl with
 | [.int .i64 n],[]=>chk (decide (0≤n)&&decide (n≤4611686018427387904)) (some (.agg [.str (Kerb.user n).name,.str (Kerb.user n).inst,.str (Kerb.user n).realm],[]))
 | _,_=>none
def sp36:Abs.Spec:=fun xs bl=>match xs,bl with
 | [.agg [.bool li,.bool mu,.int .i64 kv,.str rl,.bs tk,.bs au]],[]=>chk (decide (rl.length≤9223372036854775807)) (some (.tup [.bs (Kerb.encodeAp (Zy li mu kv rl tk au)).val,.int .i64 (Kerb.encodeAp (Zy li mu kv rl tk au)).err],[]))
 | _,_=>none
def sp53:Abs.Spec:=fun xs bl=>match xs,bl with
 | [.int .i64 i,.int .i64 l,.int .i64 n,.int .i64 s],[]=>some (.int .i64 (Kerb.stateErr i l n s),[])
 | _,_=>none
def sp59:Abs.Spec:=fun xs bl=>match xs,bl with
 | [.int .i64 kd,.int .u64 k,.bs bd],[]=>chk (decide (0≤k)&&decide (k<18446744073709551616)) (some (.tup [.bs (Kerb.makeBox kd k bd).val,.int .i64 (Kerb.makeBox kd k bd).err],[]))
 | _,_=>none
def sp60:Abs.Spec:=fun xs bl=>match xs,bl with
 | [.bs s,.bool li],[]=>some (.tup [.bs (Kerb.encodeAns s li).val,.int .i64 (Kerb.encodeAns s li).err],[])
 | _,_=>none
def sp73:Abs.Spec:=fun xs bl=>match xs,bl with
 | [.int .i64 n],[]=>chk (decide (0≤n)&&decide (n≤4611686018427387904)) (some (.agg [.str (Kerb.service n).name,.str (Kerb.service n).inst,.str (Kerb.service n).realm],[]))
 | _,_=>none
def sp77:Abs.Spec:=fun xs bl=>match xs,bl with
 | [.agg [.str a,.str b,.str c]],[]=>chk (decide (a.length≤9223372036854775807)&&decide (b.length≤9223372036854775807)&&decide (c.length≤9223372036854775807)) (some (.bool (Kerb.Prin.valid ⟨a,b,c⟩),[]))
 | _,_=>none
def sp86:Abs.Spec:=fun xs bl=>match xs,bl with
 | [.bs b,.sl 1 els],[]=>chk (allInts els&&decide (els.length≤1000)) (some (.tup [.bool (Kerb.headIs b (intsIn els)).1,.int .i64 (Kerb.headIs b (intsIn els)).2],[]))
 | _,_=>none
def sp96:Abs.Spec:=fun xs bl=>match xs,bl with
 | [.sl 5 kls,.agg [.str x,.str y,.str z],.int .i64 v],[]=>chk (kls.all Zn&&decide (kls.length≤1000000)) (some (.tup [.int .u64 (Kerb.skFind (kls.map Zw) ⟨x,y,z⟩ v).1,.bool (Kerb.skFind (kls.map Zw) ⟨x,y,z⟩ v).2],[]))
 | _,_=>none
def sp101:Abs.Spec:=fun xs bl=>match xs,bl with
 | [.int .i64 i,.int .i64 l,.int .i64 n,.int .i64 s],[]=>some (.int .i64 (Kerb.stateErr i l n s),[])
 | _,_=>none
def sp112:Abs.Spec:=fun xs bl=>match xs,bl with
 | [.bs b],[]=>chk (decide (b.length≤70368744177664)) (some (.bs (Kerb.pad b),[]))
 | _,_=>none
def sp114:Abs.Spec:=fun xs bl=>match xs,bl with
 | [.int .u64 k],[]=>chk (decide (0≤k)&&decide (k<18446744073709551616)) (some (.bool (Yn k),[]))
 | _,_=>none
def sp120:Abs.Spec:=fun xs bl=>match xs,bl with
 | [.bs b,.bool little],[]=>chk (decide (b.length≤70368744177664)) (some (.ownB (b++Yk (cond little 1 0) 1 false),[]))
 | _,_=>none
def sp135:Abs.Spec:=fun xs bl=>match xs,bl with
 | [.bs b],[]=>chk (decide (b.length≤4611686018427387904)) (some (.tup [.int .u64 (Kerb.keyRead b).1,.bool (Kerb.keyRead b).2],[]))
 | _,_=>none
def sp136:Abs.Spec:=fun xs bl=>match xs,bl with
 | [.bs b,.int .i64 pos],[]=>chk (decide (b.length≤140737488355328)) (some (.tup [.int .i64 (Zg b pos 1 false).val,.int .i64 (Zg b pos 1 false).next,.int .i64 (Zg b pos 1 false).err],[]))
 | _,_=>none
def sp137:Abs.Spec:=fun xs bl=>match xs,bl with
 | [.bs b,.int .i64 pos,.bool little],[]=>chk (decide (b.length≤140737488355328)) (some (.tup [.int .i64 (Zg b pos 4 little).val,.int .i64 (Zg b pos 4 little).next,.int .i64 (Zg b pos 4 little).err],[]))
 | _,_=>none
def sp144:Abs.Spec:=fun xs bl=>match xs,bl with
 | [.bs b,.int .i64 pos],[]=>chk (decide (b.length≤4611686018427387904)) (some (.tup [.int .i64 (Zg b pos 1 false).val,.int .i64 (Zg b pos 1 false).next,.int .i64 (Zg b pos 1 false).err],[]))
 | _,_=>none
def sp145:Abs.Spec:=fun xs bl=>match xs,bl with
 | [.bs b,.int .i64 pos],[]=>chk (decide (b.length≤4611686018427387904)) (some (.tup [.str (Yj b pos).val,.int .i64 (Yj b pos).next,.int .i64 (Yj b pos).err],[]))
 | _,_=>none
def sp147:Abs.Spec:=fun xs bl=>match xs,bl with
 | [.bs b,.str s],[]=>chk (decide (b.length+s.length≤70368744177664)) (some (.bs (Kerb.putText b s),[]))
 | _,_=>none
def sp159:Abs.Spec:=fun xs bl=>match xs,bl with
 | [.ptr 0 0],[(0,[.bs B,.int .i64 at_,.bool li,.bool bad])]=>chk (decide (B.length≤140737488355328)) (some (.agg [.str (Kerb.rdPrin B at_ bad).p.name,.str (Kerb.rdPrin B at_ bad).p.inst,.str (Kerb.rdPrin B at_ bad).p.realm],[[.bs B,.int .i64 (Kerb.rdPrin B at_ bad).pos,.bool li,.bool (Kerb.rdPrin B at_ bad).bad]]))
 | _,_=>none
def sp160:Abs.Spec:=fun xs bl=>match xs,bl with
 | [.bs b,.int .i64 n,.int .i64 k,.bool little],[]=>chk (decide (k=1∨k=2∨k=4)&&decide (b.length≤70368744177664)) (some (.ownB (b++Yk n k.toNat little),[]))
 | _,_=>none
def sp171:Abs.Spec:=fun xs bl=>match xs,bl with
 | [.int .u64 k],[]=>chk (decide (0≤k)&&decide (k<18446744073709551616)) (some (.int .i64 (Kerb.classOf k),[]))
 | _,_=>none
def sp176:Abs.Spec:=fun xs bl=>match xs,bl with
 | [.bs b,.int .i64 pos,.bool little],[]=>chk (decide (b.length≤4611686018427387904)) (some (.tup [.int .i64 (Zg b pos 4 little).val,.int .i64 (Zg b pos 4 little).next,.int .i64 (Zg b pos 4 little).err],[]))
 | _,_=>none
def sp182:Abs.Spec:=fun xs bl=>match xs,bl with
 | [.str s,.u8 c],[]=>some (.int .i64 (Kerb.indexOf c s),[])
 | _,_=>none
def sp188:Abs.Spec:=fun xs bl=>match xs,bl with
 | [.int .u64 k],[]=>chk (decide (0≤k)&&decide (k<18446744073709551616)) (some (.int .i64 (Kerb.classOf k),[]))
 | _,_=>none
def sp32:Abs.Spec:=fun xs bl=>match xs,bl with
 | [.agg [.u8 cu,.u8 co,.u8 cv,.u8 cr,.bool lt,.bool tn,.bool mt,.u8 cad,.u8 cfr,.u8 cis,.u8 ctm,.u8 ctk,.u8 clf,.int .u32 ccs,.u8 cky,.u8 ckv,.u8 css,.int .u16 ctt,.int .u16 cau]],[]=>some (.agg [.str ((Zj cu co cv cr lt tn mt cad cfr cis ctm ctk clf ccs cky ckv css ctt cau).me).name,.str ((Zj cu co cv cr lt tn mt cad cfr cis ctm ctk clf ccs cky ckv css ctt cau).me).inst,.str ((Zj cu co cv cr lt tn mt cad cfr cis ctm ctk clf ccs cky ckv css ctt cau).me).realm],[])
 | _,_=>none
def sp46:Abs.Spec:=fun xs bl=>match xs,bl with
 | [.agg [.bool ali,.str b1,.str b2,.str b3,.int .i64 aad,.int .u64 ak,.int .i64 alf,.int .i64 ais,.str asv,.str ain],.agg [.str x,.str y,.str z,.int .i64 ck,.int .i64 tc,.int .i64 tm],.int .i64 src,.int .i64 now,.int .i64 skw],[]=>some (.int .i64 (Kerb.judge (Yz ali ⟨b1,b2,b3⟩ aad ak alf ais asv ain) (Yx ⟨x,y,z⟩ ck tc tm) src now skw),[])
 | _,_=>none
def sp56:Abs.Spec:=fun xs bl=>match xs,bl with
 | [.int .i64 kd,.int .u64 k,.bs bd],[]=>chk (decide (0≤k)&&decide (k<18446744073709551616)) (some (.tup [.bs (Kerb.makeBox kd k bd).val,.int .i64 (Kerb.makeBox kd k bd).err],[]))
 | _,_=>none
def sp58:Abs.Spec:=fun xs bl=>match xs,bl with
 | [.agg [.int .i64 ck,.int .i64 tc,.int .i64 tm],.bool li],[]=>some (.tup [.bs (Yb ⟨ck,tc,tm⟩ li).val,.int .i64 (Yb ⟨ck,tc,tm⟩ li).err],[])
 | _,_=>none
def sp69:Abs.Spec:=fun xs bl=>match xs,bl with
 | [.bs b],[]=>chk (decide (b.length≤140737488355328)) (some (.tup [.agg [.int .i64 (Yy b).box.kind,.int .u64 (Yy b).box.key,.bs (Yy b).box.body],.int .i64 (Yy b).n,.int .i64 (Yy b).err],[]))
 | _,_=>none
def sp70:Abs.Spec:=fun xs bl=>match xs,bl with
 | [.ptr 0 0],[(0,[.bs B,.int .i64 at_,.bool li,.bool bad])]=>chk (decide (B.length≤140737488355328)) (some (.int .i64 (Zg B at_ 1 false).val,[[.bs B,.int .i64 (cond (bad || !((Zg B at_ 1 false).err==0)) at_ (Zg B at_ 1 false).next),.bool li,.bool (bad || !((Zg B at_ 1 false).err==0))]]))
 | _,_=>none
def sp71:Abs.Spec:=fun xs bl=>match xs,bl with
 | [.ptr 0 0],[(0,[.bs B,.int .i64 at_,.bool li,.bool bad])]=>chk (decide (B.length≤140737488355328)) (some (.int .i64 (Zg B at_ 4 li).val,[[.bs B,.int .i64 (cond (bad || !((Zg B at_ 4 li).err==0)) at_ (Zg B at_ 4 li).next),.bool li,.bool (bad || !((Zg B at_ 4 li).err==0))]]))
 | _,_=>none
def sp78:Abs.Spec:=fun xs bl=>match xs,bl with
 | [.sl 5 kls],[]=>chk (kls.all Zn&&decide (kls.length≤1000000)) (some (.int .i64 (Kerb.skErr (kls.map Zw)),[]))
 | _,_=>none
def sp80:Abs.Spec:=fun xs bl=>match xs,bl with
 | [.agg [.int .i64 sz,.int .i64 fl,.sl 5 mls]],[]=>chk (mls.all Zf&&decide (mls.length≤1000000)) (some (.int .i64 (Zm sz fl (mls.map Zx)).err,[]))
 | _,_=>none
def sp87:Abs.Spec:=fun xs bl=>match xs,bl with
 | [.bs b],[]=>chk (decide (b.length≤140737488355328)) (some (.tup [.agg [.bool ((Yd b).val).little,.bool ((Yd b).val).mutual_,.int .i64 ((Yd b).val).kvno,.str ((Yd b).val).realm,.bs ((Yd b).val).ticket,.bs ((Yd b).val).auth],.int .i64 (Yd b).next],[]))
 | _,_=>none
def sp110:Abs.Spec:=fun xs bl=>match xs,bl with
 | [.bs b,.int .i64 n],[]=>chk (decide (b.length≤70368744177664)) (some (.ownB (b++Yk n 1 false),[]))
 | _,_=>none
def sp111:Abs.Spec:=fun xs bl=>match xs,bl with
 | [.bs b,.int .i64 n,.bool little],[]=>chk (decide (b.length≤70368744177664)) (some (.ownB (b++Yk n 4 little),[]))
 | _,_=>none
def sp117:Abs.Spec:=fun xs bl=>match xs,bl with
 | [.bs b,.int .i64 n,.bool little],[]=>chk (decide (b.length≤70368744177664)) (some (.ownB (b++Yk n 2 little),[]))
 | _,_=>none
def sp150:Abs.Spec:=fun xs bl=>match xs,bl with
 | [.agg [.bool li,.str x,.str y,.str z,.int .i64 ad,.int .u64 k,.int .i64 lf,.int .i64 iss,.str sv,.str ins]],[]=>chk (decide (x.length≤9223372036854775807)&&decide (y.length≤9223372036854775807)&&decide (z.length≤9223372036854775807)&&decide (sv.length≤9223372036854775807)&&decide (ins.length≤9223372036854775807)&&decide (0≤k)&&decide (k<18446744073709551616)) (some (.int .i64 (Yz li ⟨x,y,z⟩ ad k lf iss sv ins).err,[]))
 | _,_=>none
def sp152:Abs.Spec:=fun xs bl=>match xs,bl with
 | [.agg [.str x,.str y,.str z,.int .i64 ck,.int .i64 tc,.int .i64 tm]],[]=>chk (decide (x.length≤9223372036854775807)&&decide (y.length≤9223372036854775807)&&decide (z.length≤9223372036854775807)) (some (.int .i64 (Yx ⟨x,y,z⟩ ck tc tm).check,[]))
 | _,_=>none
def sp165:Abs.Spec:=fun xs bl=>match xs,bl with
 | [.str s,.str bad],[]=>chk (decide (s.length≤9223372036854775807)) (some (.bool (Kerb.printable s bad),[]))
 | _,_=>none
def sp177:Abs.Spec:=fun xs bl=>match xs,bl with
 | [.bs b],[]=>chk (decide (b.length≤4611686018427387904)) (some (.tup [.int .u64 (Kerb.keyRead b).1,.bool (Kerb.keyRead b).2],[]))
 | _,_=>none
def sp185:Abs.Spec:=fun xs bl=>match xs,bl with
 | [.bs b,.agg [.str x,.str y,.str z]],[]=>chk (decide (b.length+x.length+y.length+z.length≤70368744170000)) (some (.bs (Kerb.putPrin b ⟨x,y,z⟩),[]))
 | _,_=>none
def sp10:Abs.Spec:=fun xs bl=>match xs,bl with
 | [.agg [.u8 cu,.u8 co,.u8 cv,.u8 cr,.bool lt,.bool tn,.bool mt,.u8 cad,.u8 cfr,.u8 cis,.u8 ctm,.u8 ctk,.u8 clf,.int .u32 ccs,.u8 cky,.u8 ckv,.u8 css,.int .u16 ctt,.int .u16 cau],.u8 sz,.u8 sk],[]=>some (.agg [.str (((Zj cu co cv cr lt tn mt cad cfr cis ctm ctk clf ccs cky ckv css ctt cau).server sz sk)).me.name,.str (((Zj cu co cv cr lt tn mt cad cfr cis ctm ctk clf ccs cky ckv css ctt cau).server sz sk)).me.inst,.str (((Zj cu co cv cr lt tn mt cad cfr cis ctm ctk clf ccs cky ckv css ctt cau).server sz sk)).me.realm,.sl 5 ((((Zj cu co cv cr lt tn mt cad cfr cis ctm ctk clf ccs cky ckv css ctt cau).server sz sk)).keys.map Kerb.SKey.av),.int .i64 ((((Zj cu co cv cr lt tn mt cad cfr cis ctm ctk clf ccs cky ckv css ctt cau).server sz sk)).replay).size,.int .i64 ((((Zj cu co cv cr lt tn mt cad cfr cis ctm ctk clf ccs cky ckv css ctt cau).server sz sk)).replay).floor,.sl 5 (((((Zj cu co cv cr lt tn mt cad cfr cis ctm ctk clf ccs cky ckv css ctt cau).server sz sk)).replay).marks.map Yp),.int .i64 (((Zj cu co cv cr lt tn mt cad cfr cis ctm ctk clf ccs cky ckv css ctt cau).server sz sk)).skew],[])
 | _,_=>none
def sp24:Abs.Spec:=fun xs bl=>match xs,bl with
 | [.agg [.str x,.str y,.str z,.int .u64 k,.int .i64 ad,.int .i64 ck,.int .i64 tm,.int .i64 tc,.int .i64 iss,.int .i64 lf,.bs tk,.bs au],.bool li],[]=>chk (decide (0≤k)&&decide (k<18446744073709551616)) (some (.tup [.bs (Yf k ck tm tc li).val,.int .i64 (Yf k ck tm tc li).err],[]))
 | _,_=>none
def sp28:Abs.Spec:=fun xs bl=>match xs,bl with
 | [.bs b,.int .i64 kd,.int .u64 k],[]=>chk (decide (b.length≤140737488355328)) (some (.tup [.bs (Kerb.openBox b kd k).1,.bool (Kerb.openBox b kd k).2],[]))
 | _,_=>none
def sp35:Abs.Spec:=fun xs bl=>match xs,bl with
 | [.agg [.str m1,.str m2,.str m3,.sl 5 kls,.int .i64 sz,.int .i64 fl,.sl 5 mls,.int .i64 sk]],[]=>chk (decide (m1.length≤9223372036854775807)&&decide (m2.length≤9223372036854775807)&&decide (m3.length≤9223372036854775807)&&kls.all Zn&&decide (kls.length≤1000000)&&mls.all Zf&&decide (mls.length≤1000000)) (some (.int .i64 (Zz ⟨m1,m2,m3⟩ (kls.map Zw) ⟨sz,fl,mls.map Zx⟩ sk).err,[]))
 | _,_=>none
def sp54:Abs.Spec:=fun xs bl=>match xs,bl with
 | [.agg [.int .i64 sz,.int .i64 fl,.sl 5 mls],.agg [.str a1,.str a2,.str a3,.int .i64 at_,.int .i64 atk],.int .i64 now,.int .i64 skw],[]=>chk (mls.all Zf&&decide (mls.length≤1000000)&&decide (a1.length≤9223372036854775807)&&decide (a2.length≤9223372036854775807)&&decide (a3.length≤9223372036854775807)) (some (.tup [.agg [.int .i64 ((Yu (Zm sz fl (mls.map Zx)) (Zh ⟨a1,a2,a3⟩ at_ atk) now skw).val).size,.int .i64 ((Yu (Zm sz fl (mls.map Zx)) (Zh ⟨a1,a2,a3⟩ at_ atk) now skw).val).floor,.sl 5 (((Yu (Zm sz fl (mls.map Zx)) (Zh ⟨a1,a2,a3⟩ at_ atk) now skw).val).marks.map Yp)],.int .i64 (Yu (Zm sz fl (mls.map Zx)) (Zh ⟨a1,a2,a3⟩ at_ atk) now skw).err],[]))
 | _,_=>none
def sp55:Abs.Spec:=fun xs bl=>match xs,bl with
 | [.agg [.int .i64 ck,.int .i64 tc,.int .i64 tm],.bool li],[]=>some (.tup [.bs (Yb ⟨ck,tc,tm⟩ li).val,.int .i64 (Yb ⟨ck,tc,tm⟩ li).err],[])
 | _,_=>none
def sp57:Abs.Spec:=fun xs bl=>match xs,bl with
 | [.bs s,.bool li],[]=>some (.tup [.bs (Kerb.encodeAns s li).val,.int .i64 (Kerb.encodeAns s li).err],[])
 | _,_=>none
def sp94:Abs.Spec:=fun xs bl=>match xs,bl with
 | [.agg [.bool li,.str x,.str y,.str z,.int .i64 ad,.int .u64 k,.int .i64 lf,.int .i64 iss,.str sv,.str ins]],[]=>chk (decide (x.length≤9223372036854775807)&&decide (y.length≤9223372036854775807)&&decide (z.length≤9223372036854775807)&&decide (sv.length≤9223372036854775807)&&decide (ins.length≤9223372036854775807)&&decide (0≤k)&&decide (k<18446744073709551616)) (some (.tup [.bs (Yg (Yz li ⟨x,y,z⟩ ad k lf iss sv ins)).val,.int .i64 (Yg (Yz li ⟨x,y,z⟩ ad k lf iss sv ins)).err],[]))
 | _,_=>none
def sp95:Abs.Spec:=fun xs bl=>match xs,bl with
 | [.agg [.str x,.str y,.str z,.int .i64 ck,.int .i64 tc,.int .i64 tm],.bool li],[]=>chk (decide (x.length≤9223372036854775807)&&decide (y.length≤9223372036854775807)&&decide (z.length≤9223372036854775807)) (some (.tup [.bs (Kerb.encodeAuth (Yx ⟨x,y,z⟩ ck tc tm) li).val,.int .i64 (Kerb.encodeAuth (Yx ⟨x,y,z⟩ ck tc tm) li).err],[]))
 | _,_=>none
def sp126:Abs.Spec:=fun xs bl=>match xs,bl with
 | [.str s],[]=>chk (decide (s.length≤9223372036854775807)) (some (.bool (Kerb.validName s),[]))
 | _,_=>none
def sp127:Abs.Spec:=fun xs bl=>match xs,bl with
 | [.str s],[]=>chk (decide (s.length≤9223372036854775807)) (some (.bool (Kerb.validInst s),[]))
 | _,_=>none
def sp174:Abs.Spec:=fun xs bl=>match xs,bl with
 | [.bs b],[]=>chk (decide (b.length≤140737488355328)) (some (.tup [.agg [.int .i64 (Yy b).box.kind,.int .u64 (Yy b).box.key,.bs (Yy b).box.body],.int .i64 (Yy b).n,.int .i64 (Yy b).err],[]))
 | _,_=>none
def sp23:Abs.Spec:=fun xs bl=>match xs,bl with
 | [.agg [.str x,.str y,.str z,.int .u64 k,.int .i64 ad,.int .i64 ck,.int .i64 tm,.int .i64 tc,.int .i64 iss,.int .i64 lf,.bs tk,.bs au],.bool li],[]=>chk (decide (0≤k)&&decide (k<18446744073709551616)) (some (.tup [.bs (Yf k ck tm tc li).val,.int .i64 (Yf k ck tm tc li).err],[]))
 | _,_=>none
def sp43:Abs.Spec:=fun xs bl=>match xs,bl with
 | [.agg [.bool li,.str x,.str y,.str z,.int .i64 ad,.int .u64 k,.int .i64 lf,.int .i64 iss,.str sv,.str ins],.int .u64 key],[]=>chk (decide (x.length≤9223372036854775807)&&decide (y.length≤9223372036854775807)&&decide (z.length≤9223372036854775807)&&decide (sv.length≤9223372036854775807)&&decide (ins.length≤9223372036854775807)&&decide (0≤k)&&decide (k<18446744073709551616)&&decide (0≤key)&&decide (key<18446744073709551616)) (some (.tup [.bs (Kerb.sealTicket (Yz li ⟨x,y,z⟩ ad k lf iss sv ins) key).val,.int .i64 (Kerb.sealTicket (Yz li ⟨x,y,z⟩ ad k lf iss sv ins) key).err],[]))
 | _,_=>none
def sp44:Abs.Spec:=fun xs bl=>match xs,bl with
 | [.agg [.str x,.str y,.str z,.int .i64 ck,.int .i64 tc,.int .i64 tm],.bool li,.int .u64 k],[]=>chk (decide (x.length≤9223372036854775807)&&decide (y.length≤9223372036854775807)&&decide (z.length≤9223372036854775807)&&decide (0≤k)&&decide (k<18446744073709551616)) (some (.tup [.bs (Kerb.sealAuth (Yx ⟨x,y,z⟩ ck tc tm) li k).val,.int .i64 (Kerb.sealAuth (Yx ⟨x,y,z⟩ ck tc tm) li k).err],[]))
 | _,_=>none
def sp104:Abs.Spec:=fun xs bl=>match xs,bl with
 | [.bs b],[]=>chk (decide (b.length≤140737488355328)) (some (.tup [.agg [.bool ((Zu b).val).little,.str ((Zu b).val).client.name,.str ((Zu b).val).client.inst,.str ((Zu b).val).client.realm,.int .i64 ((Zu b).val).address,.int .u64 ((Zu b).val).session,.int .i64 ((Zu b).val).life,.int .i64 ((Zu b).val).issued,.str ((Zu b).val).service,.str ((Zu b).val).inst],.int .i64 (Zu b).err],[]))
 | _,_=>none
def sp105:Abs.Spec:=fun xs bl=>match xs,bl with
 | [.bs b,.bool li],[]=>chk (decide (b.length≤140737488355328)) (some (.tup [.agg [.str ((Zk b li).val).client.name,.str ((Zk b li).val).client.inst,.str ((Zk b li).val).client.realm,.int .i64 ((Zk b li).val).checksum,.int .i64 ((Zk b li).val).tick,.int .i64 ((Zk b li).val).time],.int .i64 (Zk b li).err],[]))
 | _,_=>none
def sp128:Abs.Spec:=fun xs bl=>match xs,bl with
 | [.str s],[]=>chk (decide (s.length≤9223372036854775807)) (some (.bool (Kerb.validRealm s),[]))
 | _,_=>none
def sp153:Abs.Spec:=fun xs bl=>match xs,bl with
 | [.bs b,.int .i64 kd,.int .u64 k],[]=>chk (decide (b.length≤140737488355328)) (some (.tup [.bs (Kerb.openBox b kd k).1,.bool (Kerb.openBox b kd k).2],[]))
 | _,_=>none
def sp19:Abs.Spec:=fun xs bl=>match xs,bl with
 | [.agg [.u8 cu,.u8 co,.u8 cv,.u8 cr,.bool lt,.bool tn,.bool mt,.u8 cad,.u8 cfr,.u8 cis,.u8 ctm,.u8 ctk,.u8 clf,.int .u32 ccs,.u8 cky,.u8 ckv,.u8 css,.int .u16 ctt,.int .u16 cau],.agg [.str x,.str y,.str z],.int .u64 k,.int .i64 v],[]=>chk (decide (x.length≤9223372036854775807)&&decide (y.length≤9223372036854775807)&&decide (z.length≤9223372036854775807)&&Kerb.isU64 k&&decide (0≤v)&&decide (v≤1000)&&decide (0≤ccs)&&decide (ccs≤4294967295)&&decide (0≤ctt)&&decide (ctt≤65535)&&decide (0≤cau)&&decide (cau≤65535)) (some (.agg [.bool (((Zj cu co cv cr lt tn mt cad cfr cis ctm ctk clf ccs cky ckv css ctt cau).req ⟨x,y,z⟩ k v)).little,.bool (((Zj cu co cv cr lt tn mt cad cfr cis ctm ctk clf ccs cky ckv css ctt cau).req ⟨x,y,z⟩ k v)).mutual_,.int .i64 (((Zj cu co cv cr lt tn mt cad cfr cis ctm ctk clf ccs cky ckv css ctt cau).req ⟨x,y,z⟩ k v)).kvno,.str (((Zj cu co cv cr lt tn mt cad cfr cis ctm ctk clf ccs cky ckv css ctt cau).req ⟨x,y,z⟩ k v)).realm,.bs (((Zj cu co cv cr lt tn mt cad cfr cis ctm ctk clf ccs cky ckv css ctt cau).req ⟨x,y,z⟩ k v)).ticket,.bs (((Zj cu co cv cr lt tn mt cad cfr cis ctm ctk clf ccs cky ckv css ctt cau).req ⟨x,y,z⟩ k v)).auth],[]))
 | _,_=>none
def sp50:Abs.Spec:=fun xs bl=>match xs,bl with
 | [.bs b,.int .u64 k],[]=>chk (decide (b.length≤140737488355328)) (some (.tup [.agg [.bool ((Zq b k).val).little,.str ((Zq b k).val).client.name,.str ((Zq b k).val).client.inst,.str ((Zq b k).val).client.realm,.int .i64 ((Zq b k).val).address,.int .u64 ((Zq b k).val).session,.int .i64 ((Zq b k).val).life,.int .i64 ((Zq b k).val).issued,.str ((Zq b k).val).service,.str ((Zq b k).val).inst],.int .i64 (Zq b k).err],[]))
 | _,_=>none
def sp51:Abs.Spec:=fun xs bl=>match xs,bl with
 | [.bs b,.bool li,.int .u64 k],[]=>chk (decide (b.length≤140737488355328)) (some (.tup [.agg [.str ((Zb b li k).val).client.name,.str ((Zb b li k).val).client.inst,.str ((Zb b li k).val).client.realm,.int .i64 ((Zb b li k).val).checksum,.int .i64 ((Zb b li k).val).tick,.int .i64 ((Zb b li k).val).time],.int .i64 (Zb b li k).err],[]))
 | _,_=>none
def sp62:Abs.Spec:=fun xs bl=>match xs,bl with
 | [.agg [.str a,.str b,.str c]],[]=>chk (decide (a.length≤9223372036854775807)&&decide (b.length≤9223372036854775807)&&decide (c.length≤9223372036854775807)) (some (.bool (Kerb.Prin.valid ⟨a,b,c⟩),[]))
 | _,_=>none
def sp88:Abs.Spec:=fun xs bl=>match xs,bl with
 | [.agg [.bool li,.bool mu,.int .i64 kv,.str rl,.bs tk,.bs au]],[]=>chk (decide (rl.length≤9223372036854775807)) (some (.tup [.bs (Kerb.encodeAp (Zy li mu kv rl tk au)).val,.int .i64 (Kerb.encodeAp (Zy li mu kv rl tk au)).err],[]))
 | _,_=>none
def sp11:Abs.Spec:=fun xs bl=>match xs,bl with
 | [.agg [.u8 cu,.u8 co,.u8 cv,.u8 cr,.bool lt,.bool tn,.bool mt,.u8 cad,.u8 cfr,.u8 cis,.u8 ctm,.u8 ctk,.u8 clf,.int .u32 ccs,.u8 cky,.u8 ckv,.u8 css,.int .u16 ctt,.int .u16 cau],.agg [.str x,.str y,.str z],.int .u64 k,.int .i64 v],[]=>chk (decide (x.length≤9223372036854775807)&&decide (y.length≤9223372036854775807)&&decide (z.length≤9223372036854775807)&&Kerb.isU64 k&&decide (0≤v)&&decide (v≤1000)&&decide (0≤ccs)&&decide (ccs≤4294967295)&&decide (0≤ctt)&&decide (ctt≤65535)&&decide (0≤cau)&&decide (cau≤65535)) (some (.bs ((Zj cu co cv cr lt tn mt cad cfr cis ctm ctk clf ccs cky ckv css ctt cau).msg ⟨x,y,z⟩ k v),[]))
 | _,_=>none
def sp21:Abs.Spec:=fun xs bl=>match xs,bl with
 | [.agg [.str m1,.str m2,.str m3,.sl 5 kls,.int .i64 sz,.int .i64 fl,.sl 5 mls,.int .i64 sk],.agg [.bool rli,.bool rmu,.int .i64 rkv,.str rrl,.bs rtk,.bs rau],.int .i64 src,.int .i64 now],[]=>chk (decide (m1.length≤9223372036854775807)&&decide (m2.length≤9223372036854775807)&&decide (m3.length≤9223372036854775807)&&kls.all Zn&&decide (kls.length≤1000000)&&mls.all Zf&&decide (mls.length≤1000000)&&decide (rtk.length≤1000000)&&decide (rau.length≤1000000)) (some (.tup [.agg [.str ((Zv (Zz ⟨m1,m2,m3⟩ (kls.map Zw) ⟨sz,fl,mls.map Zx⟩ sk) (Zy rli rmu rkv rrl rtk rau) src now).s).me.name,.str ((Zv (Zz ⟨m1,m2,m3⟩ (kls.map Zw) ⟨sz,fl,mls.map Zx⟩ sk) (Zy rli rmu rkv rrl rtk rau) src now).s).me.inst,.str ((Zv (Zz ⟨m1,m2,m3⟩ (kls.map Zw) ⟨sz,fl,mls.map Zx⟩ sk) (Zy rli rmu rkv rrl rtk rau) src now).s).me.realm,.sl 5 (((Zv (Zz ⟨m1,m2,m3⟩ (kls.map Zw) ⟨sz,fl,mls.map Zx⟩ sk) (Zy rli rmu rkv rrl rtk rau) src now).s).keys.map Kerb.SKey.av),.int .i64 (((Zv (Zz ⟨m1,m2,m3⟩ (kls.map Zw) ⟨sz,fl,mls.map Zx⟩ sk) (Zy rli rmu rkv rrl rtk rau) src now).s).replay).size,.int .i64 (((Zv (Zz ⟨m1,m2,m3⟩ (kls.map Zw) ⟨sz,fl,mls.map Zx⟩ sk) (Zy rli rmu rkv rrl rtk rau) src now).s).replay).floor,.sl 5 ((((Zv (Zz ⟨m1,m2,m3⟩ (kls.map Zw) ⟨sz,fl,mls.map Zx⟩ sk) (Zy rli rmu rkv rrl rtk rau) src now).s).replay).marks.map Yp),.int .i64 ((Zv (Zz ⟨m1,m2,m3⟩ (kls.map Zw) ⟨sz,fl,mls.map Zx⟩ sk) (Zy rli rmu rkv rrl rtk rau) src now).s).skew],.agg [.str ((Zv (Zz ⟨m1,m2,m3⟩ (kls.map Zw) ⟨sz,fl,mls.map Zx⟩ sk) (Zy rli rmu rkv rrl rtk rau) src now).a).client.name,.str ((Zv (Zz ⟨m1,m2,m3⟩ (kls.map Zw) ⟨sz,fl,mls.map Zx⟩ sk) (Zy rli rmu rkv rrl rtk rau) src now).a).client.inst,.str ((Zv (Zz ⟨m1,m2,m3⟩ (kls.map Zw) ⟨sz,fl,mls.map Zx⟩ sk) (Zy rli rmu rkv rrl rtk rau) src now).a).client.realm,.int .u64 ((Zv (Zz ⟨m1,m2,m3⟩ (kls.map Zw) ⟨sz,fl,mls.map Zx⟩ sk) (Zy rli rmu rkv rrl rtk rau) src now).a).session,.int .i64 ((Zv (Zz ⟨m1,m2,m3⟩ (kls.map Zw) ⟨sz,fl,mls.map Zx⟩ sk) (Zy rli rmu rkv rrl rtk rau) src now).a).address,.int .i64 ((Zv (Zz ⟨m1,m2,m3⟩ (kls.map Zw) ⟨sz,fl,mls.map Zx⟩ sk) (Zy rli rmu rkv rrl rtk rau) src now).a).checksum,.int .i64 ((Zv (Zz ⟨m1,m2,m3⟩ (kls.map Zw) ⟨sz,fl,mls.map Zx⟩ sk) (Zy rli rmu rkv rrl rtk rau) src now).a).time,.int .i64 ((Zv (Zz ⟨m1,m2,m3⟩ (kls.map Zw) ⟨sz,fl,mls.map Zx⟩ sk) (Zy rli rmu rkv rrl rtk rau) src now).a).tick,.int .i64 ((Zv (Zz ⟨m1,m2,m3⟩ (kls.map Zw) ⟨sz,fl,mls.map Zx⟩ sk) (Zy rli rmu rkv rrl rtk rau) src now).a).issued,.int .i64 ((Zv (Zz ⟨m1,m2,m3⟩ (kls.map Zw) ⟨sz,fl,mls.map Zx⟩ sk) (Zy rli rmu rkv rrl rtk rau) src now).a).life,.bs ((Zv (Zz ⟨m1,m2,m3⟩ (kls.map Zw) ⟨sz,fl,mls.map Zx⟩ sk) (Zy rli rmu rkv rrl rtk rau) src now).a).ticket,.bs ((Zv (Zz ⟨m1,m2,m3⟩ (kls.map Zw) ⟨sz,fl,mls.map Zx⟩ sk) (Zy rli rmu rkv rrl rtk rau) src now).a).auth],.int .i64 (Zv (Zz ⟨m1,m2,m3⟩ (kls.map Zw) ⟨sz,fl,mls.map Zx⟩ sk) (Zy rli rmu rkv rrl rtk rau) src now).err],[]))
 | _,_=>none
def sp37:Abs.Spec:=fun xs bl=>match xs,bl with
 | [.bs b],[]=>chk (decide (b.length≤140737488355328)) (some (.tup [.agg [.bool ((Yq b).val).little,.bool ((Yq b).val).mutual_,.int .i64 ((Yq b).val).kvno,.str ((Yq b).val).realm,.bs ((Yq b).val).ticket,.bs ((Yq b).val).auth],.int .i64 (Yq b).err],[]))
 | _,_=>none
def sp63:Abs.Spec:=fun xs bl=>match xs,bl with
 | [.sl 5 kls],[]=>chk (kls.all Zn&&decide (kls.length≤1000000)) (some (.int .i64 (Kerb.skErr (kls.map Zw)),[]))
 | _,_=>none
def sp64:Abs.Spec:=fun xs bl=>match xs,bl with
 | [.agg [.int .i64 sz,.int .i64 fl,.sl 5 mls]],[]=>chk (mls.all Zf&&decide (mls.length≤1000000)) (some (.int .i64 (Zm sz fl (mls.map Zx)).err,[]))
 | _,_=>none
def sp175:Abs.Spec:=fun xs bl=>match xs,bl with
 | [.bs b,.int .i64 pos],[]=>chk (decide (b.length≤4611686018427387904)) (some (.tup [.agg [.str (Kerb.prin b pos).val.name,.str (Kerb.prin b pos).val.inst,.str (Kerb.prin b pos).val.realm],.int .i64 (Kerb.prin b pos).next,.int .i64 (Kerb.prin b pos).err],[]))
 | _,_=>none
def sp184:Abs.Spec:=fun xs bl=>match xs,bl with
 | [.agg [.bool li,.str x,.str y,.str z,.int .i64 ad,.int .u64 k,.int .i64 lf,.int .i64 iss,.str sv,.str ins]],[]=>chk (decide (x.length≤9223372036854775807)&&decide (y.length≤9223372036854775807)&&decide (z.length≤9223372036854775807)&&decide (sv.length≤9223372036854775807)&&decide (ins.length≤9223372036854775807)&&decide (0≤k)&&decide (k<18446744073709551616)) (some (.int .i64 (Yz li ⟨x,y,z⟩ ad k lf iss sv ins).err,[]))
 | _,_=>none
def sp186:Abs.Spec:=fun xs bl=>match xs,bl with
 | [.agg [.str x,.str y,.str z,.int .i64 ck,.int .i64 tc,.int .i64 tm]],[]=>chk (decide (x.length≤9223372036854775807)&&decide (y.length≤9223372036854775807)&&decide (z.length≤9223372036854775807)) (some (.int .i64 (Yx ⟨x,y,z⟩ ck tc tm).check,[]))
 | _,_=>none
def sp26:Abs.Spec:=fun xs bl=>match xs,bl with
 | [.agg [.str m1,.str m2,.str m3,.sl 5 kls,.int .i64 sz,.int .i64 fl,.sl 5 mls,.int .i64 sk]],[]=>chk (decide (m1.length≤9223372036854775807)&&decide (m2.length≤9223372036854775807)&&decide (m3.length≤9223372036854775807)&&kls.all Zn&&decide (kls.length≤1000000)&&mls.all Zf&&decide (mls.length≤1000000)) (some (.int .i64 (Zz ⟨m1,m2,m3⟩ (kls.map Zw) ⟨sz,fl,mls.map Zx⟩ sk).err,[]))
 | _,_=>none
def sp47:Abs.Spec:=fun xs bl=>match xs,bl with
 | [.agg [.int .i64 sz,.int .i64 fl,.sl 5 mls],.agg [.str a1,.str a2,.str a3,.int .i64 at_,.int .i64 atk],.int .i64 now,.int .i64 skw],[]=>chk (mls.all Zf&&decide (mls.length≤1000000)&&decide (a1.length≤9223372036854775807)&&decide (a2.length≤9223372036854775807)&&decide (a3.length≤9223372036854775807)) (some (.tup [.agg [.int .i64 ((Yu (Zm sz fl (mls.map Zx)) (Zh ⟨a1,a2,a3⟩ at_ atk) now skw).val).size,.int .i64 ((Yu (Zm sz fl (mls.map Zx)) (Zh ⟨a1,a2,a3⟩ at_ atk) now skw).val).floor,.sl 5 (((Yu (Zm sz fl (mls.map Zx)) (Zh ⟨a1,a2,a3⟩ at_ atk) now skw).val).marks.map Yp)],.int .i64 (Yu (Zm sz fl (mls.map Zx)) (Zh ⟨a1,a2,a3⟩ at_ atk) now skw).err],[]))
 | _,_=>none
def sp178:Abs.Spec:=fun xs bl=>match xs,bl with
 | [.agg [.bool li,.str x,.str y,.str z,.int .i64 ad,.int .u64 k,.int .i64 lf,.int .i64 iss,.str sv,.str ins]],[]=>chk (decide (x.length≤9223372036854775807)&&decide (y.length≤9223372036854775807)&&decide (z.length≤9223372036854775807)&&decide (sv.length≤9223372036854775807)&&decide (ins.length≤9223372036854775807)&&decide (0≤k)&&decide (k<18446744073709551616)) (some (.tup [.bs (Yg (Yz li ⟨x,y,z⟩ ad k lf iss sv ins)).val,.int .i64 (Yg (Yz li ⟨x,y,z⟩ ad k lf iss sv ins)).err],[]))
 | _,_=>none
def sp179:Abs.Spec:=fun xs bl=>match xs,bl with
 | [.agg [.str x,.str y,.str z,.int .i64 ck,.int .i64 tc,.int .i64 tm],.bool li],[]=>chk (decide (x.length≤9223372036854775807)&&decide (y.length≤9223372036854775807)&&decide (z.length≤9223372036854775807)) (some (.tup [.bs (Kerb.encodeAuth (Yx ⟨x,y,z⟩ ck tc tm) li).val,.int .i64 (Kerb.encodeAuth (Yx ⟨x,y,z⟩ ck tc tm) li).err],[]))
 | _,_=>none
def sp154:Abs.Spec:=fun xs bl=>match xs,bl with
 | [.bs b],[]=>chk (decide (b.length≤140737488355328)) (some (.tup [.agg [.bool ((Zu b).val).little,.str ((Zu b).val).client.name,.str ((Zu b).val).client.inst,.str ((Zu b).val).client.realm,.int .i64 ((Zu b).val).address,.int .u64 ((Zu b).val).session,.int .i64 ((Zu b).val).life,.int .i64 ((Zu b).val).issued,.str ((Zu b).val).service,.str ((Zu b).val).inst],.int .i64 (Zu b).err],[]))
 | _,_=>none
def sp155:Abs.Spec:=fun xs bl=>match xs,bl with
 | [.bs b,.bool li],[]=>chk (decide (b.length≤140737488355328)) (some (.tup [.agg [.str ((Zk b li).val).client.name,.str ((Zk b li).val).client.inst,.str ((Zk b li).val).client.realm,.int .i64 ((Zk b li).val).checksum,.int .i64 ((Zk b li).val).tick,.int .i64 ((Zk b li).val).time],.int .i64 (Zk b li).err],[]))
 | _,_=>none
def sp97:Abs.Spec:=fun xs bl=>match xs,bl with
 | [.bs b,.int .u64 k],[]=>chk (decide (b.length≤140737488355328)) (some (.tup [.agg [.bool ((Zq b k).val).little,.str ((Zq b k).val).client.name,.str ((Zq b k).val).client.inst,.str ((Zq b k).val).client.realm,.int .i64 ((Zq b k).val).address,.int .u64 ((Zq b k).val).session,.int .i64 ((Zq b k).val).life,.int .i64 ((Zq b k).val).issued,.str ((Zq b k).val).service,.str ((Zq b k).val).inst],.int .i64 (Zq b k).err],[]))
 | _,_=>none
def sp99:Abs.Spec:=fun xs bl=>match xs,bl with
 | [.bs b,.bool li,.int .u64 k],[]=>chk (decide (b.length≤140737488355328)) (some (.tup [.agg [.str ((Zb b li k).val).client.name,.str ((Zb b li k).val).client.inst,.str ((Zb b li k).val).client.realm,.int .i64 ((Zb b li k).val).checksum,.int .i64 ((Zb b li k).val).tick,.int .i64 ((Zb b li k).val).time],.int .i64 (Zb b li k).err],[]))
 | _,_=>none
def sp45:Abs.Spec:=fun xs bl=>match xs,bl with
 | [.agg [.str m1,.str m2,.str m3,.sl 5 kls,.int .i64 sz,.int .i64 fl,.sl 5 mls,.int .i64 sk],.agg [.bool rli,.bool rmu,.int .i64 rkv,.str rrl,.bs rtk,.bs rau]],[]=>chk (decide (m1.length≤9223372036854775807)&&decide (m2.length≤9223372036854775807)&&decide (m3.length≤9223372036854775807)&&kls.all Zn&&decide (kls.length≤1000000)&&mls.all Zf&&decide (mls.length≤1000000)&&decide (rtk.length≤1000000)&&decide (rau.length≤1000000)) (some (.tup [.agg [.bool ((Zd (Zz ⟨m1,m2,m3⟩ (kls.map Zw) ⟨sz,fl,mls.map Zx⟩ sk) (Zy rli rmu rkv rrl rtk rau)).ticket).little,.str ((Zd (Zz ⟨m1,m2,m3⟩ (kls.map Zw) ⟨sz,fl,mls.map Zx⟩ sk) (Zy rli rmu rkv rrl rtk rau)).ticket).client.name,.str ((Zd (Zz ⟨m1,m2,m3⟩ (kls.map Zw) ⟨sz,fl,mls.map Zx⟩ sk) (Zy rli rmu rkv rrl rtk rau)).ticket).client.inst,.str ((Zd (Zz ⟨m1,m2,m3⟩ (kls.map Zw) ⟨sz,fl,mls.map Zx⟩ sk) (Zy rli rmu rkv rrl rtk rau)).ticket).client.realm,.int .i64 ((Zd (Zz ⟨m1,m2,m3⟩ (kls.map Zw) ⟨sz,fl,mls.map Zx⟩ sk) (Zy rli rmu rkv rrl rtk rau)).ticket).address,.int .u64 ((Zd (Zz ⟨m1,m2,m3⟩ (kls.map Zw) ⟨sz,fl,mls.map Zx⟩ sk) (Zy rli rmu rkv rrl rtk rau)).ticket).session,.int .i64 ((Zd (Zz ⟨m1,m2,m3⟩ (kls.map Zw) ⟨sz,fl,mls.map Zx⟩ sk) (Zy rli rmu rkv rrl rtk rau)).ticket).life,.int .i64 ((Zd (Zz ⟨m1,m2,m3⟩ (kls.map Zw) ⟨sz,fl,mls.map Zx⟩ sk) (Zy rli rmu rkv rrl rtk rau)).ticket).issued,.str ((Zd (Zz ⟨m1,m2,m3⟩ (kls.map Zw) ⟨sz,fl,mls.map Zx⟩ sk) (Zy rli rmu rkv rrl rtk rau)).ticket).service,.str ((Zd (Zz ⟨m1,m2,m3⟩ (kls.map Zw) ⟨sz,fl,mls.map Zx⟩ sk) (Zy rli rmu rkv rrl rtk rau)).ticket).inst],.agg [.str ((Zd (Zz ⟨m1,m2,m3⟩ (kls.map Zw) ⟨sz,fl,mls.map Zx⟩ sk) (Zy rli rmu rkv rrl rtk rau)).auth).client.name,.str ((Zd (Zz ⟨m1,m2,m3⟩ (kls.map Zw) ⟨sz,fl,mls.map Zx⟩ sk) (Zy rli rmu rkv rrl rtk rau)).auth).client.inst,.str ((Zd (Zz ⟨m1,m2,m3⟩ (kls.map Zw) ⟨sz,fl,mls.map Zx⟩ sk) (Zy rli rmu rkv rrl rtk rau)).auth).client.realm,.int .i64 ((Zd (Zz ⟨m1,m2,m3⟩ (kls.map Zw) ⟨sz,fl,mls.map Zx⟩ sk) (Zy rli rmu rkv rrl rtk rau)).auth).checksum,.int .i64 ((Zd (Zz ⟨m1,m2,m3⟩ (kls.map Zw) ⟨sz,fl,mls.map Zx⟩ sk) (Zy rli rmu rkv rrl rtk rau)).auth).tick,.int .i64 ((Zd (Zz ⟨m1,m2,m3⟩ (kls.map Zw) ⟨sz,fl,mls.map Zx⟩ sk) (Zy rli rmu rkv rrl rtk rau)).auth).time],.int .i64 (Zd (Zz ⟨m1,m2,m3⟩ (kls.map Zw) ⟨sz,fl,mls.map Zx⟩ sk) (Zy rli rmu rkv rrl rtk rau)).err],[]))
 | _,_=>none
def sp20:Abs.Spec:=fun xs bl=>match xs,bl with
 | [.agg [.str m1,.str m2,.str m3,.sl 5 kls,.int .i64 sz,.int .i64 fl,.sl 5 mls,.int .i64 sk],.agg [.bool rli,.bool rmu,.int .i64 rkv,.str rrl,.bs rtk,.bs rau],.int .i64 src,.int .i64 now],[]=>chk (decide (m1.length≤9223372036854775807)&&decide (m2.length≤9223372036854775807)&&decide (m3.length≤9223372036854775807)&&kls.all Zn&&decide (kls.length≤1000000)&&mls.all Zf&&decide (mls.length≤1000000)&&decide (rtk.length≤1000000)&&decide (rau.length≤1000000)) (some (.tup [.agg [.str ((Zv (Zz ⟨m1,m2,m3⟩ (kls.map Zw) ⟨sz,fl,mls.map Zx⟩ sk) (Zy rli rmu rkv rrl rtk rau) src now).s).me.name,.str ((Zv (Zz ⟨m1,m2,m3⟩ (kls.map Zw) ⟨sz,fl,mls.map Zx⟩ sk) (Zy rli rmu rkv rrl rtk rau) src now).s).me.inst,.str ((Zv (Zz ⟨m1,m2,m3⟩ (kls.map Zw) ⟨sz,fl,mls.map Zx⟩ sk) (Zy rli rmu rkv rrl rtk rau) src now).s).me.realm,.sl 5 (((Zv (Zz ⟨m1,m2,m3⟩ (kls.map Zw) ⟨sz,fl,mls.map Zx⟩ sk) (Zy rli rmu rkv rrl rtk rau) src now).s).keys.map Kerb.SKey.av),.int .i64 (((Zv (Zz ⟨m1,m2,m3⟩ (kls.map Zw) ⟨sz,fl,mls.map Zx⟩ sk) (Zy rli rmu rkv rrl rtk rau) src now).s).replay).size,.int .i64 (((Zv (Zz ⟨m1,m2,m3⟩ (kls.map Zw) ⟨sz,fl,mls.map Zx⟩ sk) (Zy rli rmu rkv rrl rtk rau) src now).s).replay).floor,.sl 5 ((((Zv (Zz ⟨m1,m2,m3⟩ (kls.map Zw) ⟨sz,fl,mls.map Zx⟩ sk) (Zy rli rmu rkv rrl rtk rau) src now).s).replay).marks.map Yp),.int .i64 ((Zv (Zz ⟨m1,m2,m3⟩ (kls.map Zw) ⟨sz,fl,mls.map Zx⟩ sk) (Zy rli rmu rkv rrl rtk rau) src now).s).skew],.agg [.str ((Zv (Zz ⟨m1,m2,m3⟩ (kls.map Zw) ⟨sz,fl,mls.map Zx⟩ sk) (Zy rli rmu rkv rrl rtk rau) src now).a).client.name,.str ((Zv (Zz ⟨m1,m2,m3⟩ (kls.map Zw) ⟨sz,fl,mls.map Zx⟩ sk) (Zy rli rmu rkv rrl rtk rau) src now).a).client.inst,.str ((Zv (Zz ⟨m1,m2,m3⟩ (kls.map Zw) ⟨sz,fl,mls.map Zx⟩ sk) (Zy rli rmu rkv rrl rtk rau) src now).a).client.realm,.int .u64 ((Zv (Zz ⟨m1,m2,m3⟩ (kls.map Zw) ⟨sz,fl,mls.map Zx⟩ sk) (Zy rli rmu rkv rrl rtk rau) src now).a).session,.int .i64 ((Zv (Zz ⟨m1,m2,m3⟩ (kls.map Zw) ⟨sz,fl,mls.map Zx⟩ sk) (Zy rli rmu rkv rrl rtk rau) src now).a).address,.int .i64 ((Zv (Zz ⟨m1,m2,m3⟩ (kls.map Zw) ⟨sz,fl,mls.map Zx⟩ sk) (Zy rli rmu rkv rrl rtk rau) src now).a).checksum,.int .i64 ((Zv (Zz ⟨m1,m2,m3⟩ (kls.map Zw) ⟨sz,fl,mls.map Zx⟩ sk) (Zy rli rmu rkv rrl rtk rau) src now).a).time,.int .i64 ((Zv (Zz ⟨m1,m2,m3⟩ (kls.map Zw) ⟨sz,fl,mls.map Zx⟩ sk) (Zy rli rmu rkv rrl rtk rau) src now).a).tick,.int .i64 ((Zv (Zz ⟨m1,m2,m3⟩ (kls.map Zw) ⟨sz,fl,mls.map Zx⟩ sk) (Zy rli rmu rkv rrl rtk rau) src now).a).issued,.int .i64 ((Zv (Zz ⟨m1,m2,m3⟩ (kls.map Zw) ⟨sz,fl,mls.map Zx⟩ sk) (Zy rli rmu rkv rrl rtk rau) src now).a).life,.bs ((Zv (Zz ⟨m1,m2,m3⟩ (kls.map Zw) ⟨sz,fl,mls.map Zx⟩ sk) (Zy rli rmu rkv rrl rtk rau) src now).a).ticket,.bs ((Zv (Zz ⟨m1,m2,m3⟩ (kls.map Zw) ⟨sz,fl,mls.map Zx⟩ sk) (Zy rli rmu rkv rrl rtk rau) src now).a).auth],.int .i64 (Zv (Zz ⟨m1,m2,m3⟩ (kls.map Zw) ⟨sz,fl,mls.map Zx⟩ sk) (Zy rli rmu rkv rrl rtk rau) src now).err],[]))
 | _,_=>none
def sp14:Abs.Spec:=fun xs bl=>match xs,bl with
 | [.agg [.str m1,.str m2,.str m3,.sl 5 kls,.int .i64 sz,.int .i64 fl,.sl 5 mls,.int .i64 sk],.bs msg,.int .i64 src,.int .i64 now],[]=>chk (decide (m1.length≤9223372036854775807)&&decide (m2.length≤9223372036854775807)&&decide (m3.length≤9223372036854775807)&&kls.all Zn&&decide (kls.length≤1000000)&&mls.all Zf&&decide (mls.length≤1000000)&&decide (msg.length≤1000000)) (some (.tup [.agg [.str ((Zp (Zz ⟨m1,m2,m3⟩ (kls.map Zw) ⟨sz,fl,mls.map Zx⟩ sk) msg src now).s).me.name,.str ((Zp (Zz ⟨m1,m2,m3⟩ (kls.map Zw) ⟨sz,fl,mls.map Zx⟩ sk) msg src now).s).me.inst,.str ((Zp (Zz ⟨m1,m2,m3⟩ (kls.map Zw) ⟨sz,fl,mls.map Zx⟩ sk) msg src now).s).me.realm,.sl 5 (((Zp (Zz ⟨m1,m2,m3⟩ (kls.map Zw) ⟨sz,fl,mls.map Zx⟩ sk) msg src now).s).keys.map Kerb.SKey.av),.int .i64 (((Zp (Zz ⟨m1,m2,m3⟩ (kls.map Zw) ⟨sz,fl,mls.map Zx⟩ sk) msg src now).s).replay).size,.int .i64 (((Zp (Zz ⟨m1,m2,m3⟩ (kls.map Zw) ⟨sz,fl,mls.map Zx⟩ sk) msg src now).s).replay).floor,.sl 5 ((((Zp (Zz ⟨m1,m2,m3⟩ (kls.map Zw) ⟨sz,fl,mls.map Zx⟩ sk) msg src now).s).replay).marks.map Yp),.int .i64 ((Zp (Zz ⟨m1,m2,m3⟩ (kls.map Zw) ⟨sz,fl,mls.map Zx⟩ sk) msg src now).s).skew],.agg [.str ((Zp (Zz ⟨m1,m2,m3⟩ (kls.map Zw) ⟨sz,fl,mls.map Zx⟩ sk) msg src now).a).client.name,.str ((Zp (Zz ⟨m1,m2,m3⟩ (kls.map Zw) ⟨sz,fl,mls.map Zx⟩ sk) msg src now).a).client.inst,.str ((Zp (Zz ⟨m1,m2,m3⟩ (kls.map Zw) ⟨sz,fl,mls.map Zx⟩ sk) msg src now).a).client.realm,.int .u64 ((Zp (Zz ⟨m1,m2,m3⟩ (kls.map Zw) ⟨sz,fl,mls.map Zx⟩ sk) msg src now).a).session,.int .i64 ((Zp (Zz ⟨m1,m2,m3⟩ (kls.map Zw) ⟨sz,fl,mls.map Zx⟩ sk) msg src now).a).address,.int .i64 ((Zp (Zz ⟨m1,m2,m3⟩ (kls.map Zw) ⟨sz,fl,mls.map Zx⟩ sk) msg src now).a).checksum,.int .i64 ((Zp (Zz ⟨m1,m2,m3⟩ (kls.map Zw) ⟨sz,fl,mls.map Zx⟩ sk) msg src now).a).time,.int .i64 ((Zp (Zz ⟨m1,m2,m3⟩ (kls.map Zw) ⟨sz,fl,mls.map Zx⟩ sk) msg src now).a).tick,.int .i64 ((Zp (Zz ⟨m1,m2,m3⟩ (kls.map Zw) ⟨sz,fl,mls.map Zx⟩ sk) msg src now).a).issued,.int .i64 ((Zp (Zz ⟨m1,m2,m3⟩ (kls.map Zw) ⟨sz,fl,mls.map Zx⟩ sk) msg src now).a).life,.bs ((Zp (Zz ⟨m1,m2,m3⟩ (kls.map Zw) ⟨sz,fl,mls.map Zx⟩ sk) msg src now).a).ticket,.bs ((Zp (Zz ⟨m1,m2,m3⟩ (kls.map Zw) ⟨sz,fl,mls.map Zx⟩ sk) msg src now).a).auth],.bs (Zp (Zz ⟨m1,m2,m3⟩ (kls.map Zw) ⟨sz,fl,mls.map Zx⟩ sk) msg src now).answer,.int .i64 (Zp (Zz ⟨m1,m2,m3⟩ (kls.map Zw) ⟨sz,fl,mls.map Zx⟩ sk) msg src now).err],[]))
 | _,_=>none
def sp9:Abs.Spec:=fun xs bl=>match xs,bl with
 | [],[]=>some (.bool true,[])
 | _,_=>none
def sp4:Abs.Spec:=fun xs bl=>match xs,bl with
 | [.agg [.str m1,.str m2,.str m3,.sl 5 kls,.int .i64 sz,.int .i64 fl,.sl 5 mls,.int .i64 sk],.agg [.bool rli,.bool rmu,.int .i64 rkv,.str rrl,.bs rtk,.bs rau],.int .i64 src,.int .i64 now,.agg [.u8 cu,.u8 co,.u8 cv,.u8 cr,.bool lt,.bool tn,.bool mt,.u8 cad,.u8 cfr,.u8 cis,.u8 ctm,.u8 ctk,.u8 clf,.int .u32 ccs,.u8 cky,.u8 ckv,.u8 css,.int .u16 ctt,.int .u16 cau],.agg [.str x,.str y,.str z,.int .u64 k,.int .i64 ad,.int .i64 ck,.int .i64 tm,.int .i64 tc,.int .i64 iss,.int .i64 lf,.bs tk,.bs au],.bool li,.u8 sml],[]=>chk (kls.all Zn&&mls.all Zf&&decide (m1.length≤9223372036854775807)&&decide (m2.length≤9223372036854775807)&&decide (m3.length≤9223372036854775807)&&decide (rrl.length≤9223372036854775807)&&decide (x.length≤9223372036854775807)&&decide (y.length≤9223372036854775807)&&decide (z.length≤9223372036854775807)&&decide (0≤k)&&decide (k<18446744073709551616)&&decide (0≤ccs)&&decide (ccs≤4294967295)&&decide (0≤ctt)&&decide (ctt≤65535)&&decide (0≤cau)&&decide (cau≤65535)) (some (.bool true,[]))
 | _,_=>none
def tabT:List (Nat×Nat×List CT×Abs.Spec):=[(12,1,[.int .i64],sp12),(13,1,[.bsl,.int .u16],sp13),(17,1,[.other,.other],sp17),(18,1,[.other],sp18),(22,1,[.int .i64],sp22),(41,1,[.sl 5,.sl 5],sp41),(42,1,[.other,.other],sp42),(48,1,[.bsl],sp48),(49,1,[.sl 5,.other,.int .i64],sp49),(65,1,[.int .i64],sp65),(76,1,[.sl 5],sp76),(82,1,[.int .i64,.int .i64],sp82),(84,1,[.int .i64,.bool],sp84),(85,1,[.bsl,.str],sp85),(89,1,[.bsl,.bsl],sp89),(91,1,[.sl 5],sp91),(98,1,[.other,.str],sp98),(102,1,[.int .i64,.int .i64,.int .i64],sp102),(106,1,[.int .i64],sp106),(108,1,[.other,.other],sp108),(109,1,[.int .i64,.int .i64],sp109),(113,1,[.int .i64],sp113),(115,1,[.int .u64],sp115),(121,1,[.bsl],sp121),(123,1,[.int .u64],sp123),(125,1,[],sp125),(130,1,[.other],sp130),(131,1,[.sl 5,.other],sp131),(133,1,[.ptr,.int .i64,.int .i64],sp133),(134,1,[.bsl,.int .i64,.int .i64],sp134),(140,1,[.str,.str],sp140),(141,1,[.bsl,.int .i64,.int .i64,.bool],sp141),(143,1,[.int .i64,.sl 1],sp143),(156,1,[.int .i64],sp156),(157,1,[.int .i64],sp157),(162,1,[.int .i64],sp162),(163,1,[.other,.other],sp163),(164,1,[.int .i64,.int .i64],sp164),(168,1,[.bsl,.int .i64,.int .i64],sp168),(170,1,[.bsl,.int .i64],sp170),(172,1,[.int .i64,.int .i64],sp172),(173,1,[.int .i64,.int .i64],sp173),(180,1,[.int .i64],sp180),(181,1,[.int .i64],sp181),(183,1,[.bsl,.u8],sp183),(189,1,[.int .i64,.int .i64],sp189),(190,1,[.int .i64,.int .i64],sp190),(191,1,[.str,.u8],sp191),(16,2,[.other,.other],sp16),(39,2,[.other],sp39),(52,2,[.int .i64,.int .i64,.int .i64],sp52),(61,2,[.int .i64],sp61),(68,2,[.ptr,.int .i64],sp68),(81,2,[.str],sp81),(83,2,[.bsl,.int .i64],sp83),(100,2,[.int .i64,.int .i64,.int .i64],sp100),(103,2,[.other,.other],sp103),(107,2,[.int .i64,.int .i64],sp107),(116,2,[.int .i64,.bool],sp116),(118,2,[.sl 1],sp118),(119,2,[.bsl,.int .i64,.bool],sp119),(122,2,[.int .u64],sp122),(124,2,[.bsl,.int .i64,.bool],sp124),(129,2,[.sl 5,.other],sp129),(138,2,[.str],sp138),(139,2,[.str],sp139),(142,2,[.bsl],sp142),(146,2,[.bsl,.int .i64,.int .i64],sp146),(149,2,[.ptr],sp149),(151,2,[.bsl,.other],sp151),(158,2,[.int .i64,.int .i64],sp158),(161,2,[.int .u64],sp161),(166,2,[.bsl,.int .i64,.int .i64,.bool],sp166),(167,2,[.bsl,.int .i64,.int .i64,.bool],sp167),(169,2,[.bsl,.u8],sp169),(187,2,[.str,.u8],sp187),(25,3,[.int .i64],sp25),(36,3,[.other],sp36),(53,3,[.int .i64,.int .i64,.int .i64,.int .i64],sp53),(59,3,[.int .i64,.int .u64,.bsl],sp59),(60,3,[.bsl,.bool],sp60),(73,3,[.int .i64],sp73),(77,3,[.other],sp77),(86,3,[.bsl,.sl 1],sp86),(96,3,[.sl 5,.other,.int .i64],sp96),(101,3,[.int .i64,.int .i64,.int .i64,.int .i64],sp101),(112,3,[.bsl],sp112),(114,3,[.int .u64],sp114),(120,3,[.bsl,.bool],sp120),(135,3,[.bsl],sp135),(136,3,[.bsl,.int .i64],sp136),(137,3,[.bsl,.int .i64,.bool],sp137),(144,3,[.bsl,.int .i64],sp144),(145,3,[.bsl,.int .i64],sp145),(147,3,[.bsl,.str],sp147),(159,3,[.ptr],sp159),(160,3,[.bsl,.int .i64,.int .i64,.bool],sp160),(171,3,[.int .u64],sp171),(176,3,[.bsl,.int .i64,.bool],sp176),(182,3,[.str,.u8],sp182),(188,3,[.int .u64],sp188),(32,4,[.other],sp32),(46,4,[.other,.other,.int .i64,.int .i64,.int .i64],sp46),(56,4,[.int .i64,.int .u64,.bsl],sp56),(58,4,[.other,.bool],sp58),(69,4,[.bsl],sp69),(70,4,[.ptr],sp70),(71,4,[.ptr],sp71),(78,4,[.sl 5],sp78),(80,4,[.other],sp80),(87,4,[.bsl],sp87),(110,4,[.bsl,.int .i64],sp110),(111,4,[.bsl,.int .i64,.bool],sp111),(117,4,[.bsl,.int .i64,.bool],sp117),(150,4,[.other],sp150),(152,4,[.other],sp152),(165,4,[.str,.str],sp165),(177,4,[.bsl],sp177),(185,4,[.bsl,.other],sp185),(10,5,[.other,.u8,.u8],sp10),(24,5,[.other,.bool],sp24),(28,5,[.bsl,.int .i64,.int .u64],sp28),(35,5,[.other],sp35),(54,5,[.other,.other,.int .i64,.int .i64],sp54),(55,5,[.other,.bool],sp55),(57,5,[.bsl,.bool],sp57),(94,5,[.other],sp94),(95,5,[.other,.bool],sp95),(126,5,[.str],sp126),(127,5,[.str],sp127),(174,5,[.bsl],sp174),(23,6,[.other,.bool],sp23),(43,6,[.other,.int .u64],sp43),(44,6,[.other,.bool,.int .u64],sp44),(104,6,[.bsl],sp104),(105,6,[.bsl,.bool],sp105),(128,6,[.str],sp128),(153,6,[.bsl,.int .i64,.int .u64],sp153),(19,7,[.other,.other,.int .u64,.int .i64],sp19),(50,7,[.bsl,.int .u64],sp50),(51,7,[.bsl,.bool,.int .u64],sp51),(62,7,[.other],sp62),(88,7,[.other],sp88),(11,8,[.other,.other,.int .u64,.int .i64],sp11),(21,8,[.other,.other,.int .i64,.int .i64],sp21),(37,8,[.bsl],sp37),(63,8,[.sl 5],sp63),(64,8,[.other],sp64),(175,8,[.bsl,.int .i64],sp175),(184,8,[.other],sp184),(186,8,[.other],sp186),(26,9,[.other],sp26),(47,9,[.other,.other,.int .i64,.int .i64],sp47),(178,9,[.other],sp178),(179,9,[.other,.bool],sp179),(154,10,[.bsl],sp154),(155,10,[.bsl,.bool],sp155),(97,11,[.bsl,.int .u64],sp97),(99,11,[.bsl,.bool,.int .u64],sp99),(45,12,[.other,.other],sp45),(20,13,[.other,.other,.int .i64,.int .i64],sp20),(14,14,[.other,.bsl,.int .i64,.int .i64],sp14),(9,15,[],sp9),(4,16,[.other,.other,.int .i64,.int .i64,.other,.other,.bool,.u8],sp4)]
def globT:List (Nat×List AV):=[]
noncomputable def inlT:List (Nat×Func):=[(148,Tryz.f148),(90,Tryz.f90),(38,Tryz.f38)]
def look {α:Type} (k:Nat):List (Nat×α)→Option α
 | []=>none
 | (j,x)::r=>cond (Nat.beq j k) (some x) (look k r)
def look2 {α:Type} (k m:Nat):List (Nat×Nat×List α)→List α
 | []=>[]
 | (j,i,x)::r=>cond (Nat.beq j k) (cond (Nat.beq i m) x (look2 k m r)) (look2 k m r)
noncomputable def G:Cfg2:={ ty:=fun t=>(tbl[t]?).join,keep:=fun f r=>look2 f r keepT,own:=fun f=>ownT.contains f,glob:=fun q=>look q globT,rts:=fun f=>look f rtsT,tab:=fun f=>look f tabT,inl:=fun f=>look f inlT }
end Go.Proofs.YtiplnpablmohiaaGreat
