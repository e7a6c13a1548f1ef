/- The table of functions of this seat. -/
import Derived.Test.YtaikjfcgemjghaaGreatAbsSpec
import Derived.Test.YtaikjfcgemjghaaGreatKerbDefs
import Derived.Test.YtaikjfcgemjghaaGreatAbsPlain
import Derived.Test.YtaikjfcgemjghaaGreatKerbAt
import Derived.Test.YtaikjfcgemjghaaGreatKerbKa
import Derived.Test.YtaikjfcgemjghaaGreatKerbKaRef
import Derived.Test.YtaikjfcgemjghaaGreatKerbCli2
import Derived.Test.YtaikjfcgemjghaaGreatKerbTkt
import Derived.Test.YtaikjfcgemjghaaGreatKerbDb
import Derived.Test.YtaikjfcgemjghaaGreatKerbKac
import Derived.Test.YtaikjfcgemjghaaGreatKerbSrv
import Derived.Test.YtaikjfcgemjghaaGreatKerbSrvD
import Derived.Test.YtaikjfcgemjghaaGreatProg
import Derived.KernelRfl
open Kerb renaming toEntry→Zz,kaGive→Zw,noIssue→Zv,kaAuthenticate→Zu,kaGetTicket→Zj,kaChangePw→Zk,isEntry→Zp,get→Zd,kaserver→Zf,kaRefuse→Zg,kaFailed→Zb,kaByUser→Zn,grant→Zm,decodeKaRequest→Zh,decodeKaAnswer→Yy,decodeTicket→Yx,kaPresented→Yw,isU64→Yv,openTicket→Yu,within→Yk,readBox→Yp,decodeKaSecret→Yd,encodeKaRequest→Yf,bytes→Yg,encodeKaSecret→Yb,encodeKaAnswer→Yn,kaSecretOf→Ym,text→Yh,toCross→Xz,pGet→Xy,readHead→Xx,putN→Xw,encodeKaReply→Xv,decodeKaReply→Xu,encodeTicket→Xq,keyValid→Xj
open Kerb.KaRequest renaming mk→Zy
open Kerb.KaOut renaming mk→Zx
open Kerb.Entry renaming mk→Zq,av→Yq
open Kerb.Db renaming mk→Yz
open Kerb.Ticket renaming mk→Yj
namespace Go.Proofs.YtaikjfcgemjghaaGreat
open Go Go.Abs
set_option linter.unusedVariables false
def tbl:List (Option TI):=[
 none,
 none,
 some ⟨1,8,.int .i64,[.int .i64 0],[.int .i64],[.int .i64]⟩,
 some ⟨1,8,.int .i64,[.int .i64 0],[.int .i64],[.int .i64]⟩,
 some ⟨1,1,.bool,[.bool false],[.bool],[.bool]⟩,
 some ⟨1,1,.u8,[.u8 0],[.u8],[.u8]⟩,
 some ⟨1,1,.u8,[.u8 0],[.u8],[.u8]⟩,
 some ⟨4,24,.struct [(0,2),(1,3),(2,4),(3,6)],[.int .i64 0,.int .i64 0,.bool false,.u8 0],[.int .i64,.int .i64,.bool,.u8],[.int .i64,.int .i64,.bool,.u8]⟩,
 none,
 some ⟨1,16,.str,[.str []],[.str],[.str]⟩,
 none,
 none,
 some ⟨1,8,.int .u64,[.int .u64 0],[.int .u64],[.int .u64]⟩,
 none,
 none,
 some ⟨1,8,.ptr 270,[.nilp],[.ptr],[]⟩,
 some ⟨1,8,.ptr 273,[.nilp],[.ptr],[]⟩,
 some ⟨1,8,.ptr 281,[.nilp],[.ptr],[]⟩,
 some ⟨1,8,.struct [(0,17)],[.nilp],[.ptr],[]⟩,
 some ⟨1,8,.struct [(0,17)],[.nilp],[.ptr],[]⟩,
 none,
 some ⟨1,4,.int .i32,[.int .i32 0],[.int .i32],[.int .i32]⟩,
 none,
 some ⟨1,24,.slice 75 false,[.nils],[.sl 9],[]⟩,
 some ⟨2,40,.struct [(0,9),(1,23)],[.str [],.nils],[.str,.sl 9],[]⟩,
 some ⟨2,40,.struct [(0,9),(1,23)],[.str [],.nils],[.str,.sl 9],[]⟩,
 none,
 some ⟨3,48,.struct [(0,9),(1,9),(2,9)],[.str [],.str [],.str []],[.str,.str,.str],[.str,.str,.str]⟩,
 some ⟨3,48,.struct [(0,9),(1,9),(2,9)],[.str [],.str [],.str []],[.str,.str,.str],[.str,.str,.str]⟩,
 none,
 some ⟨1,24,.slice 51 false,[.nils],[.sl 8],[]⟩,
 some ⟨4,72,.struct [(0,28),(3,30)],[.str [],.str [],.str [],.nils],[.str,.str,.str,.sl 8],[]⟩,
 some ⟨4,72,.struct [(0,28),(3,30)],[.str [],.str [],.str [],.nils],[.str,.str,.str,.sl 8],[]⟩,
 some ⟨1,8,.int .u64,[.int .u64 0],[.int .u64],[.int .u64]⟩,
 some ⟨1,8,.int .u64,[.int .u64 0],[.int .u64],[.int .u64]⟩,
 some ⟨19,240,.struct [(0,28),(3,3),(4,3),(5,4),(6,32),(10,3),(11,28),(14,34),(15,3),(16,3),(17,3),(18,3)],[.str [],.str [],.str [],.int .i64 0,.int .i64 0,.bool false,.str [],.str [],.str [],.nils,.int .i64 0,.str [],.str [],.str [],.int .u64 0,.int .i64 0,.int .i64 0,.int .i64 0,.int .i64 0],[.str,.str,.str,.int .i64,.int .i64,.bool,.str,.str,.str,.sl 8,.int .i64,.str,.str,.str,.int .u64,.int .i64,.int .i64,.int .i64,.int .i64],[]⟩,
 some ⟨19,240,.struct [(0,28),(3,3),(4,3),(5,4),(6,32),(10,3),(11,28),(14,34),(15,3),(16,3),(17,3),(18,3)],[.str [],.str [],.str [],.int .i64 0,.int .i64 0,.bool false,.str [],.str [],.str [],.nils,.int .i64 0,.str [],.str [],.str [],.int .u64 0,.int .i64 0,.int .i64 0,.int .i64 0,.int .i64 0],[.str,.str,.str,.int .i64,.int .i64,.bool,.str,.str,.str,.sl 8,.int .i64,.str,.str,.str,.int .u64,.int .i64,.int .i64,.int .i64,.int .i64],[]⟩,
 some ⟨1,8,.int .i64,[.int .i64 0],[.int .i64],[.int .i64]⟩,
 none,
 none,
 none,
 some ⟨9,96,.struct [(0,3),(1,3),(2,3),(3,3),(4,28),(7,34),(8,34)],[.int .i64 0,.int .i64 0,.int .i64 0,.int .i64 0,.str [],.str [],.str [],.int .u64 0,.int .u64 0],[.int .i64,.int .i64,.int .i64,.int .i64,.str,.str,.str,.int .u64,.int .u64],[.int .i64,.int .i64,.int .i64,.int .i64,.str,.str,.str,.int .u64,.int .u64]⟩,
 some ⟨9,96,.struct [(0,3),(1,3),(2,3),(3,3),(4,28),(7,34),(8,34)],[.int .i64 0,.int .i64 0,.int .i64 0,.int .i64 0,.str [],.str [],.str [],.int .u64 0,.int .u64 0],[.int .i64,.int .i64,.int .i64,.int .i64,.str,.str,.str,.int .u64,.int .u64],[.int .i64,.int .i64,.int .i64,.int .i64,.str,.str,.str,.int .u64,.int .u64]⟩,
 some ⟨1,24,.slice 5 true,[.nils],[.bsl],[]⟩,
 none,
 none,
 some ⟨16,216,.struct [(0,3),(1,28),(4,28),(7,28),(10,34),(11,34),(12,34),(13,43),(14,3),(15,3)],[.int .i64 0,.str [],.str [],.str [],.str [],.str [],.str [],.str [],.str [],.str [],.int .u64 0,.int .u64 0,.int .u64 0,.nils,.int .i64 0,.int .i64 0],[.int .i64,.str,.str,.str,.str,.str,.str,.str,.str,.str,.int .u64,.int .u64,.int .u64,.bsl,.int .i64,.int .i64],[]⟩,
 some ⟨16,216,.struct [(0,3),(1,28),(4,28),(7,28),(10,34),(11,34),(12,34),(13,43),(14,3),(15,3)],[.int .i64 0,.str [],.str [],.str [],.str [],.str [],.str [],.str [],.str [],.str [],.int .u64 0,.int .u64 0,.int .u64 0,.nils,.int .i64 0,.int .i64 0],[.int .i64,.str,.str,.str,.str,.str,.str,.str,.str,.str,.int .u64,.int .u64,.int .u64,.bsl,.int .i64,.int .i64],[]⟩,
 none,
 none,
 some ⟨8,104,.struct [(0,28),(3,34),(4,3),(5,3),(6,3),(7,43)],[.str [],.str [],.str [],.int .u64 0,.int .i64 0,.int .i64 0,.int .i64 0,.nils],[.str,.str,.str,.int .u64,.int .i64,.int .i64,.int .i64,.bsl],[]⟩,
 some ⟨8,104,.struct [(0,28),(3,34),(4,3),(5,3),(6,3),(7,43)],[.str [],.str [],.str [],.int .u64 0,.int .i64 0,.int .i64 0,.int .i64 0,.nils],[.str,.str,.str,.int .u64,.int .i64,.int .i64,.int .i64,.bsl],[]⟩,
 none,
 none,
 none,
 none,
 none,
 none,
 none,
 some ⟨1,24,.slice 63 false,[.nils],[.sl 13],[]⟩,
 none,
 some ⟨1,2,.int .u16,[.int .u16 0],[.int .u16],[.int .u16]⟩,
 some ⟨13,14,.struct [(0,5),(1,5),(2,5),(3,5),(4,5),(5,5),(6,5),(7,5),(8,5),(9,5),(10,5),(11,5),(12,61)],[.u8 0,.u8 0,.u8 0,.u8 0,.u8 0,.u8 0,.u8 0,.u8 0,.u8 0,.u8 0,.u8 0,.u8 0,.int .u16 0],[.u8,.u8,.u8,.u8,.u8,.u8,.u8,.u8,.u8,.u8,.u8,.u8,.int .u16],[.u8,.u8,.u8,.u8,.u8,.u8,.u8,.u8,.u8,.u8,.u8,.u8,.int .u16]⟩,
 some ⟨13,14,.struct [(0,5),(1,5),(2,5),(3,5),(4,5),(5,5),(6,5),(7,5),(8,5),(9,5),(10,5),(11,5),(12,61)],[.u8 0,.u8 0,.u8 0,.u8 0,.u8 0,.u8 0,.u8 0,.u8 0,.u8 0,.u8 0,.u8 0,.u8 0,.int .u16 0],[.u8,.u8,.u8,.u8,.u8,.u8,.u8,.u8,.u8,.u8,.u8,.u8,.int .u16],[.u8,.u8,.u8,.u8,.u8,.u8,.u8,.u8,.u8,.u8,.u8,.u8,.int .u16]⟩,
 none,
 some ⟨1,24,.slice 25 false,[.nils],[.sl 2],[]⟩,
 none,
 none,
 none,
 some ⟨10,160,.struct [(0,3),(1,28),(4,3),(5,9),(6,43),(7,9),(8,9),(9,43)],[.int .i64 0,.str [],.str [],.str [],.int .i64 0,.str [],.nils,.str [],.str [],.nils],[.int .i64,.str,.str,.str,.int .i64,.str,.bsl,.str,.str,.bsl],[]⟩,
 some ⟨10,160,.struct [(0,3),(1,28),(4,3),(5,9),(6,43),(7,9),(8,9),(9,43)],[.int .i64 0,.str [],.str [],.str [],.int .i64 0,.str [],.nils,.str [],.str [],.nils],[.int .i64,.str,.str,.str,.int .i64,.str,.bsl,.str,.str,.bsl],[]⟩,
 none,
 none,
 none,
 some ⟨9,88,.struct [(0,9),(1,9),(2,34),(3,3),(4,3),(5,3),(6,3),(7,3),(8,3)],[.str [],.str [],.int .u64 0,.int .i64 0,.int .i64 0,.int .i64 0,.int .i64 0,.int .i64 0,.int .i64 0],[.str,.str,.int .u64,.int .i64,.int .i64,.int .i64,.int .i64,.int .i64,.int .i64],[.str,.str,.int .u64,.int .i64,.int .i64,.int .i64,.int .i64,.int .i64,.int .i64]⟩,
 some ⟨9,88,.struct [(0,9),(1,9),(2,34),(3,3),(4,3),(5,3),(6,3),(7,3),(8,3)],[.str [],.str [],.int .u64 0,.int .i64 0,.int .i64 0,.int .i64 0,.int .i64 0,.int .i64 0,.int .i64 0],[.str,.str,.int .u64,.int .i64,.int .i64,.int .i64,.int .i64,.int .i64,.int .i64],[.str,.str,.int .u64,.int .i64,.int .i64,.int .i64,.int .i64,.int .i64,.int .i64]⟩,
 none,
 some ⟨3,40,.struct [(0,3),(1,37),(2,43)],[.int .i64 0,.int .i64 0,.nils],[.int .i64,.int .i64,.bsl],[]⟩,
 some ⟨3,40,.struct [(0,3),(1,37),(2,43)],[.int .i64 0,.int .i64 0,.nils],[.int .i64,.int .i64,.bsl],[]⟩,
 none,
 none,
 none,
 none,
 none,
 none,
 none,
 some ⟨10,128,.struct [(0,9),(1,3),(2,34),(3,3),(4,3),(5,3),(6,28),(9,43)],[.str [],.int .i64 0,.int .u64 0,.int .i64 0,.int .i64 0,.int .i64 0,.str [],.str [],.str [],.nils],[.str,.int .i64,.int .u64,.int .i64,.int .i64,.int .i64,.str,.str,.str,.bsl],[]⟩,
 some ⟨10,128,.struct [(0,9),(1,3),(2,34),(3,3),(4,3),(5,3),(6,28),(9,43)],[.str [],.int .i64 0,.int .u64 0,.int .i64 0,.int .i64 0,.int .i64 0,.str [],.str [],.str [],.nils],[.str,.int .i64,.int .u64,.int .i64,.int .i64,.int .i64,.str,.str,.str,.bsl],[]⟩,
 none,
 none,
 none,
 none,
 some ⟨4,40,.struct [(0,5),(1,43),(2,4),(3,5)],[.u8 0,.nils,.bool false,.u8 0],[.u8,.bsl,.bool,.u8],[]⟩,
 some ⟨4,40,.struct [(0,5),(1,43),(2,4),(3,5)],[.u8 0,.nils,.bool false,.u8 0],[.u8,.bsl,.bool,.u8],[]⟩,
 none,
 some ⟨1,24,.slice 28 false,[.nils],[.sl 3],[]⟩,
 some ⟨1,24,.slice 9 false,[.nils],[.sl 1],[]⟩,
 none,
 none,
 none,
 none,
 none,
 none,
 none,
 none,
 some ⟨5,48,.struct [(0,9),(1,3),(2,3),(3,3),(4,34)],[.str [],.int .i64 0,.int .i64 0,.int .i64 0,.int .u64 0],[.str,.int .i64,.int .i64,.int .i64,.int .u64],[.str,.int .i64,.int .i64,.int .i64,.int .u64]⟩,
 some ⟨5,48,.struct [(0,9),(1,3),(2,3),(3,3),(4,34)],[.str [],.int .i64 0,.int .i64 0,.int .i64 0,.int .u64 0],[.str,.int .i64,.int .i64,.int .i64,.int .u64],[.str,.int .i64,.int .i64,.int .i64,.int .u64]⟩,
 none,
 none,
 none,
 none,
 none,
 none,
 none,
 none,
 none,
 none,
 none,
 none,
 none,
 none,
 none,
 none,
 some ⟨1,8,.ptr 125,[.nilp],[.ptr],[]⟩,
 some ⟨2,32,.struct [(0,43),(1,3)],[.nils,.int .i64 0],[.bsl,.int .i64],[]⟩,
 some ⟨2,32,.struct [(0,43),(1,3)],[.nils,.int .i64 0],[.bsl,.int .i64],[]⟩,
 none,
 none,
 some ⟨10,120,.struct [(0,4),(1,28),(4,3),(5,34),(6,3),(7,3),(8,9),(9,9)],[.bool false,.str [],.str [],.str [],.int .i64 0,.int .u64 0,.int .i64 0,.int .i64 0,.str [],.str []],[.bool,.str,.str,.str,.int .i64,.int .u64,.int .i64,.int .i64,.str,.str],[.bool,.str,.str,.str,.int .i64,.int .u64,.int .i64,.int .i64,.str,.str]⟩,
 some ⟨10,120,.struct [(0,4),(1,28),(4,3),(5,34),(6,3),(7,3),(8,9),(9,9)],[.bool false,.str [],.str [],.str [],.int .i64 0,.int .u64 0,.int .i64 0,.int .i64 0,.str [],.str []],[.bool,.str,.str,.str,.int .i64,.int .u64,.int .i64,.int .i64,.str,.str],[.bool,.str,.str,.str,.int .i64,.int .u64,.int .i64,.int .i64,.str,.str]⟩,
 none,
 none,
 none,
 none,
 none,
 some ⟨1,8,.ptr 137,[.nilp],[.ptr],[]⟩,
 some ⟨16,232,.struct [(0,70),(10,25),(12,3),(13,3),(14,3),(15,34)],[.int .i64 0,.str [],.str [],.str [],.int .i64 0,.str [],.nils,.str [],.str [],.nils,.str [],.nils,.int .i64 0,.int .i64 0,.int .i64 0,.int .u64 0],[.int .i64,.str,.str,.str,.int .i64,.str,.bsl,.str,.str,.bsl,.str,.sl 9,.int .i64,.int .i64,.int .i64,.int .u64],[]⟩,
 some ⟨16,232,.struct [(0,70),(10,25),(12,3),(13,3),(14,3),(15,34)],[.int .i64 0,.str [],.str [],.str [],.int .i64 0,.str [],.nils,.str [],.str [],.nils,.str [],.nils,.int .i64 0,.int .i64 0,.int .i64 0,.int .u64 0],[.int .i64,.str,.str,.str,.int .i64,.str,.bsl,.str,.str,.bsl,.str,.sl 9,.int .i64,.int .i64,.int .i64,.int .u64],[]⟩,
 some ⟨20,288,.struct [(0,25),(2,43),(3,47),(19,4)],[.str [],.nils,.nils,.int .i64 0,.str [],.str [],.str [],.str [],.str [],.str [],.str [],.str [],.str [],.int .u64 0,.int .u64 0,.int .u64 0,.nils,.int .i64 0,.int .i64 0,.bool false],[.str,.sl 9,.bsl,.int .i64,.str,.str,.str,.str,.str,.str,.str,.str,.str,.int .u64,.int .u64,.int .u64,.bsl,.int .i64,.int .i64,.bool],[]⟩,
 some ⟨20,288,.struct [(0,25),(2,43),(3,47),(19,4)],[.str [],.nils,.nils,.int .i64 0,.str [],.str [],.str [],.str [],.str [],.str [],.str [],.str [],.str [],.int .u64 0,.int .u64 0,.int .u64 0,.nils,.int .i64 0,.int .i64 0,.bool false],[.str,.sl 9,.bsl,.int .i64,.str,.str,.str,.str,.str,.str,.str,.str,.str,.int .u64,.int .u64,.int .u64,.bsl,.int .i64,.int .i64,.bool],[]⟩,
 none,
 none,
 none,
 some ⟨1,8,.ptr 145,[.nilp],[.ptr],[]⟩,
 some ⟨4,40,.struct [(0,43),(1,3),(2,4),(3,4)],[.nils,.int .i64 0,.bool false,.bool false],[.bsl,.int .i64,.bool,.bool],[]⟩,
 some ⟨4,40,.struct [(0,43),(1,3),(2,4),(3,4)],[.nils,.int .i64 0,.bool false,.bool false],[.bsl,.int .i64,.bool,.bool],[]⟩,
 none,
 none,
 none,
 none,
 none,
 none,
 none,
 none,
 none,
 some ⟨3,40,.struct [(0,3),(1,34),(2,43)],[.int .i64 0,.int .u64 0,.nils],[.int .i64,.int .u64,.bsl],[]⟩,
 some ⟨3,40,.struct [(0,3),(1,34),(2,43)],[.int .i64 0,.int .u64 0,.nils],[.int .i64,.int .u64,.bsl],[]⟩,
 none,
 none,
 none,
 none,
 none,
 none,
 none,
 none,
 none,
 none,
 none,
 none,
 none,
 none,
 none,
 none,
 none,
 none,
 none,
 none,
 some ⟨1,24,.slice 3 false,[.nils],[.sl 1],[]⟩,
 none,
 none,
 none,
 some ⟨8,104,.struct [(0,34),(1,28),(4,3),(5,3),(6,43),(7,3)],[.int .u64 0,.str [],.str [],.str [],.int .i64 0,.int .i64 0,.nils,.int .i64 0],[.int .u64,.str,.str,.str,.int .i64,.int .i64,.bsl,.int .i64],[]⟩,
 some ⟨8,104,.struct [(0,34),(1,28),(4,3),(5,3),(6,43),(7,3)],[.int .u64 0,.str [],.str [],.str [],.int .i64 0,.int .i64 0,.nils,.int .i64 0],[.int .u64,.str,.str,.str,.int .i64,.int .i64,.bsl,.int .i64],[]⟩,
 none,
 none,
 none,
 none,
 none,
 none,
 none,
 none,
 none,
 none,
 some ⟨3,40,.struct [(0,43),(1,3),(2,4)],[.nils,.int .i64 0,.bool false],[.bsl,.int .i64,.bool],[]⟩,
 some ⟨3,40,.struct [(0,43),(1,3),(2,4)],[.nils,.int .i64 0,.bool false],[.bsl,.int .i64,.bool],[]⟩,
 none,
 some ⟨1,4,.int .u32,[.int .u32 0],[.int .u32],[.int .u32]⟩,
 none,
 none,
 none,
 none,
 none,
 none,
 none,
 some ⟨1,8,.int .u64,[.int .u64 0],[.int .u64],[.int .u64]⟩,
 none,
 none,
 none,
 none,
 none,
 none,
 none,
 none,
 none,
 some ⟨15,176,.struct [(0,3),(1,28),(4,28),(7,3),(8,3),(9,34),(10,34),(11,34),(12,3),(13,9),(14,3)],[.int .i64 0,.str [],.str [],.str [],.str [],.str [],.str [],.int .i64 0,.int .i64 0,.int .u64 0,.int .u64 0,.int .u64 0,.int .i64 0,.str [],.int .i64 0],[.int .i64,.str,.str,.str,.str,.str,.str,.int .i64,.int .i64,.int .u64,.int .u64,.int .u64,.int .i64,.str,.int .i64],[.int .i64,.str,.str,.str,.str,.str,.str,.int .i64,.int .i64,.int .u64,.int .u64,.int .u64,.int .i64,.str,.int .i64]⟩,
 some ⟨15,176,.struct [(0,3),(1,28),(4,28),(7,3),(8,3),(9,34),(10,34),(11,34),(12,3),(13,9),(14,3)],[.int .i64 0,.str [],.str [],.str [],.str [],.str [],.str [],.int .i64 0,.int .i64 0,.int .u64 0,.int .u64 0,.int .u64 0,.int .i64 0,.str [],.int .i64 0],[.int .i64,.str,.str,.str,.str,.str,.str,.int .i64,.int .i64,.int .u64,.int .u64,.int .u64,.int .i64,.str,.int .i64],[.int .i64,.str,.str,.str,.str,.str,.str,.int .i64,.int .i64,.int .u64,.int .u64,.int .u64,.int .i64,.str,.int .i64]⟩,
 none,
 none,
 none,
 none,
 none,
 none,
 none,
 none,
 none,
 none,
 none,
 none,
 none,
 none,
 none,
 none,
 none,
 none,
 none,
 none,
 none,
 some ⟨1,24,.slice 240 false,[.nils],[.sl 4],[]⟩,
 none,
 some ⟨4,48,.struct [(0,9),(1,9),(2,3),(3,34)],[.str [],.str [],.int .i64 0,.int .u64 0],[.str,.str,.int .i64,.int .u64],[.str,.str,.int .i64,.int .u64]⟩,
 some ⟨4,48,.struct [(0,9),(1,9),(2,3),(3,34)],[.str [],.str [],.int .i64 0,.int .u64 0],[.str,.str,.int .i64,.int .u64],[.str,.str,.int .i64,.int .u64]⟩,
 none,
 none,
 some ⟨1,8,.ptr 194,[.nilp],[.ptr],[]⟩,
 none,
 none,
 none,
 none,
 none,
 none,
 none,
 none,
 none,
 none,
 none,
 none,
 none,
 none,
 none,
 none,
 none,
 none,
 some ⟨1,8,.ptr 9,[.nilp],[.ptr],[]⟩,
 some ⟨1,24,.slice 262 false,[.nils],[.sl 1],[]⟩,
 none,
 none,
 none,
 some ⟨4,4,.arr 4 5 true,[.u8 0,.u8 0,.u8 0,.u8 0],[.u8,.u8,.u8,.u8],[]⟩,
 some ⟨1,24,.slice 43 false,[.nils],[.sl 1],[]⟩,
 some ⟨4,40,.struct [(0,17),(1,17),(2,17),(3,9)],[.nilp,.nilp,.nilp,.str []],[.ptr,.ptr,.ptr,.str],[]⟩,
 none,
 some ⟨0,0,.arr 0 16 false,[],[],[]⟩,
 none,
 none,
 some ⟨1,1,.u8,[.u8 0],[.u8],[.u8]⟩,
 some ⟨1,1,.u8,[.u8 0],[.u8],[.u8]⟩,
 none,
 some ⟨1,8,.ptr 5,[.nilp],[.ptr],[]⟩,
 some ⟨1,4,.int .i32,[.int .i32 0],[.int .i32],[.int .i32]⟩,
 some ⟨1,4,.int .i32,[.int .i32 0],[.int .i32],[.int .i32]⟩,
 none,
 none,
 none]
def keepT:List (Nat×Nat×List Keep):=[(4,7,[.val 0 59,.val 2 43,.val 6 5,.val 7 43,.val 8 3,.val 9 3,.val 10 34,.val 22 4,.cells 23 [.str,.sl 9],.ptr 23 23 0,.cells 24 [.str,.sl 9],.ptr 24 24 0,.val 25 3]),
 (4,15,[.val 0 59,.val 2 43,.val 6 5,.val 7 43,.val 8 3,.val 9 3,.val 10 34,.val 22 4,.cells 23 [.str,.sl 9],.ptr 23 23 0,.cells 24 [.str,.sl 9],.ptr 24 24 0,.val 25 3,.val 26 43,.val 27 3,.val 28 3,.val 29 34,.val 30 3]),
 (5,7,[.val 0 59,.val 3 5,.val 8 4,.cells 9 [.str,.sl 9],.ptr 9 9 0,.val 10 3]),
 (5,14,[.val 0 59,.val 3 5,.val 8 4,.cells 9 [.str,.sl 9],.ptr 9 9 0,.val 10 3,.cells 11 [.str,.sl 9],.ptr 11 11 0,.cells 15 [.int .i64,.str,.str,.str,.int .i64,.str,.bsl,.str,.str,.bsl],.ptr 15 15 0,.val 16 37,.val 17 3]),
 (6,6,[.val 2 61,.val 6 4,.cells 7 [.str,.sl 9],.ptr 7 7 0,.cells 8 [.u8,.u8,.u8,.u8,.u8,.u8,.u8,.u8,.u8,.u8,.u8,.u8,.int .u16],.ptr 8 8 0,.cells 9 [.u8,.u8,.u8,.u8,.u8,.u8,.u8,.u8,.u8,.u8,.u8,.u8,.int .u16],.ptr 9 9 0,.val 10 3]),
 (7,7,[.val 0 59,.val 4 5,.val 10 4,.cells 11 [.str,.sl 9],.ptr 11 11 0,.val 12 3]),
 (7,3000011,[.val 0 59,.val 4 5,.val 10 4,.cells 11 [.str,.sl 9],.ptr 11 11 0,.val 12 3,.cells 13 [.u8,.u8,.u8,.u8,.u8,.u8,.u8,.u8,.u8,.u8,.u8,.u8,.int .u16],.ptr 13 13 0]),
 (7,3000020,[.val 0 59,.val 4 5,.val 10 4,.cells 11 [.str,.sl 9],.ptr 11 11 0,.val 12 3,.cells 13 [.u8,.u8,.u8,.u8,.u8,.u8,.u8,.u8,.u8,.u8,.u8,.u8,.int .u16],.ptr 13 13 0,.val 14 3,.cells 17 [.int .i64,.str,.str,.str,.str,.str,.str,.str,.str,.str,.int .u64,.int .u64,.int .u64,.bsl,.int .i64,.int .i64],.ptr 17 17 0,.cells 20 [.int .i64,.int .i64,.bsl],.ptr 20 20 0,.val 21 37,.val 22 34]),
 (10,4,[.val 0 5,.val 1 5,.val 2 5,.cells 6 [.str,.sl 9],.ptr 6 6 0,.cellsR 7 [.imm (.str),.own 20701 75 9 false],.ptr 7 7 0,.val 8 95,.val 9 3]),
 (10,3000008,[.val 0 5,.val 1 5,.val 2 5,.cells 6 [.str,.sl 9],.ptr 6 6 0,.cellsR 7 [.imm (.str),.own 20701 75 9 false],.ptr 7 7 0,.val 8 95,.val 9 3,.cells 10 [.str,.str,.int .u64,.int .i64,.int .i64,.int .i64,.int .i64,.int .i64,.int .i64],.ptr 10 10 0]),
 (10,3000010,[.val 0 5,.val 1 5,.val 2 5,.cells 6 [.str,.sl 9],.ptr 6 6 0,.cellsR 7 [.imm (.str),.own 20701 75 9 false],.ptr 7 7 0,.val 8 95,.val 9 3,.cells 10 [.str,.str,.int .u64,.int .i64,.int .i64,.int .i64,.int .i64,.int .i64,.int .i64],.ptr 10 10 0]),
 (20,2,[.cells 2 [.str,.str,.str,.sl 8],.ptr 2 2 0,.cells 3 [.str,.str,.str],.ptr 3 3 0,.cells 4 [.str,.str,.str,.int .u64,.int .i64,.int .i64,.int .i64,.bsl],.ptr 4 4 0,.val 5 4,.val 6 3]),
 (23,3,[.cells 4 [.str,.sl 9],.ptr 4 4 0,.cells 11 [.bsl,.int .i64],.ptr 5 11 0,.cells 6 [.str,.sl 9],.ptr 6 6 0]),
 (23,6,[.cells 4 [.str,.sl 9],.ptr 4 4 0,.cells 11 [.bsl,.int .i64],.ptr 5 11 0,.cells 6 [.str,.sl 9],.ptr 6 6 0,.cells 7 [.str,.str,.int .u64,.int .i64,.int .i64,.int .i64,.int .i64,.int .i64,.int .i64],.ptr 7 7 0,.val 8 3]),
 (24,3000005,[.cells 1 [.u8,.u8,.u8,.u8,.u8,.u8,.u8,.u8,.u8,.u8,.u8,.u8,.int .u16],.ptr 1 1 0,.val 2 43,.val 3 3,.val 4 3,.cells 5 [.str,.int .i64,.int .i64,.int .i64,.int .u64],.ptr 5 5 0]),
 (24,3000007,[.cells 1 [.u8,.u8,.u8,.u8,.u8,.u8,.u8,.u8,.u8,.u8,.u8,.u8,.int .u16],.ptr 1 1 0,.val 2 43,.val 3 3,.cells 5 [.str,.int .i64,.int .i64,.int .i64,.int .u64],.ptr 5 5 0]),
 (24,3000009,[.cells 1 [.u8,.u8,.u8,.u8,.u8,.u8,.u8,.u8,.u8,.u8,.u8,.u8,.int .u16],.ptr 1 1 0,.val 2 43,.val 3 3,.cells 5 [.str,.int .i64,.int .i64,.int .i64,.int .u64],.ptr 5 5 0]),
 (24,3000013,[.cells 1 [.u8,.u8,.u8,.u8,.u8,.u8,.u8,.u8,.u8,.u8,.u8,.u8,.int .u16],.ptr 1 1 0,.val 2 43,.val 3 3,.rowB 6 5 false]),
 (24,3000017,[.cells 1 [.u8,.u8,.u8,.u8,.u8,.u8,.u8,.u8,.u8,.u8,.u8,.u8,.int .u16],.ptr 1 1 0,.val 2 43,.val 3 3,.rowB 6 5 false,.val 8 3,.val 9 34]),
 (24,3000020,[.cells 1 [.u8,.u8,.u8,.u8,.u8,.u8,.u8,.u8,.u8,.u8,.u8,.u8,.int .u16],.ptr 1 1 0,.val 2 43,.val 3 3,.rowB 6 5 false,.val 8 3,.val 9 34,.cells 10 [.int .i64,.str,.str,.str,.int .i64,.str,.bsl,.str,.str,.bsl],.ptr 10 10 0]),
 (24,3000022,[.cells 1 [.u8,.u8,.u8,.u8,.u8,.u8,.u8,.u8,.u8,.u8,.u8,.u8,.int .u16],.ptr 1 1 0,.val 2 43,.rowB 6 5 false,.val 9 34,.cells 10 [.int .i64,.str,.str,.str,.int .i64,.str,.bsl,.str,.str,.bsl],.ptr 10 10 0]),
 (24,3000026,[.cells 1 [.u8,.u8,.u8,.u8,.u8,.u8,.u8,.u8,.u8,.u8,.u8,.u8,.int .u16],.ptr 1 1 0,.val 2 43,.val 3 3,.rowB 6 5 false,.cells 10 [.int .i64,.str,.str,.str,.int .i64,.str,.bsl,.str,.str,.bsl],.ptr 10 10 0,.cells 11 [.bool,.str,.str,.str,.int .i64,.int .u64,.int .i64,.int .i64,.str,.str],.ptr 11 11 0,.val 12 34,.val 13 9,.val 14 3]),
 (24,3000038,[.cells 1 [.u8,.u8,.u8,.u8,.u8,.u8,.u8,.u8,.u8,.u8,.u8,.u8,.int .u16],.ptr 1 1 0,.val 2 43,.val 3 3,.rowB 6 5 false,.cells 10 [.int .i64,.str,.str,.str,.int .i64,.str,.bsl,.str,.str,.bsl],.ptr 10 10 0,.cells 11 [.bool,.str,.str,.str,.int .i64,.int .u64,.int .i64,.int .i64,.str,.str],.ptr 11 11 0,.val 13 9,.val 14 3,.val 15 43,.cells 17 [.str,.str,.str],.ptr 17 17 0]),
 (24,3000042,[.cells 1 [.u8,.u8,.u8,.u8,.u8,.u8,.u8,.u8,.u8,.u8,.u8,.u8,.int .u16],.ptr 1 1 0,.val 2 43,.rowB 6 5 false,.val 9 34,.cells 10 [.int .i64,.str,.str,.str,.int .i64,.str,.bsl,.str,.str,.bsl],.ptr 10 10 0]),
 (26,4,[.cells 2 [.str,.sl 9],.ptr 2 2 0,.cells 3 [.str,.sl 9],.ptr 3 3 0,.val 4 4,.val 5 3]),
 (29,6,[.cells 1 [.str,.sl 9],.ptr 1 1 0,.val 2 37,.val 3 3]),
 (31,3,[.val 1 9,.val 2 9,.cells 3 [.str,.sl 9],.ptr 3 3 0,.val 8 3,.val 9 3,.val 10 3]),
 (55,9,[.cells 2 [.str,.str,.str,.sl 8],.ptr 2 2 0,.cells 3 [.str,.str,.str,.int .u64,.int .i64,.int .i64,.int .i64,.bsl],.ptr 3 3 0,.cells 4 [.str,.str,.str,.sl 8],.ptr 4 4 0,.rowL 8 51 8 false,.val 28 30,.val 29 3,.val 30 3]),
 (63,1000023,[.val 0 3]),
 (64,2000001,[.cells 1 [.int .i64,.str,.str,.str,.int .i64,.str,.bsl,.str,.str,.bsl],.ptr 1 1 0,.val 13 4,.val 3 37]),
 (64,2000003,[.cells 1 [.int .i64,.str,.str,.str,.int .i64,.str,.bsl,.str,.str,.bsl],.ptr 1 1 0,.val 46 4,.val 3 37]),
 (64,2000005,[.cells 1 [.int .i64,.str,.str,.str,.int .i64,.str,.bsl,.str,.str,.bsl],.ptr 1 1 0,.val 56 4,.val 3 37]),
 (64,2000007,[.cells 1 [.int .i64,.str,.str,.str,.int .i64,.str,.bsl,.str,.str,.bsl],.ptr 1 1 0,.val 72 4,.val 3 37]),
 (64,2000009,[.cells 1 [.int .i64,.str,.str,.str,.int .i64,.str,.bsl,.str,.str,.bsl],.ptr 1 1 0,.val 113 4,.val 3 37]),
 (65,1000038,[.val 0 3]),
 (65,1000042,[.val 0 3]),
 (67,1000087,[.val 0 3]),
 (69,5,[.val 1 177,.val 4 4,.val 5 37,.val 6 3,.val 7 4,.val 9 3]),
 (82,5,[.val 0 43,.val 4 34,.val 5 3]),
 (84,3,[.cells 4 [.str,.str,.str,.sl 8],.ptr 4 4 0,.cells 12 [.bsl,.int .i64],.ptr 5 12 0,.cells 6 [.str,.str,.str,.sl 8],.ptr 6 6 0]),
 (84,7,[.cells 4 [.str,.str,.str,.sl 8],.ptr 4 4 0,.cells 12 [.bsl,.int .i64],.ptr 5 12 0,.cells 6 [.str,.str,.str,.sl 8],.ptr 6 6 0,.cells 7 [.str,.str,.str,.int .u64,.int .i64,.int .i64,.int .i64,.bsl],.ptr 7 7 0,.val 8 4,.val 9 3]),
 (85,8,[.cells 2 [.str,.str,.str,.sl 8],.ptr 2 2 0,.cells 3 [.str,.str,.str,.int .u64,.int .i64,.int .i64,.int .i64,.bsl],.ptr 3 3 0,.cells 4 [.str,.str,.str,.sl 8],.ptr 4 4 0,.rowL 7 51 8 false,.val 8 3]),
 (90,6,[.cells 1 [.str,.str,.str,.sl 8],.ptr 1 1 0,.val 2 37,.val 14 30,.val 15 3,.val 16 3]),
 (105,5,[.val 0 3,.val 2 177,.val 8 3,.val 9 3]),
 (105,7,[.val 0 3,.val 2 177,.val 8 3,.val 9 3]),
 (124,2,[.val 0 3,.val 7 177,.val 8 3,.val 9 3]),
 (135,3,[.val 0 34,.rowB 3 5 false,.val 4 3]),
 (136,2,[.rowB 3 5 false]),
 (151,2,[.rowL 0 3 1 false,.val 7 177,.val 8 3,.val 9 3]),
 (159,1000056,[.val 0 3]),
 (164,4,[.val 0 43,.val 1 3,.val 4 9,.val 5 3,.val 6 37,.val 7 3]),
 (167,2,[.val 0 9,.val 1 9,.val 4 4,.val 5 3]),
 (167,7,[.val 0 9,.val 1 9,.val 4 4,.val 5 3,.val 6 3]),
 (170,3,[.cells 0 [.bsl,.int .i64],.ptr 0 0 0,.cells 2 [.str,.str,.str,.int .u64,.int .i64,.int .i64,.int .i64,.bsl],.ptr 2 2 0,.cells 3 [.str,.str,.str,.int .u64,.int .i64,.int .i64,.int .i64,.bsl],.ptr 3 3 0,.val 4 3]),
 (171,6,[.cells 1 [.str,.str,.str,.sl 8],.ptr 1 1 0,.val 2 37,.val 3 3]),
 (173,2,[.val 0 30,.cells 3 [.str,.str,.str],.ptr 3 3 0,.val 4 3,.val 7 30,.val 8 3,.val 9 3]),
 (181,3,[.val 0 34,.rowB 3 5 false,.val 7 3,.val 8 3]),
 (193,3,[.val 0 237,.val 1 9,.val 2 9,.val 8 3,.val 9 3]),
 (197,2,[.val 0 3,.val 4 4,.val 7 177,.val 8 3,.val 9 3]),
 (210,2,[.val 0 9,.val 1 9,.val 4 4,.val 7 3,.val 8 3]),
 (212,3,[.val 1 3,.val 2 3,.val 3 4,.rowB 9 5 false,.val 10 3]),
 (215,4,[.val 0 43,.val 1 3,.cells 4 [.str,.str,.str],.ptr 4 4 0,.val 5 3,.val 6 37,.cells 7 [.str,.str,.str],.ptr 7 7 0,.psl 14 7 [0,1,2],.val 15 3,.val 16 3]),
 (223,3,[.val 0 237,.val 1 9,.val 2 9,.val 8 3,.val 9 4,.val 12 237,.val 13 3,.val 14 3]),
 (233,6,[.val 2 3,.val 3 4,.val 11 43,.val 12 3,.val 14 3,.val 15 3]),
 (235,3,[.val 0 43,.val 1 3,.val 2 3,.val 3 4,.barr 9 false,.ptr 9 9 0,.val 12 3,.val 13 3]),
 (236,3,[.val 0 268,.val 3 3,.val 9 268,.val 10 3,.val 11 3]),
 (236,11,[.rowB 6 5 false,.val 25 268,.val 26 3,.val 27 3]),
 (241,6,[.val 0 43,.val 1 3,.val 2 3,.val 3 4,.val 12 3,.val 22 3,.val 23 3]),
 (243,5,[.val 4 34,.val 10 43,.val 11 3,.val 12 3]),
 (252,3,[.val 1 9,.val 2 9,.val 6 3,.val 7 37,.val 8 3,.val 9 4,.val 13 23,.val 14 3,.val 15 3]),
 (253,6,[.cells 1 [.str,.sl 9],.ptr 1 1 0,.val 2 37,.val 15 23,.val 16 3,.val 17 3]),
 (255,3,[.val 2 3,.val 3 3,.val 6 177,.val 7 3,.val 8 3])]
def ownT:List Nat:=[136,212,257,258,134,140,144,236,60,235,179,186,238]
def rtsT:List (Nat×List Nat):=[(13,[34]),(16,[34]),(31,[3,37]),(65,[43]),(71,[4]),(87,[96]),(93,[28]),(121,[4]),(124,[3]),(132,[4]),(135,[43]),(136,[43]),(141,[43]),(143,[43]),(161,[3,4,37]),(163,[]),(164,[9,3,37]),(165,[43,3,37]),(167,[4]),(174,[4]),(175,[4]),(176,[4]),(177,[4]),(180,[4]),(181,[43]),(183,[4]),(197,[4]),(199,[4]),(202,[4]),(203,[4]),(206,[4]),(209,[43]),(211,[34]),(212,[43]),(222,[4]),(223,[3,4]),(226,[3]),(237,[4]),(242,[37]),(247,[4]),(252,[3,37]),(254,[4]),(255,[3]),(257,[23]),(258,[43]),(260,[3]),(262,[4]),(264,[3]),(266,[3]),(267,[4]),(35,[9]),(54,[3,4]),(69,[4,37]),(73,[9]),(74,[43]),(76,[4]),(91,[3,3,4]),(92,[3]),(133,[4]),(134,[43]),(138,[4]),(139,[4]),(140,[43]),(142,[43]),(144,[43]),(185,[43]),(196,[3,4,37]),(200,[43,3,37]),(221,[4]),(231,[25]),(233,[3,3,37]),(236,[43]),(241,[3,3,37]),(248,[3]),(259,[3]),(263,[3]),(11,[28]),(18,[28]),(40,[4]),(60,[43,37]),(62,[28]),(63,[43,37]),(72,[28]),(79,[43,37]),(82,[34,4]),(88,[4]),(106,[3]),(116,[4,37]),(118,[43]),(152,[3,4]),(153,[3]),(162,[3,3,37]),(166,[3,3,37]),(169,[3,3,37]),(182,[43]),(187,[43]),(198,[3,3,37]),(201,[3,3,37]),(214,[9,3,37]),(218,[37]),(235,[43]),(244,[3,3,37]),(246,[3]),(256,[3]),(10,[25]),(64,[43,37]),(70,[3]),(75,[3]),(80,[156,3,37]),(81,[3]),(83,[43,37]),(95,[43,37]),(117,[3]),(119,[3]),(145,[9]),(178,[37]),(179,[43]),(186,[43]),(189,[43]),(205,[3]),(210,[4]),(213,[37]),(227,[3,37]),(230,[3]),(238,[43]),(243,[34,4]),(30,[78,37]),(32,[43,4]),(33,[87,37]),(94,[43,37]),(126,[4]),(127,[4]),(137,[43,37]),(155,[3,37]),(188,[43]),(190,[43]),(204,[156,3,37]),(207,[34]),(216,[3,37]),(61,[43,37]),(120,[43,37]),(122,[43,4]),(128,[4]),(220,[106,37]),(229,[37]),(24,[43]),(56,[4]),(149,[106,37]),(150,[34,3,3,3,37]),(253,[37]),(184,[37]),(215,[28,3,37]),(228,[37]),(245,[37]),(251,[43,37]),(265,[37]),(96,[43,37]),(146,[28]),(157,[25,37]),(208,[43,37]),(232,[25,37]),(261,[43,37]),(66,[70,37]),(156,[139]),(225,[43,37]),(249,[129,37]),(250,[43,37]),(160,[139]),(217,[129,37]),(224,[47,182,37]),(147,[129,37]),(154,[139]),(67,[139]),(159,[139]),(68,[139]),(25,[25,43,47,4]),(22,[4]),(7,[4])]
def sp13:Abs.Spec:=fun xs bl=>match xs,bl with
 | [.int .i64 n],[]=>chk (decide (0≤n)&&decide (n≤1000)) (some (.int .u64 (Kerb.long n),[]))
 | _,_=>none
def sp16:Abs.Spec:=fun xs bl=>match xs,bl with
 | [.int .i64 n],[]=>chk (decide (0≤n)&&decide (n≤1000)) (some (.int .u64 (Kerb.session n),[]))
 | _,_=>none
def sp31:Abs.Spec:=fun xs bl=>match xs,bl with
 | [.agg [.str rl,.sl 9 els],.str n,.str i],[]=>chk (els.all Zp&&decide (els.length≤1000000)) (some (.tup [.int .i64 (Kerb.findEnt (els.map Zz) n i).1,.int .i64 (Kerb.findEnt (els.map Zz) n i).2],[]))
 | _,_=>none
def sp65:Abs.Spec:=fun xs bl=>match xs,bl with
 | [.bs b,.int .u16 how],[]=>chk (decide (b.length≤1000000)&&decide (0≤how)&&decide (how≤65535)) (some (.bs (Kerb.spoil b how),[]))
 | _,_=>none
def sp71:Abs.Spec:=fun xs bl=>match xs,bl with
 | [.int .i64 n],[]=>some (.bool (n==1||n==3),[])
 | _,_=>none
def sp87:Abs.Spec:=fun xs bl=>match xs,bl with
 | [],[]=>some (.sl 1 [.str [65,84,72],.str [66,79,83],.str [67,65,77]],[])
 | _,_=>none
def sp93:Abs.Spec:=fun xs bl=>match xs,bl with
 | [.str r,.str t],[]=>some (.agg [.str [107,114,98,116,103,116],.str t,.str r],[])
 | _,_=>none
def sp121:Abs.Spec:=fun xs bl=>match xs,bl with
 | [.bs a,.bs b],[]=>some (.bool (a==b),[])
 | _,_=>none
def sp124:Abs.Spec:=fun xs bl=>match xs,bl with
 | [.int .i64 n,.sl 1 els],[]=>chk (allInts els&&decide (els.length≤1000000)) (some (.int .i64 (Kerb.least n (intsIn els)),[]))
 | _,_=>none
def sp132:Abs.Spec:=fun xs bl=>match xs,bl with
 | [.int .i64 n,.int .i64 m],[]=>some (.bool (Yk n m),[])
 | _,_=>none
def sp135:Abs.Spec:=fun xs bl=>match xs,bl with
 | [.int .u64 k],[]=>chk (decide (0≤k)&&decide (k<18446744073709551616)) (some (.bs (Kerb.keyBytes k),[]))
 | _,_=>none
def sp136:Abs.Spec:=fun xs bl=>match xs,bl with
 | [.bs b],[]=>chk (decide (b.length≤70368744177664)) (some (.ownB (Kerb.pad b),[]))
 | _,_=>none
def sp141:Abs.Spec:=fun xs bl=>match xs,bl with
 | [.int .i64 k,.bool little],[]=>some (.bs (Kerb.header k little),[])
 | _,_=>none
def sp143:Abs.Spec:=fun xs bl=>match xs,bl with
 | [.bs b,.str s],[]=>chk (decide (b.length+s.length≤70368744177664)) (some (.bs (Kerb.putText b s),[]))
 | _,_=>none
def sp161:Abs.Spec:=fun xs bl=>match xs,bl with
 | [.bs b],[]=>some (.tup [.int .i64 (Xx b).kind,.bool (Xx b).little,.int .i64 (Xx b).err],[])
 | _,_=>none
def sp163:Abs.Spec:=fun xs bl=>match xs,bl with
 | [.ptr 0 0,.int .i64 nx,.int .i64 e],[(0,[.bs B,.int .i64 at_,.bool li,.bool bad])]=>some (.tup [],[[.bs B,.int .i64 (cond (bad || !(e==0)) at_ nx),.bool li,.bool (bad || !(e==0))]])
 | _,_=>none
def sp164:Abs.Spec:=fun xs bl=>match xs,bl with
 | [.bs b,.int .i64 pos],[]=>chk (decide (b.length≤140737488355328)) (some (.tup [.str (Yh b pos).val,.int .i64 (Yh b pos).next,.int .i64 (Yh b pos).err],[]))
 | _,_=>none
def sp165:Abs.Spec:=fun xs bl=>match xs,bl with
 | [.bs b,.int .i64 pos,.int .i64 n],[]=>chk (decide (b.length≤140737488355328)) (some (.tup [.bs (Yg b pos n).val,.int .i64 (Yg b pos n).next,.int .i64 (Yg b pos n).err],[]))
 | _,_=>none
def sp167:Abs.Spec:=fun xs bl=>match xs,bl with
 | [.str s,.str bad],[]=>chk (decide (s.length≤9223372036854775807)&&decide (bad.length≤100)) (some (.bool (Kerb.printable s bad&&decide (s.length≤39)),[]))
 | _,_=>none
def sp174:Abs.Spec:=fun xs bl=>match xs,bl with
 | [.int .i64 k],[]=>some (.bool (Kerb.isClass k),[])
 | _,_=>none
def sp175:Abs.Spec:=fun xs bl=>match xs,bl with
 | [.int .i64 k],[]=>some (.bool (Kerb.isSerial k),[])
 | _,_=>none
def sp176:Abs.Spec:=fun xs bl=>match xs,bl with
 | [.int .i64 n],[]=>some (.bool (Yk n 4294967295),[])
 | _,_=>none
def sp177:Abs.Spec:=fun xs bl=>match xs,bl with
 | [.int .i64 n],[]=>some (.bool (Yk n 255),[])
 | _,_=>none
def sp180:Abs.Spec:=fun xs bl=>match xs,bl with
 | [.str l],[]=>some (.bool (Kerb.timed l),[])
 | _,_=>none
def sp181:Abs.Spec:=fun xs bl=>match xs,bl with
 | [.int .u64 k],[]=>chk (decide (0≤k)&&decide (k<18446744073709551616)) (some (.bs (Kerb.keyBytes k),[]))
 | _,_=>none
def sp183:Abs.Spec:=fun xs bl=>match xs,bl with
 | [.int .i64 k],[]=>some (.bool (Kerb.isKind k),[])
 | _,_=>none
def sp197:Abs.Spec:=fun xs bl=>match xs,bl with
 | [.int .i64 k,.sl 1 els],[]=>chk (allInts els&&decide (els.length≤1000)) (some (.bool ((intsIn els).contains k),[]))
 | _,_=>none
def sp199:Abs.Spec:=fun xs bl=>match xs,bl with
 | [.ptr 0 0,.int .i64 nx,.int .i64 e],[(0,[.bs B,.int .i64 at_,.bool bad])]=>some (.bool (!(bad || !(e==0))),[[.bs B,.int .i64 (cond (bad || !(e==0)) at_ nx),.bool (bad || !(e==0))]])
 | _,_=>none
def sp202:Abs.Spec:=fun xs bl=>match xs,bl with
 | [.int .i64 n],[]=>some (.bool (Kerb.kaOp n),[])
 | _,_=>none
def sp203:Abs.Spec:=fun xs bl=>match xs,bl with
 | [.int .i64 n,.int .i64 m],[]=>some (.bool (Yk n m),[])
 | _,_=>none
def sp206:Abs.Spec:=fun xs bl=>match xs,bl with
 | [.str l],[]=>some (.bool (Kerb.ticketed l),[])
 | _,_=>none
def sp209:Abs.Spec:=fun xs bl=>match xs,bl with
 | [.bs b],[]=>chk (decide (b.length≤140737488355328)) (some (.bs b,[]))
 | _,_=>none
def sp211:Abs.Spec:=fun xs bl=>match xs,bl with
 | [.int .i64 c,.int .i64 n],[]=>some (.int .u64 (cond (Kerb.isClass c&&Kerb.isSerial n) (c*72057594037927936+n) 0),[])
 | _,_=>none
def sp212:Abs.Spec:=fun xs bl=>match xs,bl with
 | [.bs b,.int .i64 n,.int .i64 k,.bool little],[]=>chk (decide (k=1∨k=2∨k=4)&&decide (b.length≤70368744177664)) (some (.ownB (b++Xw n k.toNat little),[]))
 | _,_=>none
def sp222:Abs.Spec:=fun xs bl=>match xs,bl with
 | [.agg [.str x,.str y,.str z]],[]=>some (.bool (x==Kerb.krbtgt),[])
 | _,_=>none
def sp223:Abs.Spec:=fun xs bl=>match xs,bl with
 | [.sl 4 xls,.str a,.str b],[]=>chk (xls.all Kerb.isCross&&decide (xls.length≤1000000)) (some (.tup [.int .i64 (Kerb.findCross (xls.map Xz) a b).1,.bool (Kerb.findCross (xls.map Xz) a b).2],[]))
 | _,_=>none
def sp226:Abs.Spec:=fun xs bl=>match xs,bl with
 | [.int .i64 n],[]=>chk (decide (0≤n)&&decide (n≤4294967295)) (some (.int .i64 (Kerb.kaNext n),[]))
 | _,_=>none
def sp237:Abs.Spec:=fun xs bl=>match xs,bl with
 | [.int .i64 k],[]=>some (.bool (Kerb.isKind k),[])
 | _,_=>none
def sp242:Abs.Spec:=fun xs bl=>match xs,bl with
 | [.bs b,.int .i64 pos,.int .i64 n],[]=>chk (decide (b.length≤4611686018427387904)) (some (.int .i64 (Kerb.room b pos n),[]))
 | _,_=>none
def sp247:Abs.Spec:=fun xs bl=>match xs,bl with
 | [.int .i64 n,.int .i64 m],[]=>some (.bool (Yk n m),[])
 | _,_=>none
def sp252:Abs.Spec:=fun xs bl=>match xs,bl with
 | [.agg [.str rl,.sl 9 els],.str n,.str i],[]=>chk (els.all Zp&&decide (els.length≤1000000)) (some (.tup [.int .i64 (Kerb.findEnt (els.map Zz) n i).1,.int .i64 (Kerb.findEnt (els.map Zz) n i).2],[]))
 | _,_=>none
def sp254:Abs.Spec:=fun xs bl=>match xs,bl with
 | [.int .i64 n,.int .i64 m],[]=>some (.bool (Yk n m),[])
 | _,_=>none
def sp255:Abs.Spec:=fun xs bl=>match xs,bl with
 | [.sl 1 [.int .i64 n,.int .i64 m]],[]=>some (.int .i64 (if n=0 then m else n),[])
 | _,_=>none
def sp257:Abs.Spec:=fun xs bl=>match xs,bl with
 | [.sl 9 els],[]=>chk (decide (els.length≤1000000)) (some (.ownL els,[]))
 | _,_=>none
def sp258:Abs.Spec:=fun xs bl=>match xs,bl with
 | [.nils,.int .i64 n],[]=>chk (decide (0≤n)&&decide (n≤140737488355328)) (some (.ownB [],[]))
 | _,_=>none
def sp260:Abs.Spec:=fun xs bl=>match xs,bl with
 | [.bs s,.u8 c],[]=>some (.int .i64 (Kerb.indexOf c s),[])
 | _,_=>none
def sp262:Abs.Spec:=fun xs bl=>match xs,bl with
 | [.int .i64 n,.int .i64 m],[]=>some (.bool (Yk n m),[])
 | _,_=>none
def sp264:Abs.Spec:=fun xs bl=>match xs,bl with
 | [.str s,.u8 c],[]=>some (.int .i64 (Kerb.indexOf c s),[])
 | _,_=>none
def sp266:Abs.Spec:=fun xs bl=>match xs,bl with
 | [.str a,.str b],[]=>some (.int .i64 (Kerb.cmpB a b),[])
 | _,_=>none
def sp267:Abs.Spec:=fun xs bl=>match xs,bl with
 | [.int .i64 n,.int .i64 m],[]=>some (.bool (Yk n m),[])
 | _,_=>none
def sp35:Abs.Spec:=fun xs bl=>match xs,bl with
 | [.int .i64 n],[]=>chk (decide (0≤n)) (some (.str (Kerb.realm n),[]))
 | _,_=>none
def sp54:Abs.Spec:=fun xs bl=>match xs,bl with
 | [.int .i64 n],[]=>chk (decide (-9223372036854775808≤n)&&decide (n≤9223372036854775807)) (some (.tup [.int .i64 (cond (decide (n<300)) 0 (Kerb.fromSec n)),.bool (!decide (n<300))],[]))
 | _,_=>none
def sp69:Abs.Spec:=fun xs bl=>match xs,bl with
 | [.bs b,.sl 1 els],[]=>chk (allInts els&&decide (els.length≤1000)) (some (.tup [.bool (Kerb.headIs b (intsIn els)).1,.int .i64 (Kerb.headIs b (intsIn els)).2],[]))
 | _,_=>none
def sp73:Abs.Spec:=fun xs bl=>match xs,bl with
 | [.ptr 0 0],[(0,[.bs B,.int .i64 at_,.bool li,.bool bad])]=>chk (decide (B.length≤140737488355328)) (some (.str (Yh B at_).val,[[.bs B,.int .i64 (cond (bad || !((Yh B at_).err==0)) at_ (Yh B at_).next),.bool li,.bool (bad || !((Yh B at_).err==0))]]))
 | _,_=>none
def sp74:Abs.Spec:=fun xs bl=>match xs,bl with
 | [.ptr 0 0,.int .i64 n],[(0,[.bs B,.int .i64 at_,.bool li,.bool bad])]=>chk (decide (B.length≤140737488355328)) (some (.bs (Yg B at_ n).val,[[.bs B,.int .i64 (cond (bad || !((Yg B at_ n).err==0)) at_ (Yg B at_ n).next),.bool li,.bool (bad || !((Yg B at_ n).err==0))]]))
 | _,_=>none
def sp76:Abs.Spec:=fun xs bl=>match xs,bl with
 | [.str s],[]=>chk (decide (s.length≤9223372036854775807)) (some (.bool (Kerb.validRealm s),[]))
 | _,_=>none
def sp91:Abs.Spec:=fun xs bl=>match xs,bl with
 | [.int .u64 k],[]=>chk (decide (0≤k)&&decide (k<18446744073709551616)) (some (.tup [.int .i64 (cond (Xj k) (Kerb.keyClass k) 0),.int .i64 (cond (Xj k) (Kerb.keySerial k) 0),.bool (Xj k)],[]))
 | _,_=>none
def sp92:Abs.Spec:=fun xs bl=>match xs,bl with
 | [.int .i64 i,.int .i64 l],[]=>some (.int .i64 (Kerb.tEnd i l),[])
 | _,_=>none
def sp133:Abs.Spec:=fun xs bl=>match xs,bl with
 | [.int .u64 k],[]=>chk (decide (0≤k)&&decide (k<18446744073709551616)) (some (.bool (Xj k),[]))
 | _,_=>none
def sp134:Abs.Spec:=fun xs bl=>match xs,bl with
 | [.bs b,.int .i64 n,.bool little],[]=>chk (decide (b.length≤70368744177664)) (some (.ownB (b++Xw n 4 little),[]))
 | _,_=>none
def sp138:Abs.Spec:=fun xs bl=>match xs,bl with
 | [.str s],[]=>chk (decide (s.length≤9223372036854775807)) (some (.bool (Kerb.validName s),[]))
 | _,_=>none
def sp139:Abs.Spec:=fun xs bl=>match xs,bl with
 | [.str s],[]=>chk (decide (s.length≤9223372036854775807)) (some (.bool (Kerb.validInst s),[]))
 | _,_=>none
def sp140:Abs.Spec:=fun xs bl=>match xs,bl with
 | [.bs b,.int .i64 n],[]=>chk (decide (b.length≤70368744177664)) (some (.ownB (b++Xw n 1 false),[]))
 | _,_=>none
def sp142:Abs.Spec:=fun xs bl=>match xs,bl with
 | [.bs b,.agg [.str x,.str y,.str z]],[]=>chk (decide (b.length+x.length+y.length+z.length≤70368744170000)) (some (.bs (Kerb.putPrin b ⟨x,y,z⟩),[]))
 | _,_=>none
def sp144:Abs.Spec:=fun xs bl=>match xs,bl with
 | [.bs b,.int .i64 n,.bool little],[]=>chk (decide (b.length≤70368744177664)) (some (.ownB (b++Xw n 2 little),[]))
 | _,_=>none
def sp185:Abs.Spec:=fun xs bl=>match xs,bl with
 | [.int .i64 k,.bool little],[]=>some (.bs (Kerb.header k little),[])
 | _,_=>none
def sp196:Abs.Spec:=fun xs bl=>match xs,bl with
 | [.bs b],[]=>some (.tup [.int .i64 (Xx b).kind,.bool (Xx b).little,.int .i64 (Xx b).err],[])
 | _,_=>none
def sp200:Abs.Spec:=fun xs bl=>match xs,bl with
 | [.bs b,.int .i64 pos,.int .i64 n],[]=>chk (decide (b.length≤140737488355328)) (some (.tup [.bs (Yg b pos n).val,.int .i64 (Yg b pos n).next,.int .i64 (Yg b pos n).err],[]))
 | _,_=>none
def sp221:Abs.Spec:=fun xs bl=>match xs,bl with
 | [.int .i64 a,.int .i64 b,.int .i64 s],[]=>some (.bool (Kerb.near a b s),[])
 | _,_=>none
def sp231:Abs.Spec:=fun xs bl=>match xs,bl with
 | [.agg [.str rl,.sl 9 els],.int .i64 i,.agg [.str en,.str ei,.int .u64 ek,.int .i64 ev,.int .i64 ex,.int .i64 em,.int .i64 ea,.int .i64 ef,.int .i64 et]],[]=>chk (els.all Zp&&decide (els.length≤1000000)&&decide (0≤i)&&decide (i<els.length)) (some (.agg [.str (Kerb.setEnt (Yz rl (els.map Zz)) i (Zq en ei ek ev ex em ea ef et)).realm,.sl 9 ((Kerb.setEnt (Yz rl (els.map Zz)) i (Zq en ei ek ev ex em ea ef et)).entries.map Yq)],[]))
 | _,_=>none
def sp233:Abs.Spec:=fun xs bl=>match xs,bl with
 | [.bs b,.int .i64 pos,.int .i64 k,.bool little],[]=>chk (decide (b.length≤140737488355328)&&decide (0≤k)&&decide (k≤4)) (some (.tup [.int .i64 (Zd b pos k little).val,.int .i64 (Zd b pos k little).next,.int .i64 (Zd b pos k little).err],[]))
 | _,_=>none
def sp236:Abs.Spec:=fun xs bl=>match xs,bl with
 | [.sl 1 els],[]=>chk (allB els&&decide ((catB els).length≤140737488355328)&&decide (els.length≤1000)) (some (.ownB (catB els),[]))
 | _,_=>none
def sp241:Abs.Spec:=fun xs bl=>match xs,bl with
 | [.bs b,.int .i64 pos,.int .i64 k,.bool little],[]=>chk (decide (b.length≤4611686018427387904)&&decide (0≤k)&&decide (k≤4)) (some (.tup [.int .i64 (Zd b pos k little).val,.int .i64 (Zd b pos k little).next,.int .i64 (Zd b pos k little).err],[]))
 | _,_=>none
def sp248:Abs.Spec:=fun xs bl=>match xs,bl with
 | [.bs s,.u8 c],[]=>some (.int .i64 (Kerb.indexOf c s),[])
 | _,_=>none
def sp259:Abs.Spec:=fun xs bl=>match xs,bl with
 | [.str s,.u8 c],[]=>some (.int .i64 (Kerb.indexOf c s),[])
 | _,_=>none
def sp263:Abs.Spec:=fun xs bl=>match xs,bl with
 | [.str a,.str b],[]=>some (.int .i64 (Kerb.cmpB a b),[])
 | _,_=>none
def sp11:Abs.Spec:=fun xs bl=>match xs,bl with
 | [.int .i64 n],[]=>chk (decide (0≤n)&&decide (n≤4611686018427387904)) (some (.agg [.str (Kerb.user n).name,.str (Kerb.user n).inst,.str (Kerb.user n).realm],[]))
 | _,_=>none
def sp18:Abs.Spec:=fun xs bl=>match xs,bl with
 | [.int .i64 n],[]=>chk (decide (0≤n)&&decide (n≤4611686018427387904)) (some (.agg [.str (Kerb.service n).name,.str (Kerb.service n).inst,.str (Kerb.service n).realm],[]))
 | _,_=>none
def sp40:Abs.Spec:=fun xs bl=>match xs,bl with
 | [.int .u64 k],[]=>chk (decide (0≤k)&&decide (k<18446744073709551616)) (some (.bool (Xj k),[]))
 | _,_=>none
def sp60:Abs.Spec:=fun xs bl=>match xs,bl with
 | [.agg [.str lb,.int .i64 t,.int .i64 st,.int .i64 en,.int .u64 k]],[]=>chk (decide (0≤k)&&decide (k<18446744073709551616)) (some (.tup [.ownB (Yb ⟨lb,t,st,en,k⟩).val,.int .i64 (Yb ⟨lb,t,st,en,k⟩).err],[]))
 | _,_=>none
def sp62:Abs.Spec:=fun xs bl=>match xs,bl with
 | [.int .i64 n,.int .i64 m],[]=>chk (decide (0≤n)&&decide (0≤m)) (some (.agg [.str Kerb.krbtgt,.str (Kerb.realm m),.str (Kerb.realm n)],[]))
 | _,_=>none
def sp63:Abs.Spec:=fun xs bl=>match xs,bl with
 | [.int .i64 kd,.int .u64 k,.bs bd],[]=>chk (decide (0≤k)&&decide (k<18446744073709551616)) (some (.tup [.bs (Kerb.makeBox kd k bd).val,.int .i64 (Kerb.makeBox kd k bd).err],[]))
 | _,_=>none
def sp72:Abs.Spec:=fun xs bl=>match xs,bl with
 | [.ptr 0 0],[(0,[.bs B,.int .i64 at_,.bool li,.bool bad])]=>chk (decide (B.length≤140737488355328)) (some (.agg [.str (Kerb.rdPrin B at_ bad).p.name,.str (Kerb.rdPrin B at_ bad).p.inst,.str (Kerb.rdPrin B at_ bad).p.realm],[[.bs B,.int .i64 (Kerb.rdPrin B at_ bad).pos,.bool li,.bool (Kerb.rdPrin B at_ bad).bad]]))
 | _,_=>none
def sp79:Abs.Spec:=fun xs bl=>match xs,bl with
 | [.agg [.int .i64 op,.int .i64 cd,.bs bx]],[]=>some (.tup [.bs (Xv ⟨op,cd,bx⟩).val,.int .i64 (Xv ⟨op,cd,bx⟩).err],[])
 | _,_=>none
def sp82:Abs.Spec:=fun xs bl=>match xs,bl with
 | [.bs b],[]=>chk (decide (b.length≤4611686018427387904)) (some (.tup [.int .u64 (Kerb.keyRead b).1,.bool (Kerb.keyRead b).2],[]))
 | _,_=>none
def sp88:Abs.Spec:=fun xs bl=>match xs,bl with
 | [.agg [.str a,.str b,.str c]],[]=>chk (decide (a.length≤9223372036854775807)&&decide (b.length≤9223372036854775807)&&decide (c.length≤9223372036854775807)) (some (.bool (Kerb.Prin.valid ⟨a,b,c⟩),[]))
 | _,_=>none
def sp106:Abs.Spec:=fun xs bl=>match xs,bl with
 | [.int .u64 k],[]=>chk (decide (0≤k)&&decide (k<18446744073709551616)) (some (.int .i64 (Kerb.classOf k),[]))
 | _,_=>none
def sp116:Abs.Spec:=fun xs bl=>match xs,bl with
 | [.bs b,.sl 1 els],[]=>chk (allInts els&&decide (els.length≤1000)) (some (.tup [.bool (Kerb.headIs b (intsIn els)).1,.int .i64 (Kerb.headIs b (intsIn els)).2],[]))
 | _,_=>none
def sp118:Abs.Spec:=fun xs bl=>match xs,bl with
 | [.ptr 0 0,.int .i64 n],[(0,[.bs B,.int .i64 at_,.bool bad])]=>chk (decide (B.length≤140737488355328)) (some (.bs (Kerb.pBytes B n at_ bad).val,[[.bs B,.int .i64 (Kerb.pBytes B n at_ bad).pos,.bool (Kerb.pBytes B n at_ bad).bad]]))
 | _,_=>none
def sp152:Abs.Spec:=fun xs bl=>match xs,bl with
 | [.int .i64 n,.int .i64 w,.sl 1 els],[]=>chk (allInts els&&decide (els.length≤1000000)&&(intsIn els).all Kerb.isI64) (some (.tup [.int .i64 (Kerb.grantLife n w (intsIn els)).1,.bool (Kerb.grantLife n w (intsIn els)).2],[]))
 | _,_=>none
def sp153:Abs.Spec:=fun xs bl=>match xs,bl with
 | [.int .u64 k],[]=>chk (decide (0≤k)&&decide (k<18446744073709551616)) (some (.int .i64 (Kerb.classOf k),[]))
 | _,_=>none
def sp162:Abs.Spec:=fun xs bl=>match xs,bl with
 | [.bs b,.int .i64 pos],[]=>chk (decide (b.length≤140737488355328)) (some (.tup [.int .i64 (Zd b pos 1 false).val,.int .i64 (Zd b pos 1 false).next,.int .i64 (Zd b pos 1 false).err],[]))
 | _,_=>none
def sp166:Abs.Spec:=fun xs bl=>match xs,bl with
 | [.bs b,.int .i64 pos,.bool little],[]=>chk (decide (b.length≤140737488355328)) (some (.tup [.int .i64 (Zd b pos 2 little).val,.int .i64 (Zd b pos 2 little).next,.int .i64 (Zd b pos 2 little).err],[]))
 | _,_=>none
def sp169:Abs.Spec:=fun xs bl=>match xs,bl with
 | [.bs b,.int .i64 pos,.bool little],[]=>chk (decide (b.length≤140737488355328)) (some (.tup [.int .i64 (Zd b pos 4 little).val,.int .i64 (Zd b pos 4 little).next,.int .i64 (Zd b pos 4 little).err],[]))
 | _,_=>none
def sp182:Abs.Spec:=fun xs bl=>match xs,bl with
 | [.bs b],[]=>chk (decide (b.length≤70368744177664)) (some (.bs (Kerb.pad b),[]))
 | _,_=>none
def sp187:Abs.Spec:=fun xs bl=>match xs,bl with
 | [.bs b,.str s],[]=>chk (decide (b.length+s.length≤70368744177664)) (some (.bs (Kerb.putText b s),[]))
 | _,_=>none
def sp198:Abs.Spec:=fun xs bl=>match xs,bl with
 | [.bs b,.int .i64 pos],[]=>chk (decide (b.length≤4611686018427387904)) (some (.tup [.int .i64 (Zd b pos 1 false).val,.int .i64 (Zd b pos 1 false).next,.int .i64 (Zd b pos 1 false).err],[]))
 | _,_=>none
def sp201:Abs.Spec:=fun xs bl=>match xs,bl with
 | [.bs b,.int .i64 pos,.bool little],[]=>chk (decide (b.length≤4611686018427387904)) (some (.tup [.int .i64 (Zd b pos 2 little).val,.int .i64 (Zd b pos 2 little).next,.int .i64 (Zd b pos 2 little).err],[]))
 | _,_=>none
def sp214:Abs.Spec:=fun xs bl=>match xs,bl with
 | [.bs b,.int .i64 pos],[]=>chk (decide (b.length≤4611686018427387904)) (some (.tup [.str (Yh b pos).val,.int .i64 (Yh b pos).next,.int .i64 (Yh b pos).err],[]))
 | _,_=>none
def sp218:Abs.Spec:=fun xs bl=>match xs,bl with
 | [.int .i64 i,.int .i64 l,.int .i64 n,.int .i64 s],[]=>some (.int .i64 (Kerb.stateErr i l n s),[])
 | _,_=>none
def sp235:Abs.Spec:=fun xs bl=>match xs,bl with
 | [.bs b,.int .i64 n,.int .i64 k,.bool little],[]=>chk (decide (k=1∨k=2∨k=4)&&decide (b.length≤70368744177664)) (some (.ownB (b++Xw n k.toNat little),[]))
 | _,_=>none
def sp244:Abs.Spec:=fun xs bl=>match xs,bl with
 | [.bs b,.int .i64 pos,.bool little],[]=>chk (decide (b.length≤4611686018427387904)) (some (.tup [.int .i64 (Zd b pos 4 little).val,.int .i64 (Zd b pos 4 little).next,.int .i64 (Zd b pos 4 little).err],[]))
 | _,_=>none
def sp246:Abs.Spec:=fun xs bl=>match xs,bl with
 | [.str s,.u8 c],[]=>some (.int .i64 (Kerb.indexOf c s),[])
 | _,_=>none
def sp256:Abs.Spec:=fun xs bl=>match xs,bl with
 | [.str a,.str b],[]=>some (.int .i64 (Kerb.cmpB a b),[])
 | _,_=>none
def sp10:Abs.Spec:=fun xs bl=>match xs,bl with
 | [.u8 lf,.u8 xp,.u8 bd],[]=>some (.agg [.str (Kerb.simpleDb lf xp bd).realm,.sl 9 ((Kerb.simpleDb lf xp bd).entries.map Yq)],[])
 | _,_=>none
def sp64:Abs.Spec:=fun xs bl=>match xs,bl with
 | [.agg [.int .i64 op,.str ux,.str uy,.str uz,.int .i64 kv,.str rl,.bs tk,.str sv,.str ins,.bs bx]],[]=>chk (decide (ux.length≤9223372036854775807)&&decide (uy.length≤9223372036854775807)&&decide (uz.length≤9223372036854775807)&&decide (rl.length≤9223372036854775807)&&decide (sv.length≤9223372036854775807)&&decide (ins.length≤9223372036854775807)) (some (.tup [.bs (Yf ⟨op,⟨ux,uy,uz⟩,kv,rl,tk,sv,ins,bx⟩).val,.int .i64 (Yf ⟨op,⟨ux,uy,uz⟩,kv,rl,tk,sv,ins,bx⟩).err],[]))
 | _,_=>none
def sp70:Abs.Spec:=fun xs bl=>match xs,bl with
 | [.ptr 0 0],[(0,[.bs B,.int .i64 at_,.bool li,.bool bad])]=>chk (decide (B.length≤140737488355328)) (some (.int .i64 (Zd B at_ 1 false).val,[[.bs B,.int .i64 (cond (bad || !((Zd B at_ 1 false).err==0)) at_ (Zd B at_ 1 false).next),.bool li,.bool (bad || !((Zd B at_ 1 false).err==0))]]))
 | _,_=>none
def sp75:Abs.Spec:=fun xs bl=>match xs,bl with
 | [.ptr 0 0],[(0,[.bs B,.int .i64 at_,.bool li,.bool bad])]=>chk (decide (B.length≤140737488355328)) (some (.int .i64 (Zd B at_ 2 li).val,[[.bs B,.int .i64 (cond (bad || !((Zd B at_ 2 li).err==0)) at_ (Zd B at_ 2 li).next),.bool li,.bool (bad || !((Zd B at_ 2 li).err==0))]]))
 | _,_=>none
def sp80:Abs.Spec:=fun xs bl=>match xs,bl with
 | [.bs b],[]=>chk (decide (b.length≤140737488355328)) (some (.tup [.agg [.int .i64 (Yp b).box.kind,.int .u64 (Yp b).box.key,.bs (Yp b).box.body],.int .i64 (Yp b).n,.int .i64 (Yp b).err],[]))
 | _,_=>none
def sp81:Abs.Spec:=fun xs bl=>match xs,bl with
 | [.ptr 0 0],[(0,[.bs B,.int .i64 at_,.bool li,.bool bad])]=>chk (decide (B.length≤140737488355328)) (some (.int .i64 (Zd B at_ 4 li).val,[[.bs B,.int .i64 (cond (bad || !((Zd B at_ 4 li).err==0)) at_ (Zd B at_ 4 li).next),.bool li,.bool (bad || !((Zd B at_ 4 li).err==0))]]))
 | _,_=>none
def sp83:Abs.Spec:=fun xs bl=>match xs,bl with
 | [.agg [.str lb,.int .i64 t,.int .u64 k,.int .i64 st,.int .i64 en,.int .i64 kv,.str x,.str y,.str z,.bs tk]],[]=>chk (decide (x.length≤9223372036854775807)&&decide (y.length≤9223372036854775807)&&decide (z.length≤9223372036854775807)&&decide (0≤k)&&decide (k<18446744073709551616)) (some (.tup [.bs (Yn ⟨lb,t,k,st,en,kv,⟨x,y,z⟩,tk⟩).val,.int .i64 (Yn ⟨lb,t,k,st,en,kv,⟨x,y,z⟩,tk⟩).err],[]))
 | _,_=>none
def sp95:Abs.Spec:=fun xs bl=>match xs,bl with
 | [.int .i64 kd,.int .u64 k,.bs bd],[]=>chk (decide (0≤k)&&decide (k<18446744073709551616)) (some (.tup [.bs (Kerb.makeBox kd k bd).val,.int .i64 (Kerb.makeBox kd k bd).err],[]))
 | _,_=>none
def sp117:Abs.Spec:=fun xs bl=>match xs,bl with
 | [.ptr 0 0],[(0,[.bs B,.int .i64 at_,.bool bad])]=>chk (decide (B.length≤140737488355328)) (some (.int .i64 (Xy B 1 at_ bad).val,[[.bs B,.int .i64 (Xy B 1 at_ bad).pos,.bool (Xy B 1 at_ bad).bad]]))
 | _,_=>none
def sp119:Abs.Spec:=fun xs bl=>match xs,bl with
 | [.ptr 0 0],[(0,[.bs B,.int .i64 at_,.bool bad])]=>chk (decide (B.length≤140737488355328)) (some (.int .i64 (Xy B 2 at_ bad).val,[[.bs B,.int .i64 (Xy B 2 at_ bad).pos,.bool (Xy B 2 at_ bad).bad]]))
 | _,_=>none
def sp145:Abs.Spec:=fun xs bl=>match xs,bl with
 | [.ptr 0 0],[(0,[.bs B,.int .i64 at_,.bool bad])]=>chk (decide (B.length≤140737488355328)) (some (.str (Kerb.pText B at_ bad).val,[[.bs B,.int .i64 (Kerb.pText B at_ bad).pos,.bool (Kerb.pText B at_ bad).bad]]))
 | _,_=>none
def sp178:Abs.Spec:=fun xs bl=>match xs,bl with
 | [.agg [.str lb,.int .i64 t,.int .i64 st,.int .i64 en,.int .u64 k]],[]=>chk (decide (0≤k)&&decide (k<18446744073709551616)) (some (.int .i64 (Yb ⟨lb,t,st,en,k⟩).err,[]))
 | _,_=>none
def sp179:Abs.Spec:=fun xs bl=>match xs,bl with
 | [.bs b,.int .i64 n,.bool little],[]=>chk (decide (b.length≤70368744177664)) (some (.ownB (b++Xw n 4 little),[]))
 | _,_=>none
def sp186:Abs.Spec:=fun xs bl=>match xs,bl with
 | [.bs b,.int .i64 n],[]=>chk (decide (b.length≤70368744177664)) (some (.ownB (b++Xw n 1 false),[]))
 | _,_=>none
def sp189:Abs.Spec:=fun xs bl=>match xs,bl with
 | [.bs b,.agg [.str x,.str y,.str z]],[]=>chk (decide (b.length+x.length+y.length+z.length≤70368744170000)) (some (.bs (Kerb.putPrin b ⟨x,y,z⟩),[]))
 | _,_=>none
def sp205:Abs.Spec:=fun xs bl=>match xs,bl with
 | [.ptr 0 0],[(0,[.bs B,.int .i64 at_,.bool bad])]=>chk (decide (B.length≤140737488355328)) (some (.int .i64 (Xy B 4 at_ bad).val,[[.bs B,.int .i64 (Xy B 4 at_ bad).pos,.bool (Xy B 4 at_ bad).bad]]))
 | _,_=>none
def sp210:Abs.Spec:=fun xs bl=>match xs,bl with
 | [.str s,.str bad],[]=>chk (decide (s.length≤9223372036854775807)) (some (.bool (Kerb.printable s bad),[]))
 | _,_=>none
def sp213:Abs.Spec:=fun xs bl=>match xs,bl with
 | [.agg [.bool li,.str x,.str y,.str z,.int .i64 ad,.int .u64 k,.int .i64 lf,.int .i64 iss,.str sv,.str ins]],[]=>chk (decide (x.length≤9223372036854775807)&&decide (y.length≤9223372036854775807)&&decide (z.length≤9223372036854775807)&&decide (sv.length≤9223372036854775807)&&decide (ins.length≤9223372036854775807)&&decide (0≤k)&&decide (k<18446744073709551616)) (some (.int .i64 (Yj li ⟨x,y,z⟩ ad k lf iss sv ins).err,[]))
 | _,_=>none
def sp227:Abs.Spec:=fun xs bl=>match xs,bl with
 | [.agg [.str rl,.sl 9 els],.str n,.str i,.int .i64 now,.int .i64 bit,.int .i64 xp,.int .i64 br],[]=>chk (els.all Zp&&decide (els.length≤1000000)) (some (.tup [.int .i64 (Kerb.useEnt (Yz rl (els.map Zz)) n i now bit xp br).1,.int .i64 (Kerb.useEnt (Yz rl (els.map Zz)) n i now bit xp br).2],[]))
 | _,_=>none
def sp230:Abs.Spec:=fun xs bl=>match xs,bl with
 | [.agg [.str en,.str ei,.int .u64 ek,.int .i64 ev,.int .i64 ex,.int .i64 em,.int .i64 ea,.int .i64 ef,.int .i64 et],.agg [.str fn,.str fi,.int .u64 fk,.int .i64 fv,.int .i64 fx,.int .i64 fm,.int .i64 fa,.int .i64 ff,.int .i64 ft]],[]=>some (.int .i64 (if Kerb.cmpB en fn=0 then Kerb.cmpB ei fi else Kerb.cmpB en fn),[])
 | _,_=>none
def sp238:Abs.Spec:=fun xs bl=>match xs,bl with
 | [.bs b,.int .i64 n,.bool little],[]=>chk (decide (b.length≤70368744177664)) (some (.ownB (b++Xw n 2 little),[]))
 | _,_=>none
def sp243:Abs.Spec:=fun xs bl=>match xs,bl with
 | [.bs b],[]=>chk (decide (b.length≤4611686018427387904)) (some (.tup [.int .u64 (Kerb.keyRead b).1,.bool (Kerb.keyRead b).2],[]))
 | _,_=>none
def sp30:Abs.Spec:=fun xs bl=>match xs,bl with
 | [.bs b],[]=>chk (decide (b.length≤140737488355328)) (some (.tup [.agg [.int .i64 ((Xu b).val).op,.int .i64 ((Xu b).val).code,.bs ((Xu b).val).box],.int .i64 (Xu b).err],[]))
 | _,_=>none
def sp32:Abs.Spec:=fun xs bl=>match xs,bl with
 | [.bs b,.int .i64 kd,.int .u64 k],[]=>chk (decide (b.length≤140737488355328)) (some (.tup [.bs (Kerb.openBox b kd k).1,.bool (Kerb.openBox b kd k).2],[]))
 | _,_=>none
def sp33:Abs.Spec:=fun xs bl=>match xs,bl with
 | [.bs b],[]=>chk (decide (b.length≤140737488355328)) (some (.tup [.agg [.str ((Yy b).val).label,.int .i64 ((Yy b).val).time,.int .u64 ((Yy b).val).session,.int .i64 ((Yy b).val).start,.int .i64 ((Yy b).val).stop,.int .i64 ((Yy b).val).kvno,.str ((Yy b).val).service.name,.str ((Yy b).val).service.inst,.str ((Yy b).val).service.realm,.bs ((Yy b).val).ticket],.int .i64 (Yy b).err],[]))
 | _,_=>none
def sp94:Abs.Spec:=fun xs bl=>match xs,bl with
 | [.agg [.str lb,.int .i64 t,.int .i64 st,.int .i64 en,.int .u64 k]],[]=>chk (decide (0≤k)&&decide (k<18446744073709551616)) (some (.tup [.bs (Yb ⟨lb,t,st,en,k⟩).val,.int .i64 (Yb ⟨lb,t,st,en,k⟩).err],[]))
 | _,_=>none
def sp126:Abs.Spec:=fun xs bl=>match xs,bl with
 | [.str s],[]=>chk (decide (s.length≤9223372036854775807)) (some (.bool (Kerb.validName s),[]))
 | _,_=>none
def sp127:Abs.Spec:=fun xs bl=>match xs,bl with
 | [.str s],[]=>chk (decide (s.length≤9223372036854775807)) (some (.bool (Kerb.validInst s),[]))
 | _,_=>none
def sp137:Abs.Spec:=fun xs bl=>match xs,bl with
 | [.agg [.bool li,.str x,.str y,.str z,.int .i64 ad,.int .u64 k,.int .i64 lf,.int .i64 iss,.str sv,.str ins]],[]=>chk (decide (x.length≤9223372036854775807)&&decide (y.length≤9223372036854775807)&&decide (z.length≤9223372036854775807)&&decide (sv.length≤9223372036854775807)&&decide (ins.length≤9223372036854775807)&&decide (0≤k)&&decide (k<18446744073709551616)) (some (.tup [.bs (Xq (Yj li ⟨x,y,z⟩ ad k lf iss sv ins)).val,.int .i64 (Xq (Yj li ⟨x,y,z⟩ ad k lf iss sv ins)).err],[]))
 | _,_=>none
def sp155:Abs.Spec:=fun xs bl=>match xs,bl with
 | [.agg [.str rl,.sl 9 els],.str n,.str i,.int .i64 now],[]=>chk (els.all Zp&&decide (els.length≤1000000)) (some (.tup [.int .i64 (Kerb.clientEnt (Yz rl (els.map Zz)) n i now).1,.int .i64 (Kerb.clientEnt (Yz rl (els.map Zz)) n i now).2],[]))
 | _,_=>none
def sp188:Abs.Spec:=fun xs bl=>match xs,bl with
 | [.bs b,.bs t],[]=>chk (decide (b.length+t.length≤70368744170000)) (some (.bs (Kerb.putTick b t),[]))
 | _,_=>none
def sp190:Abs.Spec:=fun xs bl=>match xs,bl with
 | [.bs b,.bs t],[]=>chk (decide (b.length+t.length≤70368744170000)) (some (.bs (Kerb.putBox b t),[]))
 | _,_=>none
def sp204:Abs.Spec:=fun xs bl=>match xs,bl with
 | [.bs b],[]=>chk (decide (b.length≤140737488355328)) (some (.tup [.agg [.int .i64 (Yp b).box.kind,.int .u64 (Yp b).box.key,.bs (Yp b).box.body],.int .i64 (Yp b).n,.int .i64 (Yp b).err],[]))
 | _,_=>none
def sp207:Abs.Spec:=fun xs bl=>match xs,bl with
 | [.ptr 0 0],[(0,[.bs B,.int .i64 at_,.bool bad])]=>chk (decide (B.length≤140737488355328)) (some (.int .u64 (Kerb.pKey B at_ bad).val,[[.bs B,.int .i64 (Kerb.pKey B at_ bad).pos,.bool (Kerb.pKey B at_ bad).bad]]))
 | _,_=>none
def sp216:Abs.Spec:=fun xs bl=>match xs,bl with
 | [.agg [.str rl,.sl 9 els],.str n,.str i,.int .i64 now],[]=>chk (els.all Zp&&decide (els.length≤1000000)) (some (.tup [.int .i64 (Kerb.serviceEnt (Yz rl (els.map Zz)) n i now).1,.int .i64 (Kerb.serviceEnt (Yz rl (els.map Zz)) n i now).2],[]))
 | _,_=>none
def sp61:Abs.Spec:=fun xs bl=>match xs,bl with
 | [.agg [.bool li,.str x,.str y,.str z,.int .i64 ad,.int .u64 k,.int .i64 lf,.int .i64 iss,.str sv,.str ins],.int .u64 key],[]=>chk (decide (x.length≤9223372036854775807)&&decide (y.length≤9223372036854775807)&&decide (z.length≤9223372036854775807)&&decide (sv.length≤9223372036854775807)&&decide (ins.length≤9223372036854775807)&&decide (0≤k)&&decide (k<18446744073709551616)&&decide (0≤key)&&decide (key<18446744073709551616)) (some (.tup [.bs (Kerb.sealTicket (Yj li ⟨x,y,z⟩ ad k lf iss sv ins) key).val,.int .i64 (Kerb.sealTicket (Yj li ⟨x,y,z⟩ ad k lf iss sv ins) key).err],[]))
 | _,_=>none
def sp120:Abs.Spec:=fun xs bl=>match xs,bl with
 | [.agg [.int .i64 op,.int .i64 cd,.bs bx]],[]=>some (.tup [.bs (Xv ⟨op,cd,bx⟩).val,.int .i64 (Xv ⟨op,cd,bx⟩).err],[])
 | _,_=>none
def sp122:Abs.Spec:=fun xs bl=>match xs,bl with
 | [.bs b,.int .i64 kd,.int .u64 k],[]=>chk (decide (b.length≤140737488355328)) (some (.tup [.bs (Kerb.openBox b kd k).1,.bool (Kerb.openBox b kd k).2],[]))
 | _,_=>none
def sp128:Abs.Spec:=fun xs bl=>match xs,bl with
 | [.str s],[]=>chk (decide (s.length≤9223372036854775807)) (some (.bool (Kerb.validRealm s),[]))
 | _,_=>none
def sp220:Abs.Spec:=fun xs bl=>match xs,bl with
 | [.bs b],[]=>chk (decide (b.length≤140737488355328)) (some (.tup [.agg [.str ((Yd b).val).label,.int .i64 ((Yd b).val).time,.int .i64 ((Yd b).val).start,.int .i64 ((Yd b).val).stop,.int .u64 ((Yd b).val).new],.int .i64 (Yd b).err],[]))
 | _,_=>none
def sp229:Abs.Spec:=fun xs bl=>match xs,bl with
 | [.agg [.str en,.str ei,.int .u64 ek,.int .i64 ev,.int .i64 ex,.int .i64 em,.int .i64 ea,.int .i64 ef,.int .i64 et]],[]=>chk (decide (en.length≤9223372036854775807)&&decide (ei.length≤9223372036854775807)&&Yv ek) (some (.int .i64 (Zq en ei ek ev ex em ea ef et).err,[]))
 | _,_=>none
def sp24:Abs.Spec:=fun xs bl=>match xs,bl with
 | [.agg [.u8 o,.u8 u,.u8 s,.u8 e,.u8 n,.u8 t,.u8 p,.u8 i,.u8 l,.u8 a,.u8 w,.u8 d,.int .u16 hw]],[]=>chk (decide (0≤hw)&&decide (hw≤65535)) (some (.bs (Kerb.KAsk.mk o u s e n t p i l a w d hw).message,[]))
 | _,_=>none
def sp56:Abs.Spec:=fun xs bl=>match xs,bl with
 | [.agg [.str a,.str b,.str c]],[]=>chk (decide (a.length≤9223372036854775807)&&decide (b.length≤9223372036854775807)&&decide (c.length≤9223372036854775807)) (some (.bool (Kerb.Prin.valid ⟨a,b,c⟩),[]))
 | _,_=>none
def sp149:Abs.Spec:=fun xs bl=>match xs,bl with
 | [.ptr 0 0,.bs bd,.str lb],[(0,[.int .i64 op,.str u1,.str u2,.str u3,.int .i64 kv,.str qr,.bs tk,.str sv,.str ins,.bs bx,.str rl,.sl 9 els,.int .i64 now,.int .i64 ad,.int .i64 sk,.int .u64 se])]=>chk (decide (bd.length≤1000000)) (some (.tup [.agg [.str (Ym bd lb now sk).val.label,.int .i64 (Ym bd lb now sk).val.time,.int .i64 (Ym bd lb now sk).val.start,.int .i64 (Ym bd lb now sk).val.stop,.int .u64 (Ym bd lb now sk).val.new],.int .i64 (Ym bd lb now sk).err],[[.int .i64 op,.str u1,.str u2,.str u3,.int .i64 kv,.str qr,.bs tk,.str sv,.str ins,.bs bx,.str rl,.sl 9 els,.int .i64 now,.int .i64 ad,.int .i64 sk,.int .u64 se]]))
 | _,_=>none
def sp150:Abs.Spec:=fun xs bl=>match xs,bl with
 | [.agg [.str rl,.sl 9 els],.sl 4 xls,.str n,.str i,.int .i64 now],[]=>chk (els.all Zp&&decide (els.length≤1000000)&&xls.all Kerb.isCross&&decide (xls.length≤1000000)&&decide (i.length≤9223372036854775807)) (some (.tup [.int .u64 (Kerb.svc (Yz rl (els.map Zz)) (xls.map Xz) n i now).key,.int .i64 (Kerb.svc (Yz rl (els.map Zz)) (xls.map Xz) n i now).kvno,.int .i64 (Kerb.svc (Yz rl (els.map Zz)) (xls.map Xz) n i now).life,.int .i64 (Kerb.svc (Yz rl (els.map Zz)) (xls.map Xz) n i now).expires,.int .i64 (Kerb.svc (Yz rl (els.map Zz)) (xls.map Xz) n i now).err],[]))
 | _,_=>none
def sp253:Abs.Spec:=fun xs bl=>match xs,bl with
 | [.agg [.str rl,.sl 9 els]],[]=>chk (decide (rl.length≤9223372036854775807)&&els.all Zp&&decide (els.length≤1000000)) (some (.int .i64 (Yz rl (els.map Zz)).err,[]))
 | _,_=>none
def sp184:Abs.Spec:=fun xs bl=>match xs,bl with
 | [.agg [.int .i64 op,.str ux,.str uy,.str uz,.int .i64 kv,.str rl,.bs tk,.str sv,.str ins,.bs bx]],[]=>chk (decide (ux.length≤9223372036854775807)&&decide (uy.length≤9223372036854775807)&&decide (uz.length≤9223372036854775807)&&decide (rl.length≤9223372036854775807)&&decide (sv.length≤9223372036854775807)&&decide (ins.length≤9223372036854775807)) (some (.int .i64 (Yf ⟨op,⟨ux,uy,uz⟩,kv,rl,tk,sv,ins,bx⟩).err,[]))
 | _,_=>none
def sp215:Abs.Spec:=fun xs bl=>match xs,bl with
 | [.bs b,.int .i64 pos],[]=>chk (decide (b.length≤4611686018427387904)) (some (.tup [.agg [.str (Kerb.prin b pos).val.name,.str (Kerb.prin b pos).val.inst,.str (Kerb.prin b pos).val.realm],.int .i64 (Kerb.prin b pos).next,.int .i64 (Kerb.prin b pos).err],[]))
 | _,_=>none
def sp228:Abs.Spec:=fun xs bl=>match xs,bl with
 | [.agg [.str rl,.sl 9 els],.int .i64 i],[]=>chk (decide (rl.length≤9223372036854775807)&&els.all Zp&&decide (els.length≤1000000)) (some (.int .i64 (if (Yz rl (els.map Zz)).err≠0 then (Yz rl (els.map Zz)).err else if i<0∨(els.length:Int)≤i then 104 else 0),[]))
 | _,_=>none
def sp245:Abs.Spec:=fun xs bl=>match xs,bl with
 | [.agg [.str lb,.int .i64 t,.int .u64 k,.int .i64 st,.int .i64 en,.int .i64 kv,.str x,.str y,.str z,.bs tk]],[]=>chk (decide (x.length≤9223372036854775807)&&decide (y.length≤9223372036854775807)&&decide (z.length≤9223372036854775807)&&decide (0≤k)&&decide (k<18446744073709551616)) (some (.int .i64 (Yn ⟨lb,t,k,st,en,kv,⟨x,y,z⟩,tk⟩).err,[]))
 | _,_=>none
def sp251:Abs.Spec:=fun xs bl=>match xs,bl with
 | [.agg [.int .u64 k,.str x,.str y,.str z,.int .i64 lf,.int .i64 kv,.bs tk,.int .i64 t],.bool little],[]=>chk (decide (x.length≤9223372036854775807)&&decide (y.length≤9223372036854775807)&&decide (z.length≤9223372036854775807)&&decide (0≤k)&&decide (k<18446744073709551616)) (some (.tup [.bs (Kerb.encodePart ⟨k,⟨x,y,z⟩,lf,kv,tk,t⟩ little).val,.int .i64 (Kerb.encodePart ⟨k,⟨x,y,z⟩,lf,kv,tk,t⟩ little).err],[]))
 | _,_=>none
def sp265:Abs.Spec:=fun xs bl=>match xs,bl with
 | [.agg [.bool li,.str x,.str y,.str z,.int .i64 ad,.int .u64 k,.int .i64 lf,.int .i64 iss,.str sv,.str ins]],[]=>chk (decide (x.length≤9223372036854775807)&&decide (y.length≤9223372036854775807)&&decide (z.length≤9223372036854775807)&&decide (sv.length≤9223372036854775807)&&decide (ins.length≤9223372036854775807)&&decide (0≤k)&&decide (k<18446744073709551616)) (some (.int .i64 (Yj li ⟨x,y,z⟩ ad k lf iss sv ins).err,[]))
 | _,_=>none
def sp96:Abs.Spec:=fun xs bl=>match xs,bl with
 | [.agg [.int .i64 op,.str ux,.str uy,.str uz,.int .i64 kv,.str rl,.bs tk,.str sv,.str ins,.bs bx]],[]=>chk (decide (ux.length≤9223372036854775807)&&decide (uy.length≤9223372036854775807)&&decide (uz.length≤9223372036854775807)&&decide (rl.length≤9223372036854775807)&&decide (sv.length≤9223372036854775807)&&decide (ins.length≤9223372036854775807)) (some (.tup [.bs (Yf ⟨op,⟨ux,uy,uz⟩,kv,rl,tk,sv,ins,bx⟩).val,.int .i64 (Yf ⟨op,⟨ux,uy,uz⟩,kv,rl,tk,sv,ins,bx⟩).err],[]))
 | _,_=>none
def sp146:Abs.Spec:=fun xs bl=>match xs,bl with
 | [.ptr 0 0],[(0,[.bs B,.int .i64 at_,.bool bad])]=>chk (decide (B.length≤140737488355328)) (some (.agg [.str (Kerb.pPrin B at_ bad).val.name,.str (Kerb.pPrin B at_ bad).val.inst,.str (Kerb.pPrin B at_ bad).val.realm],[[.bs B,.int .i64 (Kerb.pPrin B at_ bad).pos,.bool (Kerb.pPrin B at_ bad).bad]]))
 | _,_=>none
def sp157:Abs.Spec:=fun xs bl=>match xs,bl with
 | [.agg [.str rl,.sl 9 els],.int .i64 i,.agg [.str en,.str ei,.int .u64 ek,.int .i64 ev,.int .i64 ex,.int .i64 em,.int .i64 ea,.int .i64 ef,.int .i64 et]],[]=>chk (decide (rl.length≤9223372036854775807)&&els.all Zp&&decide (els.length≤1000000)&&decide (en.length≤9223372036854775807)&&decide (ei.length≤9223372036854775807)&&Yv ek) (some (.tup [.agg [.str ((Kerb.putEnt (Yz rl (els.map Zz)) i (Zq en ei ek ev ex em ea ef et)).val).realm,.sl 9 (((Kerb.putEnt (Yz rl (els.map Zz)) i (Zq en ei ek ev ex em ea ef et)).val).entries.map Yq)],.int .i64 (Kerb.putEnt (Yz rl (els.map Zz)) i (Zq en ei ek ev ex em ea ef et)).err],[]))
 | _,_=>none
def sp208:Abs.Spec:=fun xs bl=>match xs,bl with
 | [.agg [.str lb,.int .i64 t,.int .u64 k,.int .i64 st,.int .i64 en,.int .i64 kv,.str x,.str y,.str z,.bs tk]],[]=>chk (decide (x.length≤9223372036854775807)&&decide (y.length≤9223372036854775807)&&decide (z.length≤9223372036854775807)&&decide (0≤k)&&decide (k<18446744073709551616)) (some (.tup [.bs (Yn ⟨lb,t,k,st,en,kv,⟨x,y,z⟩,tk⟩).val,.int .i64 (Yn ⟨lb,t,k,st,en,kv,⟨x,y,z⟩,tk⟩).err],[]))
 | _,_=>none
def sp232:Abs.Spec:=fun xs bl=>match xs,bl with
 | [.agg [.str rl,.sl 9 els],.int .i64 i,.int .u64 k],[]=>chk (decide (rl.length≤9223372036854775807)&&els.all Zp&&decide (els.length≤1000000)&&decide (0≤k)&&decide (k<18446744073709551616)) (some (.tup [.agg [.str ((Kerb.rekey (Yz rl (els.map Zz)) i k).val).realm,.sl 9 (((Kerb.rekey (Yz rl (els.map Zz)) i k).val).entries.map Yq)],.int .i64 (Kerb.rekey (Yz rl (els.map Zz)) i k).err],[]))
 | _,_=>none
def sp261:Abs.Spec:=fun xs bl=>match xs,bl with
 | [.agg [.bool li,.str x,.str y,.str z,.int .i64 ad,.int .u64 k,.int .i64 lf,.int .i64 iss,.str sv,.str ins]],[]=>chk (decide (x.length≤9223372036854775807)&&decide (y.length≤9223372036854775807)&&decide (z.length≤9223372036854775807)&&decide (sv.length≤9223372036854775807)&&decide (ins.length≤9223372036854775807)&&decide (0≤k)&&decide (k<18446744073709551616)) (some (.tup [.bs (Xq (Yj li ⟨x,y,z⟩ ad k lf iss sv ins)).val,.int .i64 (Xq (Yj li ⟨x,y,z⟩ ad k lf iss sv ins)).err],[]))
 | _,_=>none
def sp66:Abs.Spec:=fun xs bl=>match xs,bl with
 | [.bs b],[]=>chk (decide (b.length≤140737488355328)) (some (.tup [.agg [.int .i64 ((Zh b).val).op,.str ((Zh b).val).user.name,.str ((Zh b).val).user.inst,.str ((Zh b).val).user.realm,.int .i64 ((Zh b).val).kvno,.str ((Zh b).val).realm,.bs ((Zh b).val).ticket,.str ((Zh b).val).service,.str ((Zh b).val).inst,.bs ((Zh b).val).box],.int .i64 (Zh b).err],[]))
 | _,_=>none
def sp156:Abs.Spec:=fun xs bl=>match xs,bl with
 | [.ptr 0 0,.int .i64 i],[(0,[.int .i64 op,.str u1,.str u2,.str u3,.int .i64 kv,.str qr,.bs tk,.str sv,.str ins,.bs bx,.str rl,.sl 9 els,.int .i64 now,.int .i64 ad,.int .i64 sk,.int .u64 se])]=>chk (decide (u1.length≤9223372036854775807)&&decide (u2.length≤9223372036854775807)&&decide (u3.length≤9223372036854775807)&&decide (qr.length≤9223372036854775807)&&decide (sv.length≤9223372036854775807)&&decide (ins.length≤9223372036854775807)&&decide (rl.length≤9223372036854775807)&&Yv se&&decide (tk.length≤1000000)&&decide (bx.length≤1000000)&&els.all Zp&&decide (els.length≤1000000)&&decide (Kerb.Db.err ⟨rl,els.map Zz⟩=0)&&decide (0≤i)&&decide (i<els.length)&&Kerb.kaOp op&&Yk now 4294967295) (some (.agg [.str ((Zx (Zb ⟨rl,els.map Zz⟩ i now) (Zg op 62) Zv false).db).realm,.sl 9 (((Zx (Zb ⟨rl,els.map Zz⟩ i now) (Zg op 62) Zv false).db).entries.map Yq),.bs (Zx (Zb ⟨rl,els.map Zz⟩ i now) (Zg op 62) Zv false).answer,.int .i64 ((Zx (Zb ⟨rl,els.map Zz⟩ i now) (Zg op 62) Zv false).issue).kind,.str ((Zx (Zb ⟨rl,els.map Zz⟩ i now) (Zg op 62) Zv false).issue).server.name,.str ((Zx (Zb ⟨rl,els.map Zz⟩ i now) (Zg op 62) Zv false).issue).server.inst,.str ((Zx (Zb ⟨rl,els.map Zz⟩ i now) (Zg op 62) Zv false).issue).server.realm,.str ((Zx (Zb ⟨rl,els.map Zz⟩ i now) (Zg op 62) Zv false).issue).client.name,.str ((Zx (Zb ⟨rl,els.map Zz⟩ i now) (Zg op 62) Zv false).issue).client.inst,.str ((Zx (Zb ⟨rl,els.map Zz⟩ i now) (Zg op 62) Zv false).issue).client.realm,.str ((Zx (Zb ⟨rl,els.map Zz⟩ i now) (Zg op 62) Zv false).issue).service.name,.str ((Zx (Zb ⟨rl,els.map Zz⟩ i now) (Zg op 62) Zv false).issue).service.inst,.str ((Zx (Zb ⟨rl,els.map Zz⟩ i now) (Zg op 62) Zv false).issue).service.realm,.int .u64 ((Zx (Zb ⟨rl,els.map Zz⟩ i now) (Zg op 62) Zv false).issue).session,.int .u64 ((Zx (Zb ⟨rl,els.map Zz⟩ i now) (Zg op 62) Zv false).issue).sealer,.int .u64 ((Zx (Zb ⟨rl,els.map Zz⟩ i now) (Zg op 62) Zv false).issue).granter,.bs ((Zx (Zb ⟨rl,els.map Zz⟩ i now) (Zg op 62) Zv false).issue).text,.int .i64 ((Zx (Zb ⟨rl,els.map Zz⟩ i now) (Zg op 62) Zv false).issue).issued,.int .i64 ((Zx (Zb ⟨rl,els.map Zz⟩ i now) (Zg op 62) Zv false).issue).stop,.bool (Zx (Zb ⟨rl,els.map Zz⟩ i now) (Zg op 62) Zv false).ok],[[.int .i64 op,.str u1,.str u2,.str u3,.int .i64 kv,.str qr,.bs tk,.str sv,.str ins,.bs bx,.str rl,.sl 9 els,.int .i64 now,.int .i64 ad,.int .i64 sk,.int .u64 se]]))
 | _,_=>none
def sp225:Abs.Spec:=fun xs bl=>match xs,bl with
 | [.ptr 0 0,.int .u64 key,.agg [.str al,.int .i64 at_,.int .u64 ase,.int .i64 ast,.int .i64 aen,.int .i64 akv,.str a1,.str a2,.str a3,.bs atk]],[(0,[.int .i64 op,.str u1,.str u2,.str u3,.int .i64 kv,.str qr,.bs tk,.str sv,.str ins,.bs bx,.str rl,.sl 9 els,.int .i64 now,.int .i64 ad,.int .i64 sk,.int .u64 se])]=>chk (decide (a1.length≤9223372036854775807)&&decide (a2.length≤9223372036854775807)&&decide (a3.length≤9223372036854775807)&&decide (al.length≤9223372036854775807)&&Yv ase&&Yv key) (some (.tup [.bs (Kerb.kaReplyDec op (Kerb.KaAnswer.mk al at_ ase ast aen akv ⟨a1,a2,a3⟩ atk) key).val,.int .i64 (Kerb.kaReplyDec op (Kerb.KaAnswer.mk al at_ ase ast aen akv ⟨a1,a2,a3⟩ atk) key).err],[[.int .i64 op,.str u1,.str u2,.str u3,.int .i64 kv,.str qr,.bs tk,.str sv,.str ins,.bs bx,.str rl,.sl 9 els,.int .i64 now,.int .i64 ad,.int .i64 sk,.int .u64 se]]))
 | _,_=>none
def sp249:Abs.Spec:=fun xs bl=>match xs,bl with
 | [.bs b],[]=>chk (decide (b.length≤140737488355328)) (some (.tup [.agg [.bool ((Yx b).val).little,.str ((Yx b).val).client.name,.str ((Yx b).val).client.inst,.str ((Yx b).val).client.realm,.int .i64 ((Yx b).val).address,.int .u64 ((Yx b).val).session,.int .i64 ((Yx b).val).life,.int .i64 ((Yx b).val).issued,.str ((Yx b).val).service,.str ((Yx b).val).inst],.int .i64 (Yx b).err],[]))
 | _,_=>none
def sp250:Abs.Spec:=fun xs bl=>match xs,bl with
 | [.agg [.bool li,.str x,.str y,.str z,.int .i64 ad,.int .u64 k,.int .i64 lf,.int .i64 iss,.str sv,.str ins],.int .u64 key],[]=>chk (decide (x.length≤9223372036854775807)&&decide (y.length≤9223372036854775807)&&decide (z.length≤9223372036854775807)&&decide (sv.length≤9223372036854775807)&&decide (ins.length≤9223372036854775807)&&decide (0≤k)&&decide (k<18446744073709551616)&&decide (0≤key)&&decide (key<18446744073709551616)) (some (.tup [.bs (Kerb.sealTicket (Yj li ⟨x,y,z⟩ ad k lf iss sv ins) key).val,.int .i64 (Kerb.sealTicket (Yj li ⟨x,y,z⟩ ad k lf iss sv ins) key).err],[]))
 | _,_=>none
def sp160:Abs.Spec:=fun xs bl=>match xs,bl with
 | [.ptr 0 0,.agg [.str dr,.sl 9 dls],.int .i64 i,.bs bd],[(0,[.int .i64 op,.str u1,.str u2,.str u3,.int .i64 kv,.str qr,.bs tk,.str sv,.str ins,.bs bx,.str rl,.sl 9 els,.int .i64 now,.int .i64 ad,.int .i64 sk,.int .u64 se])]=>chk (decide (u1.length≤9223372036854775807)&&decide (u2.length≤9223372036854775807)&&decide (u3.length≤9223372036854775807)&&decide (qr.length≤9223372036854775807)&&decide (sv.length≤9223372036854775807)&&decide (ins.length≤9223372036854775807)&&decide (rl.length≤9223372036854775807)&&Yv se&&decide (tk.length≤1000000)&&decide (bx.length≤1000000)&&els.all Zp&&decide (els.length≤1000000)&&dls.all Zp&&decide (dls.length≤1000000)&&decide (bd.length≤1000000)&&Kerb.kaOp op&&decide (0≤i)&&decide (i<els.length)&&decide (dr.length≤9223372036854775807)) (some (.agg [.str ((Zk ⟨rl,els.map Zz⟩ ⟨dr,dls.map Zz⟩ i op now sk bd).db).realm,.sl 9 (((Zk ⟨rl,els.map Zz⟩ ⟨dr,dls.map Zz⟩ i op now sk bd).db).entries.map Yq),.bs (Zk ⟨rl,els.map Zz⟩ ⟨dr,dls.map Zz⟩ i op now sk bd).answer,.int .i64 ((Zk ⟨rl,els.map Zz⟩ ⟨dr,dls.map Zz⟩ i op now sk bd).issue).kind,.str ((Zk ⟨rl,els.map Zz⟩ ⟨dr,dls.map Zz⟩ i op now sk bd).issue).server.name,.str ((Zk ⟨rl,els.map Zz⟩ ⟨dr,dls.map Zz⟩ i op now sk bd).issue).server.inst,.str ((Zk ⟨rl,els.map Zz⟩ ⟨dr,dls.map Zz⟩ i op now sk bd).issue).server.realm,.str ((Zk ⟨rl,els.map Zz⟩ ⟨dr,dls.map Zz⟩ i op now sk bd).issue).client.name,.str ((Zk ⟨rl,els.map Zz⟩ ⟨dr,dls.map Zz⟩ i op now sk bd).issue).client.inst,.str ((Zk ⟨rl,els.map Zz⟩ ⟨dr,dls.map Zz⟩ i op now sk bd).issue).client.realm,.str ((Zk ⟨rl,els.map Zz⟩ ⟨dr,dls.map Zz⟩ i op now sk bd).issue).service.name,.str ((Zk ⟨rl,els.map Zz⟩ ⟨dr,dls.map Zz⟩ i op now sk bd).issue).service.inst,.str ((Zk ⟨rl,els.map Zz⟩ ⟨dr,dls.map Zz⟩ i op now sk bd).issue).service.realm,.int .u64 ((Zk ⟨rl,els.map Zz⟩ ⟨dr,dls.map Zz⟩ i op now sk bd).issue).session,.int .u64 ((Zk ⟨rl,els.map Zz⟩ ⟨dr,dls.map Zz⟩ i op now sk bd).issue).sealer,.int .u64 ((Zk ⟨rl,els.map Zz⟩ ⟨dr,dls.map Zz⟩ i op now sk bd).issue).granter,.bs ((Zk ⟨rl,els.map Zz⟩ ⟨dr,dls.map Zz⟩ i op now sk bd).issue).text,.int .i64 ((Zk ⟨rl,els.map Zz⟩ ⟨dr,dls.map Zz⟩ i op now sk bd).issue).issued,.int .i64 ((Zk ⟨rl,els.map Zz⟩ ⟨dr,dls.map Zz⟩ i op now sk bd).issue).stop,.bool (Zk ⟨rl,els.map Zz⟩ ⟨dr,dls.map Zz⟩ i op now sk bd).ok],[[.int .i64 op,.str u1,.str u2,.str u3,.int .i64 kv,.str qr,.bs tk,.str sv,.str ins,.bs bx,.str rl,.sl 9 els,.int .i64 now,.int .i64 ad,.int .i64 sk,.int .u64 se]]))
 | _,_=>none
def sp217:Abs.Spec:=fun xs bl=>match xs,bl with
 | [.bs b,.int .u64 k],[]=>chk (decide (b.length≤140737488355328)) (some (.tup [.agg [.bool ((Yu b k).val).little,.str ((Yu b k).val).client.name,.str ((Yu b k).val).client.inst,.str ((Yu b k).val).client.realm,.int .i64 ((Yu b k).val).address,.int .u64 ((Yu b k).val).session,.int .i64 ((Yu b k).val).life,.int .i64 ((Yu b k).val).issued,.str ((Yu b k).val).service,.str ((Yu b k).val).inst],.int .i64 (Yu b k).err],[]))
 | _,_=>none
def sp224:Abs.Spec:=fun xs bl=>match xs,bl with
 | [.agg [.str rl,.sl 9 els],.agg [.str x,.str y,.str z],.agg [.str u,.str v,.str w],.int .i64 ad,.bool li,.int .i64 now,.int .i64 lf,.int .u64 se,.int .u64 sl,.int .u64 tg,.int .i64 kv],[]=>chk (decide (x.length≤9223372036854775807)&&decide (y.length≤9223372036854775807)&&decide (z.length≤9223372036854775807)&&decide (u.length≤9223372036854775807)&&decide (v.length≤9223372036854775807)&&decide (w.length≤9223372036854775807)&&Yv se&&Yv tg) (some (.tup [.agg [.int .i64 ((Zm rl ⟨x,y,z⟩ ⟨u,v,w⟩ ad li now lf se sl tg kv).issue).kind,.str ((Zm rl ⟨x,y,z⟩ ⟨u,v,w⟩ ad li now lf se sl tg kv).issue).server.name,.str ((Zm rl ⟨x,y,z⟩ ⟨u,v,w⟩ ad li now lf se sl tg kv).issue).server.inst,.str ((Zm rl ⟨x,y,z⟩ ⟨u,v,w⟩ ad li now lf se sl tg kv).issue).server.realm,.str ((Zm rl ⟨x,y,z⟩ ⟨u,v,w⟩ ad li now lf se sl tg kv).issue).client.name,.str ((Zm rl ⟨x,y,z⟩ ⟨u,v,w⟩ ad li now lf se sl tg kv).issue).client.inst,.str ((Zm rl ⟨x,y,z⟩ ⟨u,v,w⟩ ad li now lf se sl tg kv).issue).client.realm,.str ((Zm rl ⟨x,y,z⟩ ⟨u,v,w⟩ ad li now lf se sl tg kv).issue).service.name,.str ((Zm rl ⟨x,y,z⟩ ⟨u,v,w⟩ ad li now lf se sl tg kv).issue).service.inst,.str ((Zm rl ⟨x,y,z⟩ ⟨u,v,w⟩ ad li now lf se sl tg kv).issue).service.realm,.int .u64 ((Zm rl ⟨x,y,z⟩ ⟨u,v,w⟩ ad li now lf se sl tg kv).issue).session,.int .u64 ((Zm rl ⟨x,y,z⟩ ⟨u,v,w⟩ ad li now lf se sl tg kv).issue).sealer,.int .u64 ((Zm rl ⟨x,y,z⟩ ⟨u,v,w⟩ ad li now lf se sl tg kv).issue).granter,.bs ((Zm rl ⟨x,y,z⟩ ⟨u,v,w⟩ ad li now lf se sl tg kv).issue).text,.int .i64 ((Zm rl ⟨x,y,z⟩ ⟨u,v,w⟩ ad li now lf se sl tg kv).issue).issued,.int .i64 ((Zm rl ⟨x,y,z⟩ ⟨u,v,w⟩ ad li now lf se sl tg kv).issue).stop],.agg [.int .u64 (Zm rl ⟨x,y,z⟩ ⟨u,v,w⟩ ad li now lf se sl tg kv).part.session,.str (Zm rl ⟨x,y,z⟩ ⟨u,v,w⟩ ad li now lf se sl tg kv).part.service.name,.str (Zm rl ⟨x,y,z⟩ ⟨u,v,w⟩ ad li now lf se sl tg kv).part.service.inst,.str (Zm rl ⟨x,y,z⟩ ⟨u,v,w⟩ ad li now lf se sl tg kv).part.service.realm,.int .i64 (Zm rl ⟨x,y,z⟩ ⟨u,v,w⟩ ad li now lf se sl tg kv).part.life,.int .i64 (Zm rl ⟨x,y,z⟩ ⟨u,v,w⟩ ad li now lf se sl tg kv).part.kvno,.bs (Zm rl ⟨x,y,z⟩ ⟨u,v,w⟩ ad li now lf se sl tg kv).part.ticket,.int .i64 (Zm rl ⟨x,y,z⟩ ⟨u,v,w⟩ ad li now lf se sl tg kv).part.time],.int .i64 (Zm rl ⟨x,y,z⟩ ⟨u,v,w⟩ ad li now lf se sl tg kv).err],[]))
 | _,_=>none
def sp147:Abs.Spec:=fun xs bl=>match xs,bl with
 | [.ptr 0 0],[(0,[.int .i64 op,.str u1,.str u2,.str u3,.int .i64 kv,.str qr,.bs tk,.str sv,.str ins,.bs bx,.str rl,.sl 9 els,.int .i64 now,.int .i64 ad,.int .i64 sk,.int .u64 se])]=>chk (decide (u1.length≤9223372036854775807)&&decide (u2.length≤9223372036854775807)&&decide (u3.length≤9223372036854775807)&&decide (qr.length≤9223372036854775807)&&decide (sv.length≤9223372036854775807)&&decide (ins.length≤9223372036854775807)&&decide (rl.length≤9223372036854775807)&&Yv se&&decide (tk.length≤1000000)&&decide (bx.length≤1000000)&&els.all Zp&&decide (els.length≤1000000)) (some (.tup [.agg [.bool ((Yw ⟨rl,els.map Zz⟩ now ad sk (Zy op ⟨u1,u2,u3⟩ kv qr tk sv ins bx)).val).little,.str ((Yw ⟨rl,els.map Zz⟩ now ad sk (Zy op ⟨u1,u2,u3⟩ kv qr tk sv ins bx)).val).client.name,.str ((Yw ⟨rl,els.map Zz⟩ now ad sk (Zy op ⟨u1,u2,u3⟩ kv qr tk sv ins bx)).val).client.inst,.str ((Yw ⟨rl,els.map Zz⟩ now ad sk (Zy op ⟨u1,u2,u3⟩ kv qr tk sv ins bx)).val).client.realm,.int .i64 ((Yw ⟨rl,els.map Zz⟩ now ad sk (Zy op ⟨u1,u2,u3⟩ kv qr tk sv ins bx)).val).address,.int .u64 ((Yw ⟨rl,els.map Zz⟩ now ad sk (Zy op ⟨u1,u2,u3⟩ kv qr tk sv ins bx)).val).session,.int .i64 ((Yw ⟨rl,els.map Zz⟩ now ad sk (Zy op ⟨u1,u2,u3⟩ kv qr tk sv ins bx)).val).life,.int .i64 ((Yw ⟨rl,els.map Zz⟩ now ad sk (Zy op ⟨u1,u2,u3⟩ kv qr tk sv ins bx)).val).issued,.str ((Yw ⟨rl,els.map Zz⟩ now ad sk (Zy op ⟨u1,u2,u3⟩ kv qr tk sv ins bx)).val).service,.str ((Yw ⟨rl,els.map Zz⟩ now ad sk (Zy op ⟨u1,u2,u3⟩ kv qr tk sv ins bx)).val).inst],.int .i64 (Yw ⟨rl,els.map Zz⟩ now ad sk (Zy op ⟨u1,u2,u3⟩ kv qr tk sv ins bx)).err],[[.int .i64 op,.str u1,.str u2,.str u3,.int .i64 kv,.str qr,.bs tk,.str sv,.str ins,.bs bx,.str rl,.sl 9 els,.int .i64 now,.int .i64 ad,.int .i64 sk,.int .u64 se]]))
 | _,_=>none
def sp154:Abs.Spec:=fun xs bl=>match xs,bl with
 | [.ptr 0 0,.agg [.str dr,.sl 9 dls],.agg [.int .i64 gk,.str c1,.str c2,.str c3,.str s1,.str s2,.str s3,.int .i64 ga,.int .i64 gl,.int .u64 gs,.int .u64 gg,.int .u64 gt,.int .i64 gv,.str gb,.int .i64 gm]],[(0,[.int .i64 op,.str u1,.str u2,.str u3,.int .i64 kv,.str qr,.bs tk,.str sv,.str ins,.bs bx,.str rl,.sl 9 els,.int .i64 now,.int .i64 ad,.int .i64 sk,.int .u64 se])]=>chk (decide (c1.length≤9223372036854775807)&&decide (c2.length≤9223372036854775807)&&decide (c3.length≤9223372036854775807)&&decide (s1.length≤9223372036854775807)&&decide (s2.length≤9223372036854775807)&&decide (s3.length≤9223372036854775807)&&decide (gb.length≤9223372036854775807)&&Yv se&&Yv gs&&Yv gt&&Yv gg&&els.all Zp&&dls.all Zp&&decide (0≤gm)&&decide (gm≤4294967295)) (some (.agg [.str (((if (Zw op gb gm rl ⟨c1,c2,c3⟩ ⟨s1,s2,s3⟩ ga now gl se gs gt gv gk gg).2.2 then Zx ⟨dr,dls.map Zz⟩ (Zw op gb gm rl ⟨c1,c2,c3⟩ ⟨s1,s2,s3⟩ ga now gl se gs gt gv gk gg).1 (Zw op gb gm rl ⟨c1,c2,c3⟩ ⟨s1,s2,s3⟩ ga now gl se gs gt gv gk gg).2.1 true else Zx ⟨rl,els.map Zz⟩ [] Zv false)).db).realm,.sl 9 ((((if (Zw op gb gm rl ⟨c1,c2,c3⟩ ⟨s1,s2,s3⟩ ga now gl se gs gt gv gk gg).2.2 then Zx ⟨dr,dls.map Zz⟩ (Zw op gb gm rl ⟨c1,c2,c3⟩ ⟨s1,s2,s3⟩ ga now gl se gs gt gv gk gg).1 (Zw op gb gm rl ⟨c1,c2,c3⟩ ⟨s1,s2,s3⟩ ga now gl se gs gt gv gk gg).2.1 true else Zx ⟨rl,els.map Zz⟩ [] Zv false)).db).entries.map Yq),.bs ((if (Zw op gb gm rl ⟨c1,c2,c3⟩ ⟨s1,s2,s3⟩ ga now gl se gs gt gv gk gg).2.2 then Zx ⟨dr,dls.map Zz⟩ (Zw op gb gm rl ⟨c1,c2,c3⟩ ⟨s1,s2,s3⟩ ga now gl se gs gt gv gk gg).1 (Zw op gb gm rl ⟨c1,c2,c3⟩ ⟨s1,s2,s3⟩ ga now gl se gs gt gv gk gg).2.1 true else Zx ⟨rl,els.map Zz⟩ [] Zv false)).answer,.int .i64 (((if (Zw op gb gm rl ⟨c1,c2,c3⟩ ⟨s1,s2,s3⟩ ga now gl se gs gt gv gk gg).2.2 then Zx ⟨dr,dls.map Zz⟩ (Zw op gb gm rl ⟨c1,c2,c3⟩ ⟨s1,s2,s3⟩ ga now gl se gs gt gv gk gg).1 (Zw op gb gm rl ⟨c1,c2,c3⟩ ⟨s1,s2,s3⟩ ga now gl se gs gt gv gk gg).2.1 true else Zx ⟨rl,els.map Zz⟩ [] Zv false)).issue).kind,.str (((if (Zw op gb gm rl ⟨c1,c2,c3⟩ ⟨s1,s2,s3⟩ ga now gl se gs gt gv gk gg).2.2 then Zx ⟨dr,dls.map Zz⟩ (Zw op gb gm rl ⟨c1,c2,c3⟩ ⟨s1,s2,s3⟩ ga now gl se gs gt gv gk gg).1 (Zw op gb gm rl ⟨c1,c2,c3⟩ ⟨s1,s2,s3⟩ ga now gl se gs gt gv gk gg).2.1 true else Zx ⟨rl,els.map Zz⟩ [] Zv false)).issue).server.name,.str (((if (Zw op gb gm rl ⟨c1,c2,c3⟩ ⟨s1,s2,s3⟩ ga now gl se gs gt gv gk gg).2.2 then Zx ⟨dr,dls.map Zz⟩ (Zw op gb gm rl ⟨c1,c2,c3⟩ ⟨s1,s2,s3⟩ ga now gl se gs gt gv gk gg).1 (Zw op gb gm rl ⟨c1,c2,c3⟩ ⟨s1,s2,s3⟩ ga now gl se gs gt gv gk gg).2.1 true else Zx ⟨rl,els.map Zz⟩ [] Zv false)).issue).server.inst,.str (((if (Zw op gb gm rl ⟨c1,c2,c3⟩ ⟨s1,s2,s3⟩ ga now gl se gs gt gv gk gg).2.2 then Zx ⟨dr,dls.map Zz⟩ (Zw op gb gm rl ⟨c1,c2,c3⟩ ⟨s1,s2,s3⟩ ga now gl se gs gt gv gk gg).1 (Zw op gb gm rl ⟨c1,c2,c3⟩ ⟨s1,s2,s3⟩ ga now gl se gs gt gv gk gg).2.1 true else Zx ⟨rl,els.map Zz⟩ [] Zv false)).issue).server.realm,.str (((if (Zw op gb gm rl ⟨c1,c2,c3⟩ ⟨s1,s2,s3⟩ ga now gl se gs gt gv gk gg).2.2 then Zx ⟨dr,dls.map Zz⟩ (Zw op gb gm rl ⟨c1,c2,c3⟩ ⟨s1,s2,s3⟩ ga now gl se gs gt gv gk gg).1 (Zw op gb gm rl ⟨c1,c2,c3⟩ ⟨s1,s2,s3⟩ ga now gl se gs gt gv gk gg).2.1 true else Zx ⟨rl,els.map Zz⟩ [] Zv false)).issue).client.name,.str (((if (Zw op gb gm rl ⟨c1,c2,c3⟩ ⟨s1,s2,s3⟩ ga now gl se gs gt gv gk gg).2.2 then Zx ⟨dr,dls.map Zz⟩ (Zw op gb gm rl ⟨c1,c2,c3⟩ ⟨s1,s2,s3⟩ ga now gl se gs gt gv gk gg).1 (Zw op gb gm rl ⟨c1,c2,c3⟩ ⟨s1,s2,s3⟩ ga now gl se gs gt gv gk gg).2.1 true else Zx ⟨rl,els.map Zz⟩ [] Zv false)).issue).client.inst,.str (((if (Zw op gb gm rl ⟨c1,c2,c3⟩ ⟨s1,s2,s3⟩ ga now gl se gs gt gv gk gg).2.2 then Zx ⟨dr,dls.map Zz⟩ (Zw op gb gm rl ⟨c1,c2,c3⟩ ⟨s1,s2,s3⟩ ga now gl se gs gt gv gk gg).1 (Zw op gb gm rl ⟨c1,c2,c3⟩ ⟨s1,s2,s3⟩ ga now gl se gs gt gv gk gg).2.1 true else Zx ⟨rl,els.map Zz⟩ [] Zv false)).issue).client.realm,.str (((if (Zw op gb gm rl ⟨c1,c2,c3⟩ ⟨s1,s2,s3⟩ ga now gl se gs gt gv gk gg).2.2 then Zx ⟨dr,dls.map Zz⟩ (Zw op gb gm rl ⟨c1,c2,c3⟩ ⟨s1,s2,s3⟩ ga now gl se gs gt gv gk gg).1 (Zw op gb gm rl ⟨c1,c2,c3⟩ ⟨s1,s2,s3⟩ ga now gl se gs gt gv gk gg).2.1 true else Zx ⟨rl,els.map Zz⟩ [] Zv false)).issue).service.name,.str (((if (Zw op gb gm rl ⟨c1,c2,c3⟩ ⟨s1,s2,s3⟩ ga now gl se gs gt gv gk gg).2.2 then Zx ⟨dr,dls.map Zz⟩ (Zw op gb gm rl ⟨c1,c2,c3⟩ ⟨s1,s2,s3⟩ ga now gl se gs gt gv gk gg).1 (Zw op gb gm rl ⟨c1,c2,c3⟩ ⟨s1,s2,s3⟩ ga now gl se gs gt gv gk gg).2.1 true else Zx ⟨rl,els.map Zz⟩ [] Zv false)).issue).service.inst,.str (((if (Zw op gb gm rl ⟨c1,c2,c3⟩ ⟨s1,s2,s3⟩ ga now gl se gs gt gv gk gg).2.2 then Zx ⟨dr,dls.map Zz⟩ (Zw op gb gm rl ⟨c1,c2,c3⟩ ⟨s1,s2,s3⟩ ga now gl se gs gt gv gk gg).1 (Zw op gb gm rl ⟨c1,c2,c3⟩ ⟨s1,s2,s3⟩ ga now gl se gs gt gv gk gg).2.1 true else Zx ⟨rl,els.map Zz⟩ [] Zv false)).issue).service.realm,.int .u64 (((if (Zw op gb gm rl ⟨c1,c2,c3⟩ ⟨s1,s2,s3⟩ ga now gl se gs gt gv gk gg).2.2 then Zx ⟨dr,dls.map Zz⟩ (Zw op gb gm rl ⟨c1,c2,c3⟩ ⟨s1,s2,s3⟩ ga now gl se gs gt gv gk gg).1 (Zw op gb gm rl ⟨c1,c2,c3⟩ ⟨s1,s2,s3⟩ ga now gl se gs gt gv gk gg).2.1 true else Zx ⟨rl,els.map Zz⟩ [] Zv false)).issue).session,.int .u64 (((if (Zw op gb gm rl ⟨c1,c2,c3⟩ ⟨s1,s2,s3⟩ ga now gl se gs gt gv gk gg).2.2 then Zx ⟨dr,dls.map Zz⟩ (Zw op gb gm rl ⟨c1,c2,c3⟩ ⟨s1,s2,s3⟩ ga now gl se gs gt gv gk gg).1 (Zw op gb gm rl ⟨c1,c2,c3⟩ ⟨s1,s2,s3⟩ ga now gl se gs gt gv gk gg).2.1 true else Zx ⟨rl,els.map Zz⟩ [] Zv false)).issue).sealer,.int .u64 (((if (Zw op gb gm rl ⟨c1,c2,c3⟩ ⟨s1,s2,s3⟩ ga now gl se gs gt gv gk gg).2.2 then Zx ⟨dr,dls.map Zz⟩ (Zw op gb gm rl ⟨c1,c2,c3⟩ ⟨s1,s2,s3⟩ ga now gl se gs gt gv gk gg).1 (Zw op gb gm rl ⟨c1,c2,c3⟩ ⟨s1,s2,s3⟩ ga now gl se gs gt gv gk gg).2.1 true else Zx ⟨rl,els.map Zz⟩ [] Zv false)).issue).granter,.bs (((if (Zw op gb gm rl ⟨c1,c2,c3⟩ ⟨s1,s2,s3⟩ ga now gl se gs gt gv gk gg).2.2 then Zx ⟨dr,dls.map Zz⟩ (Zw op gb gm rl ⟨c1,c2,c3⟩ ⟨s1,s2,s3⟩ ga now gl se gs gt gv gk gg).1 (Zw op gb gm rl ⟨c1,c2,c3⟩ ⟨s1,s2,s3⟩ ga now gl se gs gt gv gk gg).2.1 true else Zx ⟨rl,els.map Zz⟩ [] Zv false)).issue).text,.int .i64 (((if (Zw op gb gm rl ⟨c1,c2,c3⟩ ⟨s1,s2,s3⟩ ga now gl se gs gt gv gk gg).2.2 then Zx ⟨dr,dls.map Zz⟩ (Zw op gb gm rl ⟨c1,c2,c3⟩ ⟨s1,s2,s3⟩ ga now gl se gs gt gv gk gg).1 (Zw op gb gm rl ⟨c1,c2,c3⟩ ⟨s1,s2,s3⟩ ga now gl se gs gt gv gk gg).2.1 true else Zx ⟨rl,els.map Zz⟩ [] Zv false)).issue).issued,.int .i64 (((if (Zw op gb gm rl ⟨c1,c2,c3⟩ ⟨s1,s2,s3⟩ ga now gl se gs gt gv gk gg).2.2 then Zx ⟨dr,dls.map Zz⟩ (Zw op gb gm rl ⟨c1,c2,c3⟩ ⟨s1,s2,s3⟩ ga now gl se gs gt gv gk gg).1 (Zw op gb gm rl ⟨c1,c2,c3⟩ ⟨s1,s2,s3⟩ ga now gl se gs gt gv gk gg).2.1 true else Zx ⟨rl,els.map Zz⟩ [] Zv false)).issue).stop,.bool ((if (Zw op gb gm rl ⟨c1,c2,c3⟩ ⟨s1,s2,s3⟩ ga now gl se gs gt gv gk gg).2.2 then Zx ⟨dr,dls.map Zz⟩ (Zw op gb gm rl ⟨c1,c2,c3⟩ ⟨s1,s2,s3⟩ ga now gl se gs gt gv gk gg).1 (Zw op gb gm rl ⟨c1,c2,c3⟩ ⟨s1,s2,s3⟩ ga now gl se gs gt gv gk gg).2.1 true else Zx ⟨rl,els.map Zz⟩ [] Zv false)).ok],[[.int .i64 op,.str u1,.str u2,.str u3,.int .i64 kv,.str qr,.bs tk,.str sv,.str ins,.bs bx,.str rl,.sl 9 els,.int .i64 now,.int .i64 ad,.int .i64 sk,.int .u64 se]]))
 | _,_=>none
def sp67:Abs.Spec:=fun xs bl=>match xs,bl with
 | [.ptr 0 0],[(0,[.int .i64 op,.str u1,.str u2,.str u3,.int .i64 kv,.str qr,.bs tk,.str sv,.str ins,.bs bx,.str rl,.sl 9 els,.int .i64 now,.int .i64 ad,.int .i64 sk,.int .u64 se])]=>chk (decide (u1.length≤9223372036854775807)&&decide (u2.length≤9223372036854775807)&&decide (u3.length≤9223372036854775807)&&decide (qr.length≤9223372036854775807)&&decide (sv.length≤9223372036854775807)&&decide (ins.length≤9223372036854775807)&&decide (rl.length≤9223372036854775807)&&Yv se&&decide (tk.length≤1000000)&&decide (bx.length≤1000000)&&els.all Zp&&decide (els.length≤1000000)&&decide (op=2)&&Yk now 4294967295) (some (.agg [.str ((Zj ⟨rl,els.map Zz⟩ now ad sk se (Zy op ⟨u1,u2,u3⟩ kv qr tk sv ins bx)).db).realm,.sl 9 (((Zj ⟨rl,els.map Zz⟩ now ad sk se (Zy op ⟨u1,u2,u3⟩ kv qr tk sv ins bx)).db).entries.map Yq),.bs (Zj ⟨rl,els.map Zz⟩ now ad sk se (Zy op ⟨u1,u2,u3⟩ kv qr tk sv ins bx)).answer,.int .i64 ((Zj ⟨rl,els.map Zz⟩ now ad sk se (Zy op ⟨u1,u2,u3⟩ kv qr tk sv ins bx)).issue).kind,.str ((Zj ⟨rl,els.map Zz⟩ now ad sk se (Zy op ⟨u1,u2,u3⟩ kv qr tk sv ins bx)).issue).server.name,.str ((Zj ⟨rl,els.map Zz⟩ now ad sk se (Zy op ⟨u1,u2,u3⟩ kv qr tk sv ins bx)).issue).server.inst,.str ((Zj ⟨rl,els.map Zz⟩ now ad sk se (Zy op ⟨u1,u2,u3⟩ kv qr tk sv ins bx)).issue).server.realm,.str ((Zj ⟨rl,els.map Zz⟩ now ad sk se (Zy op ⟨u1,u2,u3⟩ kv qr tk sv ins bx)).issue).client.name,.str ((Zj ⟨rl,els.map Zz⟩ now ad sk se (Zy op ⟨u1,u2,u3⟩ kv qr tk sv ins bx)).issue).client.inst,.str ((Zj ⟨rl,els.map Zz⟩ now ad sk se (Zy op ⟨u1,u2,u3⟩ kv qr tk sv ins bx)).issue).client.realm,.str ((Zj ⟨rl,els.map Zz⟩ now ad sk se (Zy op ⟨u1,u2,u3⟩ kv qr tk sv ins bx)).issue).service.name,.str ((Zj ⟨rl,els.map Zz⟩ now ad sk se (Zy op ⟨u1,u2,u3⟩ kv qr tk sv ins bx)).issue).service.inst,.str ((Zj ⟨rl,els.map Zz⟩ now ad sk se (Zy op ⟨u1,u2,u3⟩ kv qr tk sv ins bx)).issue).service.realm,.int .u64 ((Zj ⟨rl,els.map Zz⟩ now ad sk se (Zy op ⟨u1,u2,u3⟩ kv qr tk sv ins bx)).issue).session,.int .u64 ((Zj ⟨rl,els.map Zz⟩ now ad sk se (Zy op ⟨u1,u2,u3⟩ kv qr tk sv ins bx)).issue).sealer,.int .u64 ((Zj ⟨rl,els.map Zz⟩ now ad sk se (Zy op ⟨u1,u2,u3⟩ kv qr tk sv ins bx)).issue).granter,.bs ((Zj ⟨rl,els.map Zz⟩ now ad sk se (Zy op ⟨u1,u2,u3⟩ kv qr tk sv ins bx)).issue).text,.int .i64 ((Zj ⟨rl,els.map Zz⟩ now ad sk se (Zy op ⟨u1,u2,u3⟩ kv qr tk sv ins bx)).issue).issued,.int .i64 ((Zj ⟨rl,els.map Zz⟩ now ad sk se (Zy op ⟨u1,u2,u3⟩ kv qr tk sv ins bx)).issue).stop,.bool (Zj ⟨rl,els.map Zz⟩ now ad sk se (Zy op ⟨u1,u2,u3⟩ kv qr tk sv ins bx)).ok],[[.int .i64 op,.str u1,.str u2,.str u3,.int .i64 kv,.str qr,.bs tk,.str sv,.str ins,.bs bx,.str rl,.sl 9 els,.int .i64 now,.int .i64 ad,.int .i64 sk,.int .u64 se]]))
 | _,_=>none
def sp159:Abs.Spec:=fun xs bl=>match xs,bl with
 | [.ptr 0 0,.agg [.str dr,.sl 9 dls],.agg [.str en,.str ei,.int .u64 ek,.int .i64 ev,.int .i64 ex,.int .i64 em,.int .i64 ea,.int .i64 ef,.int .i64 et],.bs bd],[(0,[.int .i64 op,.str u1,.str u2,.str u3,.int .i64 kv,.str qr,.bs tk,.str sv,.str ins,.bs bx,.str rl,.sl 9 els,.int .i64 now,.int .i64 ad,.int .i64 sk,.int .u64 se])]=>chk (decide (u1.length≤9223372036854775807)&&decide (u2.length≤9223372036854775807)&&decide (u3.length≤9223372036854775807)&&decide (qr.length≤9223372036854775807)&&decide (sv.length≤9223372036854775807)&&decide (ins.length≤9223372036854775807)&&decide (rl.length≤9223372036854775807)&&Yv se&&decide (tk.length≤1000000)&&decide (bx.length≤1000000)&&els.all Zp&&decide (els.length≤1000000)&&dls.all Zp&&decide (bd.length≤1000000)&&Kerb.kaOp op&&Yk now 4294967295&&Yv ek&&Kerb.isI64 em&&Kerb.isI64 ex) (some (.agg [.str ((Zu ⟨rl,els.map Zz⟩ ⟨dr,dls.map Zz⟩ (Zq en ei ek ev ex em ea ef et) op now ad sk se ⟨u1,u2,u3⟩ bd).db).realm,.sl 9 (((Zu ⟨rl,els.map Zz⟩ ⟨dr,dls.map Zz⟩ (Zq en ei ek ev ex em ea ef et) op now ad sk se ⟨u1,u2,u3⟩ bd).db).entries.map Yq),.bs (Zu ⟨rl,els.map Zz⟩ ⟨dr,dls.map Zz⟩ (Zq en ei ek ev ex em ea ef et) op now ad sk se ⟨u1,u2,u3⟩ bd).answer,.int .i64 ((Zu ⟨rl,els.map Zz⟩ ⟨dr,dls.map Zz⟩ (Zq en ei ek ev ex em ea ef et) op now ad sk se ⟨u1,u2,u3⟩ bd).issue).kind,.str ((Zu ⟨rl,els.map Zz⟩ ⟨dr,dls.map Zz⟩ (Zq en ei ek ev ex em ea ef et) op now ad sk se ⟨u1,u2,u3⟩ bd).issue).server.name,.str ((Zu ⟨rl,els.map Zz⟩ ⟨dr,dls.map Zz⟩ (Zq en ei ek ev ex em ea ef et) op now ad sk se ⟨u1,u2,u3⟩ bd).issue).server.inst,.str ((Zu ⟨rl,els.map Zz⟩ ⟨dr,dls.map Zz⟩ (Zq en ei ek ev ex em ea ef et) op now ad sk se ⟨u1,u2,u3⟩ bd).issue).server.realm,.str ((Zu ⟨rl,els.map Zz⟩ ⟨dr,dls.map Zz⟩ (Zq en ei ek ev ex em ea ef et) op now ad sk se ⟨u1,u2,u3⟩ bd).issue).client.name,.str ((Zu ⟨rl,els.map Zz⟩ ⟨dr,dls.map Zz⟩ (Zq en ei ek ev ex em ea ef et) op now ad sk se ⟨u1,u2,u3⟩ bd).issue).client.inst,.str ((Zu ⟨rl,els.map Zz⟩ ⟨dr,dls.map Zz⟩ (Zq en ei ek ev ex em ea ef et) op now ad sk se ⟨u1,u2,u3⟩ bd).issue).client.realm,.str ((Zu ⟨rl,els.map Zz⟩ ⟨dr,dls.map Zz⟩ (Zq en ei ek ev ex em ea ef et) op now ad sk se ⟨u1,u2,u3⟩ bd).issue).service.name,.str ((Zu ⟨rl,els.map Zz⟩ ⟨dr,dls.map Zz⟩ (Zq en ei ek ev ex em ea ef et) op now ad sk se ⟨u1,u2,u3⟩ bd).issue).service.inst,.str ((Zu ⟨rl,els.map Zz⟩ ⟨dr,dls.map Zz⟩ (Zq en ei ek ev ex em ea ef et) op now ad sk se ⟨u1,u2,u3⟩ bd).issue).service.realm,.int .u64 ((Zu ⟨rl,els.map Zz⟩ ⟨dr,dls.map Zz⟩ (Zq en ei ek ev ex em ea ef et) op now ad sk se ⟨u1,u2,u3⟩ bd).issue).session,.int .u64 ((Zu ⟨rl,els.map Zz⟩ ⟨dr,dls.map Zz⟩ (Zq en ei ek ev ex em ea ef et) op now ad sk se ⟨u1,u2,u3⟩ bd).issue).sealer,.int .u64 ((Zu ⟨rl,els.map Zz⟩ ⟨dr,dls.map Zz⟩ (Zq en ei ek ev ex em ea ef et) op now ad sk se ⟨u1,u2,u3⟩ bd).issue).granter,.bs ((Zu ⟨rl,els.map Zz⟩ ⟨dr,dls.map Zz⟩ (Zq en ei ek ev ex em ea ef et) op now ad sk se ⟨u1,u2,u3⟩ bd).issue).text,.int .i64 ((Zu ⟨rl,els.map Zz⟩ ⟨dr,dls.map Zz⟩ (Zq en ei ek ev ex em ea ef et) op now ad sk se ⟨u1,u2,u3⟩ bd).issue).issued,.int .i64 ((Zu ⟨rl,els.map Zz⟩ ⟨dr,dls.map Zz⟩ (Zq en ei ek ev ex em ea ef et) op now ad sk se ⟨u1,u2,u3⟩ bd).issue).stop,.bool (Zu ⟨rl,els.map Zz⟩ ⟨dr,dls.map Zz⟩ (Zq en ei ek ev ex em ea ef et) op now ad sk se ⟨u1,u2,u3⟩ bd).ok],[[.int .i64 op,.str u1,.str u2,.str u3,.int .i64 kv,.str qr,.bs tk,.str sv,.str ins,.bs bx,.str rl,.sl 9 els,.int .i64 now,.int .i64 ad,.int .i64 sk,.int .u64 se]]))
 | _,_=>none
def sp68:Abs.Spec:=fun xs bl=>match xs,bl with
 | [.ptr 0 0],[(0,[.int .i64 op,.str u1,.str u2,.str u3,.int .i64 kv,.str qr,.bs tk,.str sv,.str ins,.bs bx,.str rl,.sl 9 els,.int .i64 now,.int .i64 ad,.int .i64 sk,.int .u64 se])]=>chk (decide (u1.length≤9223372036854775807)&&decide (u2.length≤9223372036854775807)&&decide (u3.length≤9223372036854775807)&&decide (qr.length≤9223372036854775807)&&decide (sv.length≤9223372036854775807)&&decide (ins.length≤9223372036854775807)&&decide (rl.length≤9223372036854775807)&&Yv se&&decide (tk.length≤1000000)&&decide (bx.length≤1000000)&&els.all Zp&&decide (els.length≤1000000)&&decide (Kerb.Db.err ⟨rl,els.map Zz⟩=0)&&Kerb.kaOp op&&decide (op≠2)&&Yk now 4294967295) (some (.agg [.str ((Zn ⟨rl,els.map Zz⟩ now ad sk se (Zy op ⟨u1,u2,u3⟩ kv qr tk sv ins bx)).db).realm,.sl 9 (((Zn ⟨rl,els.map Zz⟩ now ad sk se (Zy op ⟨u1,u2,u3⟩ kv qr tk sv ins bx)).db).entries.map Yq),.bs (Zn ⟨rl,els.map Zz⟩ now ad sk se (Zy op ⟨u1,u2,u3⟩ kv qr tk sv ins bx)).answer,.int .i64 ((Zn ⟨rl,els.map Zz⟩ now ad sk se (Zy op ⟨u1,u2,u3⟩ kv qr tk sv ins bx)).issue).kind,.str ((Zn ⟨rl,els.map Zz⟩ now ad sk se (Zy op ⟨u1,u2,u3⟩ kv qr tk sv ins bx)).issue).server.name,.str ((Zn ⟨rl,els.map Zz⟩ now ad sk se (Zy op ⟨u1,u2,u3⟩ kv qr tk sv ins bx)).issue).server.inst,.str ((Zn ⟨rl,els.map Zz⟩ now ad sk se (Zy op ⟨u1,u2,u3⟩ kv qr tk sv ins bx)).issue).server.realm,.str ((Zn ⟨rl,els.map Zz⟩ now ad sk se (Zy op ⟨u1,u2,u3⟩ kv qr tk sv ins bx)).issue).client.name,.str ((Zn ⟨rl,els.map Zz⟩ now ad sk se (Zy op ⟨u1,u2,u3⟩ kv qr tk sv ins bx)).issue).client.inst,.str ((Zn ⟨rl,els.map Zz⟩ now ad sk se (Zy op ⟨u1,u2,u3⟩ kv qr tk sv ins bx)).issue).client.realm,.str ((Zn ⟨rl,els.map Zz⟩ now ad sk se (Zy op ⟨u1,u2,u3⟩ kv qr tk sv ins bx)).issue).service.name,.str ((Zn ⟨rl,els.map Zz⟩ now ad sk se (Zy op ⟨u1,u2,u3⟩ kv qr tk sv ins bx)).issue).service.inst,.str ((Zn ⟨rl,els.map Zz⟩ now ad sk se (Zy op ⟨u1,u2,u3⟩ kv qr tk sv ins bx)).issue).service.realm,.int .u64 ((Zn ⟨rl,els.map Zz⟩ now ad sk se (Zy op ⟨u1,u2,u3⟩ kv qr tk sv ins bx)).issue).session,.int .u64 ((Zn ⟨rl,els.map Zz⟩ now ad sk se (Zy op ⟨u1,u2,u3⟩ kv qr tk sv ins bx)).issue).sealer,.int .u64 ((Zn ⟨rl,els.map Zz⟩ now ad sk se (Zy op ⟨u1,u2,u3⟩ kv qr tk sv ins bx)).issue).granter,.bs ((Zn ⟨rl,els.map Zz⟩ now ad sk se (Zy op ⟨u1,u2,u3⟩ kv qr tk sv ins bx)).issue).text,.int .i64 ((Zn ⟨rl,els.map Zz⟩ now ad sk se (Zy op ⟨u1,u2,u3⟩ kv qr tk sv ins bx)).issue).issued,.int .i64 ((Zn ⟨rl,els.map Zz⟩ now ad sk se (Zy op ⟨u1,u2,u3⟩ kv qr tk sv ins bx)).issue).stop,.bool (Zn ⟨rl,els.map Zz⟩ now ad sk se (Zy op ⟨u1,u2,u3⟩ kv qr tk sv ins bx)).ok],[[.int .i64 op,.str u1,.str u2,.str u3,.int .i64 kv,.str qr,.bs tk,.str sv,.str ins,.bs bx,.str rl,.sl 9 els,.int .i64 now,.int .i64 ad,.int .i64 sk,.int .u64 se]]))
 | _,_=>none
def sp25:Abs.Spec:=fun xs bl=>match xs,bl with
 | [.agg [.str rl,.sl 9 els],.int .i64 now,.int .i64 ad,.int .i64 sk,.int .u64 se,.bs msg],[]=>chk (decide (rl.length≤9223372036854775807)&&els.all Zp&&decide (els.length≤1000000)&&decide (Kerb.Db.err ⟨rl,els.map Zz⟩=0)&&Yv se&&decide (msg.length≤1000000)) (some (.tup [.agg [.str ((Zf ⟨rl,els.map Zz⟩ now ad sk se msg).db).realm,.sl 9 (((Zf ⟨rl,els.map Zz⟩ now ad sk se msg).db).entries.map Yq)],.bs (Zf ⟨rl,els.map Zz⟩ now ad sk se msg).answer,.agg [.int .i64 ((Zf ⟨rl,els.map Zz⟩ now ad sk se msg).issue).kind,.str ((Zf ⟨rl,els.map Zz⟩ now ad sk se msg).issue).server.name,.str ((Zf ⟨rl,els.map Zz⟩ now ad sk se msg).issue).server.inst,.str ((Zf ⟨rl,els.map Zz⟩ now ad sk se msg).issue).server.realm,.str ((Zf ⟨rl,els.map Zz⟩ now ad sk se msg).issue).client.name,.str ((Zf ⟨rl,els.map Zz⟩ now ad sk se msg).issue).client.inst,.str ((Zf ⟨rl,els.map Zz⟩ now ad sk se msg).issue).client.realm,.str ((Zf ⟨rl,els.map Zz⟩ now ad sk se msg).issue).service.name,.str ((Zf ⟨rl,els.map Zz⟩ now ad sk se msg).issue).service.inst,.str ((Zf ⟨rl,els.map Zz⟩ now ad sk se msg).issue).service.realm,.int .u64 ((Zf ⟨rl,els.map Zz⟩ now ad sk se msg).issue).session,.int .u64 ((Zf ⟨rl,els.map Zz⟩ now ad sk se msg).issue).sealer,.int .u64 ((Zf ⟨rl,els.map Zz⟩ now ad sk se msg).issue).granter,.bs ((Zf ⟨rl,els.map Zz⟩ now ad sk se msg).issue).text,.int .i64 ((Zf ⟨rl,els.map Zz⟩ now ad sk se msg).issue).issued,.int .i64 ((Zf ⟨rl,els.map Zz⟩ now ad sk se msg).issue).stop],.bool (Zf ⟨rl,els.map Zz⟩ now ad sk se msg).ok],[]))
 | _,_=>none
def sp22:Abs.Spec:=fun xs bl=>match xs,bl with
 | [],[]=>some (.bool true,[])
 | _,_=>none
def sp7:Abs.Spec:=fun xs bl=>match xs,bl with
 | [.sl 13 ls,.u8 lf,.u8 xp,.u8 bd,.u8 skw],[]=>chk (ls.all Kerb.isKAsk) (some (.bool true,[]))
 | _,_=>none
def tabT:List (Nat×Nat×List CT×Abs.Spec):=[(13,1,[.int .i64],sp13),(16,1,[.int .i64],sp16),(31,1,[.other,.str,.str],sp31),(65,1,[.bsl,.int .u16],sp65),(71,1,[.int .i64],sp71),(87,1,[],sp87),(93,1,[.str,.str],sp93),(121,1,[.bsl,.bsl],sp121),(124,1,[.int .i64,.sl 1],sp124),(132,1,[.int .i64,.int .i64],sp132),(135,1,[.int .u64],sp135),(136,1,[.bsl],sp136),(141,1,[.int .i64,.bool],sp141),(143,1,[.bsl,.str],sp143),(161,1,[.bsl],sp161),(163,1,[.ptr,.int .i64,.int .i64],sp163),(164,1,[.bsl,.int .i64],sp164),(165,1,[.bsl,.int .i64,.int .i64],sp165),(167,1,[.str,.str],sp167),(174,1,[.int .i64],sp174),(175,1,[.int .i64],sp175),(176,1,[.int .i64],sp176),(177,1,[.int .i64],sp177),(180,1,[.str],sp180),(181,1,[.int .u64],sp181),(183,1,[.int .i64],sp183),(197,1,[.int .i64,.sl 1],sp197),(199,1,[.ptr,.int .i64,.int .i64],sp199),(202,1,[.int .i64],sp202),(203,1,[.int .i64,.int .i64],sp203),(206,1,[.str],sp206),(209,1,[.bsl],sp209),(211,1,[.int .i64,.int .i64],sp211),(212,1,[.bsl,.int .i64,.int .i64,.bool],sp212),(222,1,[.other],sp222),(223,1,[.sl 4,.str,.str],sp223),(226,1,[.int .i64],sp226),(237,1,[.int .i64],sp237),(242,1,[.bsl,.int .i64,.int .i64],sp242),(247,1,[.int .i64,.int .i64],sp247),(252,1,[.other,.str,.str],sp252),(254,1,[.int .i64,.int .i64],sp254),(255,1,[.sl 1],sp255),(257,1,[.sl 9],sp257),(258,1,[.other,.other],sp258),(260,1,[.bsl,.u8],sp260),(262,1,[.int .i64,.int .i64],sp262),(264,1,[.str,.u8],sp264),(266,1,[.str,.str],sp266),(267,1,[.int .i64,.int .i64],sp267),(35,2,[.int .i64],sp35),(54,2,[.int .i64],sp54),(69,2,[.bsl,.sl 1],sp69),(73,2,[.ptr],sp73),(74,2,[.ptr,.int .i64],sp74),(76,2,[.str],sp76),(91,2,[.int .u64],sp91),(92,2,[.int .i64,.int .i64],sp92),(133,2,[.int .u64],sp133),(134,2,[.bsl,.int .i64,.bool],sp134),(138,2,[.str],sp138),(139,2,[.str],sp139),(140,2,[.bsl,.int .i64],sp140),(142,2,[.bsl,.other],sp142),(144,2,[.bsl,.int .i64,.bool],sp144),(185,2,[.int .i64,.bool],sp185),(196,2,[.bsl],sp196),(200,2,[.bsl,.int .i64,.int .i64],sp200),(221,2,[.int .i64,.int .i64,.int .i64],sp221),(231,2,[.other,.int .i64,.other],sp231),(233,2,[.bsl,.int .i64,.int .i64,.bool],sp233),(236,2,[.sl 1],sp236),(241,2,[.bsl,.int .i64,.int .i64,.bool],sp241),(248,2,[.bsl,.u8],sp248),(259,2,[.str,.u8],sp259),(263,2,[.str,.str],sp263),(11,3,[.int .i64],sp11),(18,3,[.int .i64],sp18),(40,3,[.int .u64],sp40),(60,3,[.other],sp60),(62,3,[.int .i64,.int .i64],sp62),(63,3,[.int .i64,.int .u64,.bsl],sp63),(72,3,[.ptr],sp72),(79,3,[.other],sp79),(82,3,[.bsl],sp82),(88,3,[.other],sp88),(106,3,[.int .u64],sp106),(116,3,[.bsl,.sl 1],sp116),(118,3,[.ptr,.int .i64],sp118),(152,3,[.int .i64,.int .i64,.sl 1],sp152),(153,3,[.int .u64],sp153),(162,3,[.bsl,.int .i64],sp162),(166,3,[.bsl,.int .i64,.bool],sp166),(169,3,[.bsl,.int .i64,.bool],sp169),(182,3,[.bsl],sp182),(187,3,[.bsl,.str],sp187),(198,3,[.bsl,.int .i64],sp198),(201,3,[.bsl,.int .i64,.bool],sp201),(214,3,[.bsl,.int .i64],sp214),(218,3,[.int .i64,.int .i64,.int .i64,.int .i64],sp218),(235,3,[.bsl,.int .i64,.int .i64,.bool],sp235),(244,3,[.bsl,.int .i64,.bool],sp244),(246,3,[.str,.u8],sp246),(256,3,[.str,.str],sp256),(10,4,[.u8,.u8,.u8],sp10),(64,4,[.other],sp64),(70,4,[.ptr],sp70),(75,4,[.ptr],sp75),(80,4,[.bsl],sp80),(81,4,[.ptr],sp81),(83,4,[.other],sp83),(95,4,[.int .i64,.int .u64,.bsl],sp95),(117,4,[.ptr],sp117),(119,4,[.ptr],sp119),(145,4,[.ptr],sp145),(178,4,[.other],sp178),(179,4,[.bsl,.int .i64,.bool],sp179),(186,4,[.bsl,.int .i64],sp186),(189,4,[.bsl,.other],sp189),(205,4,[.ptr],sp205),(210,4,[.str,.str],sp210),(213,4,[.other],sp213),(227,4,[.other,.str,.str,.int .i64,.int .i64,.int .i64,.int .i64],sp227),(230,4,[.other,.other],sp230),(238,4,[.bsl,.int .i64,.bool],sp238),(243,4,[.bsl],sp243),(30,5,[.bsl],sp30),(32,5,[.bsl,.int .i64,.int .u64],sp32),(33,5,[.bsl],sp33),(94,5,[.other],sp94),(126,5,[.str],sp126),(127,5,[.str],sp127),(137,5,[.other],sp137),(155,5,[.other,.str,.str,.int .i64],sp155),(188,5,[.bsl,.bsl],sp188),(190,5,[.bsl,.bsl],sp190),(204,5,[.bsl],sp204),(207,5,[.ptr],sp207),(216,5,[.other,.str,.str,.int .i64],sp216),(61,6,[.other,.int .u64],sp61),(120,6,[.other],sp120),(122,6,[.bsl,.int .i64,.int .u64],sp122),(128,6,[.str],sp128),(220,6,[.bsl],sp220),(229,6,[.other],sp229),(24,7,[.other],sp24),(56,7,[.other],sp56),(149,7,[.ptr,.bsl,.str],sp149),(150,7,[.other,.sl 4,.str,.str,.int .i64],sp150),(253,7,[.other],sp253),(184,8,[.other],sp184),(215,8,[.bsl,.int .i64],sp215),(228,8,[.other,.int .i64],sp228),(245,8,[.other],sp245),(251,8,[.other,.bool],sp251),(265,8,[.other],sp265),(96,9,[.other],sp96),(146,9,[.ptr],sp146),(157,9,[.other,.int .i64,.other],sp157),(208,9,[.other],sp208),(232,9,[.other,.int .i64,.int .u64],sp232),(261,9,[.other],sp261),(66,10,[.bsl],sp66),(156,10,[.ptr,.int .i64],sp156),(225,10,[.ptr,.int .u64,.other],sp225),(249,10,[.bsl],sp249),(250,10,[.other,.int .u64],sp250),(160,11,[.ptr,.other,.int .i64,.bsl],sp160),(217,11,[.bsl,.int .u64],sp217),(224,11,[.other,.other,.other,.int .i64,.bool,.int .i64,.int .i64,.int .u64,.int .u64,.int .u64,.int .i64],sp224),(147,12,[.ptr],sp147),(154,12,[.ptr,.other,.other],sp154),(67,13,[.ptr],sp67),(159,13,[.ptr,.other,.other,.bsl],sp159),(68,14,[.ptr],sp68),(25,15,[.other,.int .i64,.int .i64,.int .i64,.int .u64,.bsl],sp25),(22,16,[],sp22),(7,17,[.sl 13,.u8,.u8,.u8,.u8],sp7)]
def globT:List (Nat×List AV):=[]
noncomputable def inlT:List (Nat×Func):=[(151,Tryz.f151),(158,Tryz.f158),(219,Tryz.f219),(148,Tryz.f148)]
def look {α:Type} (k:Nat):List (Nat×α)→Option α
 | []=>none
 | (j,x)::r=>cond (Nat.beq j k) (some x) (look k r)
def look2 {α:Type} (k m:Nat):List (Nat×Nat×List α)→List α
 | []=>[]
 | (j,i,x)::r=>cond (Nat.beq j k) (cond (Nat.beq i m) x (look2 k m r)) (look2 k m r)
noncomputable def G:Cfg2:={ ty:=fun t=>(tbl[t]?).join,keep:=fun f r=>look2 f r keepT,own:=fun f=>ownT.contains f,glob:=fun q=>look q globT,rts:=fun f=>look f rtsT,tab:=fun f=>look f tabT,inl:=fun f=>look f inlT }
end Go.Proofs.YtaikjfcgemjghaaGreat
