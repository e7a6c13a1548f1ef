/- The table of functions of this seat. -/
import Derived.Test.YtaikjfcgemjghaaGreatAbsSpec
import Derived.Test.YtaikjfcgemjghaaGreatKerbDefs
import Derived.Test.YtaikjfcgemjghaaGreatAbsPlain
import Derived.Test.YtaikjfcgemjghaaGreatKerbAt
import Derived.Test.YtaikjfcgemjghaaGreatKerbKa
import Derived.Test.YtaikjfcgemjghaaGreatKerbAt
import Derived.Test.YtaikjfcgemjghaaGreatKerbKa
import Derived.Test.YtaikjfcgemjghaaGreatKerbKaPlain
import Derived.Test.YtaikjfcgemjghaaGreatKerbCli
import Derived.Test.YtaikjfcgemjghaaGreatKerbKaRef
import Derived.Test.YtaikjfcgemjghaaGreatKerbCli2
import Derived.Test.YtaikjfcgemjghaaGreatKerbCli3
import Derived.Test.YtaikjfcgemjghaaGreatKerbKac
import Derived.Test.YtaikjfcgemjghaaGreatKerbKaRef
import Derived.Test.YtaikjfcgemjghaaGreatKerbCli2
import Derived.Test.YtaikjfcgemjghaaGreatKerbTkt
import Derived.Test.YtaikjfcgemjghaaGreatKerbDb
import Derived.Test.YtaikjfcgemjghaaGreatKerbKac
import Derived.Test.YtaikjfcgemjghaaGreatKerbSrv
import Derived.Test.YtaikjfcgemjghaaGreatKerbSrvD
import Derived.Test.YtaikjfcgemjghaaGreatProg
import Derived.KernelRfl
open Kerb renaming toEntry→Zz,toCred→Zy,kaReceive→Zv,kaClear→Zu,kaAuthenticate→Zq,kaChangePw→Zk,kaGetTicket→Zp,newClient→Zd,kacPerson→Zf,get→Zg,kaserver→Zb,grant→Zn,decodeKaRequest→Zm,getCred→Yz,decodeKaAnswer→Yy,entAt→Yx,decodeTicket→Yw,within→Yu,isEntry→Yq,openTicket→Yj,isCred→Yk,kaTicket→Yp,storeCred→Yd,readBox→Yb,kaOpen→Yn,kaAuth→Ym,liveCred→Yh,decodeKaSecret→Xz,dataCred→Xx,isU64→Xw,encodeKaRequest→Xv,bytes→Xu,encodeKaSecret→Xj,encodeKaAnswer→Xk,text→Xd,toCross→Xf,putN→Xg,pGet→Xb,readHead→Xn,encodeKaReply→Xh,decodeKaReply→Wz,keyValid→Wy
open Kerb.Client renaming mk→Zx
open Kerb.KaWait renaming mk→Zw
open Kerb.KaRequest renaming mk→Zj
open Kerb.Cache renaming mk→Zh
open Kerb.Db renaming mk→Yv
open Kerb.Cred renaming mk→Yf,av→Xp
open Kerb.Entry renaming av→Yg,mk→Xq
open Kerb.Prin renaming valid→Xy
open Kerb.Ticket renaming mk→Xm
namespace Go.Proofs.YtaikjfcgemjghaaGreat
open Go Go.Abs
set_option linter.unusedVariables false
def tbl:List (Option TI):=[
 none,
 none,
 some ⟨1,8,.int .i64,[.int .i64 0],[.int .i64],[.int .i64]⟩,
 some ⟨1,8,.int .i64,[.int .i64 0],[.int .i64],[.int .i64]⟩,
 some ⟨1,1,.bool,[.bool false],[.bool],[.bool]⟩,
 some ⟨1,1,.u8,[.u8 0],[.u8],[.u8]⟩,
 some ⟨1,1,.u8,[.u8 0],[.u8],[.u8]⟩,
 some ⟨4,24,.struct [(0,2),(1,3),(2,4),(3,6)],[.int .i64 0,.int .i64 0,.bool false,.u8 0],[.int .i64,.int .i64,.bool,.u8],[.int .i64,.int .i64,.bool,.u8]⟩,
 none,
 some ⟨1,16,.str,[.str []],[.str],[.str]⟩,
 none,
 none,
 some ⟨1,8,.int .u64,[.int .u64 0],[.int .u64],[.int .u64]⟩,
 none,
 none,
 some ⟨1,8,.ptr 270,[.nilp],[.ptr],[]⟩,
 some ⟨1,8,.ptr 273,[.nilp],[.ptr],[]⟩,
 some ⟨1,8,.ptr 281,[.nilp],[.ptr],[]⟩,
 some ⟨1,8,.struct [(0,17)],[.nilp],[.ptr],[]⟩,
 some ⟨1,8,.struct [(0,17)],[.nilp],[.ptr],[]⟩,
 none,
 some ⟨1,4,.int .i32,[.int .i32 0],[.int .i32],[.int .i32]⟩,
 none,
 some ⟨1,24,.slice 75 false,[.nils],[.sl 9],[]⟩,
 some ⟨2,40,.struct [(0,9),(1,23)],[.str [],.nils],[.str,.sl 9],[]⟩,
 some ⟨2,40,.struct [(0,9),(1,23)],[.str [],.nils],[.str,.sl 9],[]⟩,
 none,
 some ⟨3,48,.struct [(0,9),(1,9),(2,9)],[.str [],.str [],.str []],[.str,.str,.str],[.str,.str,.str]⟩,
 some ⟨3,48,.struct [(0,9),(1,9),(2,9)],[.str [],.str [],.str []],[.str,.str,.str],[.str,.str,.str]⟩,
 none,
 some ⟨1,24,.slice 51 false,[.nils],[.sl 8],[]⟩,
 some ⟨4,72,.struct [(0,28),(3,30)],[.str [],.str [],.str [],.nils],[.str,.str,.str,.sl 8],[]⟩,
 some ⟨4,72,.struct [(0,28),(3,30)],[.str [],.str [],.str [],.nils],[.str,.str,.str,.sl 8],[]⟩,
 some ⟨1,8,.int .u64,[.int .u64 0],[.int .u64],[.int .u64]⟩,
 some ⟨1,8,.int .u64,[.int .u64 0],[.int .u64],[.int .u64]⟩,
 some ⟨19,240,.struct [(0,28),(3,3),(4,3),(5,4),(6,32),(10,3),(11,28),(14,34),(15,3),(16,3),(17,3),(18,3)],[.str [],.str [],.str [],.int .i64 0,.int .i64 0,.bool false,.str [],.str [],.str [],.nils,.int .i64 0,.str [],.str [],.str [],.int .u64 0,.int .i64 0,.int .i64 0,.int .i64 0,.int .i64 0],[.str,.str,.str,.int .i64,.int .i64,.bool,.str,.str,.str,.sl 8,.int .i64,.str,.str,.str,.int .u64,.int .i64,.int .i64,.int .i64,.int .i64],[]⟩,
 some ⟨19,240,.struct [(0,28),(3,3),(4,3),(5,4),(6,32),(10,3),(11,28),(14,34),(15,3),(16,3),(17,3),(18,3)],[.str [],.str [],.str [],.int .i64 0,.int .i64 0,.bool false,.str [],.str [],.str [],.nils,.int .i64 0,.str [],.str [],.str [],.int .u64 0,.int .i64 0,.int .i64 0,.int .i64 0,.int .i64 0],[.str,.str,.str,.int .i64,.int .i64,.bool,.str,.str,.str,.sl 8,.int .i64,.str,.str,.str,.int .u64,.int .i64,.int .i64,.int .i64,.int .i64],[]⟩,
 some ⟨1,8,.int .i64,[.int .i64 0],[.int .i64],[.int .i64]⟩,
 none,
 none,
 none,
 some ⟨9,96,.struct [(0,3),(1,3),(2,3),(3,3),(4,28),(7,34),(8,34)],[.int .i64 0,.int .i64 0,.int .i64 0,.int .i64 0,.str [],.str [],.str [],.int .u64 0,.int .u64 0],[.int .i64,.int .i64,.int .i64,.int .i64,.str,.str,.str,.int .u64,.int .u64],[.int .i64,.int .i64,.int .i64,.int .i64,.str,.str,.str,.int .u64,.int .u64]⟩,
 some ⟨9,96,.struct [(0,3),(1,3),(2,3),(3,3),(4,28),(7,34),(8,34)],[.int .i64 0,.int .i64 0,.int .i64 0,.int .i64 0,.str [],.str [],.str [],.int .u64 0,.int .u64 0],[.int .i64,.int .i64,.int .i64,.int .i64,.str,.str,.str,.int .u64,.int .u64],[.int .i64,.int .i64,.int .i64,.int .i64,.str,.str,.str,.int .u64,.int .u64]⟩,
 some ⟨1,24,.slice 5 true,[.nils],[.bsl],[]⟩,
 none,
 none,
 some ⟨16,216,.struct [(0,3),(1,28),(4,28),(7,28),(10,34),(11,34),(12,34),(13,43),(14,3),(15,3)],[.int .i64 0,.str [],.str [],.str [],.str [],.str [],.str [],.str [],.str [],.str [],.int .u64 0,.int .u64 0,.int .u64 0,.nils,.int .i64 0,.int .i64 0],[.int .i64,.str,.str,.str,.str,.str,.str,.str,.str,.str,.int .u64,.int .u64,.int .u64,.bsl,.int .i64,.int .i64],[]⟩,
 some ⟨16,216,.struct [(0,3),(1,28),(4,28),(7,28),(10,34),(11,34),(12,34),(13,43),(14,3),(15,3)],[.int .i64 0,.str [],.str [],.str [],.str [],.str [],.str [],.str [],.str [],.str [],.int .u64 0,.int .u64 0,.int .u64 0,.nils,.int .i64 0,.int .i64 0],[.int .i64,.str,.str,.str,.str,.str,.str,.str,.str,.str,.int .u64,.int .u64,.int .u64,.bsl,.int .i64,.int .i64],[]⟩,
 none,
 none,
 some ⟨8,104,.struct [(0,28),(3,34),(4,3),(5,3),(6,3),(7,43)],[.str [],.str [],.str [],.int .u64 0,.int .i64 0,.int .i64 0,.int .i64 0,.nils],[.str,.str,.str,.int .u64,.int .i64,.int .i64,.int .i64,.bsl],[]⟩,
 some ⟨8,104,.struct [(0,28),(3,34),(4,3),(5,3),(6,3),(7,43)],[.str [],.str [],.str [],.int .u64 0,.int .i64 0,.int .i64 0,.int .i64 0,.nils],[.str,.str,.str,.int .u64,.int .i64,.int .i64,.int .i64,.bsl],[]⟩,
 none,
 none,
 none,
 none,
 none,
 none,
 none,
 some ⟨1,24,.slice 63 false,[.nils],[.sl 13],[]⟩,
 none,
 some ⟨1,2,.int .u16,[.int .u16 0],[.int .u16],[.int .u16]⟩,
 some ⟨13,14,.struct [(0,5),(1,5),(2,5),(3,5),(4,5),(5,5),(6,5),(7,5),(8,5),(9,5),(10,5),(11,5),(12,61)],[.u8 0,.u8 0,.u8 0,.u8 0,.u8 0,.u8 0,.u8 0,.u8 0,.u8 0,.u8 0,.u8 0,.u8 0,.int .u16 0],[.u8,.u8,.u8,.u8,.u8,.u8,.u8,.u8,.u8,.u8,.u8,.u8,.int .u16],[.u8,.u8,.u8,.u8,.u8,.u8,.u8,.u8,.u8,.u8,.u8,.u8,.int .u16]⟩,
 some ⟨13,14,.struct [(0,5),(1,5),(2,5),(3,5),(4,5),(5,5),(6,5),(7,5),(8,5),(9,5),(10,5),(11,5),(12,61)],[.u8 0,.u8 0,.u8 0,.u8 0,.u8 0,.u8 0,.u8 0,.u8 0,.u8 0,.u8 0,.u8 0,.u8 0,.int .u16 0],[.u8,.u8,.u8,.u8,.u8,.u8,.u8,.u8,.u8,.u8,.u8,.u8,.int .u16],[.u8,.u8,.u8,.u8,.u8,.u8,.u8,.u8,.u8,.u8,.u8,.u8,.int .u16]⟩,
 none,
 some ⟨1,24,.slice 25 false,[.nils],[.sl 2],[]⟩,
 none,
 none,
 none,
 some ⟨10,160,.struct [(0,3),(1,28),(4,3),(5,9),(6,43),(7,9),(8,9),(9,43)],[.int .i64 0,.str [],.str [],.str [],.int .i64 0,.str [],.nils,.str [],.str [],.nils],[.int .i64,.str,.str,.str,.int .i64,.str,.bsl,.str,.str,.bsl],[]⟩,
 some ⟨10,160,.struct [(0,3),(1,28),(4,3),(5,9),(6,43),(7,9),(8,9),(9,43)],[.int .i64 0,.str [],.str [],.str [],.int .i64 0,.str [],.nils,.str [],.str [],.nils],[.int .i64,.str,.str,.str,.int .i64,.str,.bsl,.str,.str,.bsl],[]⟩,
 none,
 none,
 none,
 some ⟨9,88,.struct [(0,9),(1,9),(2,34),(3,3),(4,3),(5,3),(6,3),(7,3),(8,3)],[.str [],.str [],.int .u64 0,.int .i64 0,.int .i64 0,.int .i64 0,.int .i64 0,.int .i64 0,.int .i64 0],[.str,.str,.int .u64,.int .i64,.int .i64,.int .i64,.int .i64,.int .i64,.int .i64],[.str,.str,.int .u64,.int .i64,.int .i64,.int .i64,.int .i64,.int .i64,.int .i64]⟩,
 some ⟨9,88,.struct [(0,9),(1,9),(2,34),(3,3),(4,3),(5,3),(6,3),(7,3),(8,3)],[.str [],.str [],.int .u64 0,.int .i64 0,.int .i64 0,.int .i64 0,.int .i64 0,.int .i64 0,.int .i64 0],[.str,.str,.int .u64,.int .i64,.int .i64,.int .i64,.int .i64,.int .i64,.int .i64],[.str,.str,.int .u64,.int .i64,.int .i64,.int .i64,.int .i64,.int .i64,.int .i64]⟩,
 none,
 some ⟨3,40,.struct [(0,3),(1,37),(2,43)],[.int .i64 0,.int .i64 0,.nils],[.int .i64,.int .i64,.bsl],[]⟩,
 some ⟨3,40,.struct [(0,3),(1,37),(2,43)],[.int .i64 0,.int .i64 0,.nils],[.int .i64,.int .i64,.bsl],[]⟩,
 none,
 none,
 none,
 none,
 none,
 none,
 none,
 some ⟨10,128,.struct [(0,9),(1,3),(2,34),(3,3),(4,3),(5,3),(6,28),(9,43)],[.str [],.int .i64 0,.int .u64 0,.int .i64 0,.int .i64 0,.int .i64 0,.str [],.str [],.str [],.nils],[.str,.int .i64,.int .u64,.int .i64,.int .i64,.int .i64,.str,.str,.str,.bsl],[]⟩,
 some ⟨10,128,.struct [(0,9),(1,3),(2,34),(3,3),(4,3),(5,3),(6,28),(9,43)],[.str [],.int .i64 0,.int .u64 0,.int .i64 0,.int .i64 0,.int .i64 0,.str [],.str [],.str [],.nils],[.str,.int .i64,.int .u64,.int .i64,.int .i64,.int .i64,.str,.str,.str,.bsl],[]⟩,
 none,
 none,
 none,
 none,
 some ⟨4,40,.struct [(0,5),(1,43),(2,4),(3,5)],[.u8 0,.nils,.bool false,.u8 0],[.u8,.bsl,.bool,.u8],[]⟩,
 some ⟨4,40,.struct [(0,5),(1,43),(2,4),(3,5)],[.u8 0,.nils,.bool false,.u8 0],[.u8,.bsl,.bool,.u8],[]⟩,
 none,
 some ⟨1,24,.slice 28 false,[.nils],[.sl 3],[]⟩,
 some ⟨1,24,.slice 9 false,[.nils],[.sl 1],[]⟩,
 none,
 none,
 none,
 none,
 none,
 none,
 none,
 none,
 some ⟨5,48,.struct [(0,9),(1,3),(2,3),(3,3),(4,34)],[.str [],.int .i64 0,.int .i64 0,.int .i64 0,.int .u64 0],[.str,.int .i64,.int .i64,.int .i64,.int .u64],[.str,.int .i64,.int .i64,.int .i64,.int .u64]⟩,
 some ⟨5,48,.struct [(0,9),(1,3),(2,3),(3,3),(4,34)],[.str [],.int .i64 0,.int .i64 0,.int .i64 0,.int .u64 0],[.str,.int .i64,.int .i64,.int .i64,.int .u64],[.str,.int .i64,.int .i64,.int .i64,.int .u64]⟩,
 none,
 none,
 none,
 none,
 none,
 none,
 none,
 none,
 none,
 none,
 none,
 none,
 none,
 none,
 none,
 none,
 some ⟨1,8,.ptr 125,[.nilp],[.ptr],[]⟩,
 some ⟨2,32,.struct [(0,43),(1,3)],[.nils,.int .i64 0],[.bsl,.int .i64],[]⟩,
 some ⟨2,32,.struct [(0,43),(1,3)],[.nils,.int .i64 0],[.bsl,.int .i64],[]⟩,
 none,
 none,
 some ⟨10,120,.struct [(0,4),(1,28),(4,3),(5,34),(6,3),(7,3),(8,9),(9,9)],[.bool false,.str [],.str [],.str [],.int .i64 0,.int .u64 0,.int .i64 0,.int .i64 0,.str [],.str []],[.bool,.str,.str,.str,.int .i64,.int .u64,.int .i64,.int .i64,.str,.str],[.bool,.str,.str,.str,.int .i64,.int .u64,.int .i64,.int .i64,.str,.str]⟩,
 some ⟨10,120,.struct [(0,4),(1,28),(4,3),(5,34),(6,3),(7,3),(8,9),(9,9)],[.bool false,.str [],.str [],.str [],.int .i64 0,.int .u64 0,.int .i64 0,.int .i64 0,.str [],.str []],[.bool,.str,.str,.str,.int .i64,.int .u64,.int .i64,.int .i64,.str,.str],[.bool,.str,.str,.str,.int .i64,.int .u64,.int .i64,.int .i64,.str,.str]⟩,
 none,
 none,
 none,
 none,
 none,
 some ⟨1,8,.ptr 137,[.nilp],[.ptr],[]⟩,
 some ⟨16,232,.struct [(0,70),(10,25),(12,3),(13,3),(14,3),(15,34)],[.int .i64 0,.str [],.str [],.str [],.int .i64 0,.str [],.nils,.str [],.str [],.nils,.str [],.nils,.int .i64 0,.int .i64 0,.int .i64 0,.int .u64 0],[.int .i64,.str,.str,.str,.int .i64,.str,.bsl,.str,.str,.bsl,.str,.sl 9,.int .i64,.int .i64,.int .i64,.int .u64],[]⟩,
 some ⟨16,232,.struct [(0,70),(10,25),(12,3),(13,3),(14,3),(15,34)],[.int .i64 0,.str [],.str [],.str [],.int .i64 0,.str [],.nils,.str [],.str [],.nils,.str [],.nils,.int .i64 0,.int .i64 0,.int .i64 0,.int .u64 0],[.int .i64,.str,.str,.str,.int .i64,.str,.bsl,.str,.str,.bsl,.str,.sl 9,.int .i64,.int .i64,.int .i64,.int .u64],[]⟩,
 some ⟨20,288,.struct [(0,25),(2,43),(3,47),(19,4)],[.str [],.nils,.nils,.int .i64 0,.str [],.str [],.str [],.str [],.str [],.str [],.str [],.str [],.str [],.int .u64 0,.int .u64 0,.int .u64 0,.nils,.int .i64 0,.int .i64 0,.bool false],[.str,.sl 9,.bsl,.int .i64,.str,.str,.str,.str,.str,.str,.str,.str,.str,.int .u64,.int .u64,.int .u64,.bsl,.int .i64,.int .i64,.bool],[]⟩,
 some ⟨20,288,.struct [(0,25),(2,43),(3,47),(19,4)],[.str [],.nils,.nils,.int .i64 0,.str [],.str [],.str [],.str [],.str [],.str [],.str [],.str [],.str [],.int .u64 0,.int .u64 0,.int .u64 0,.nils,.int .i64 0,.int .i64 0,.bool false],[.str,.sl 9,.bsl,.int .i64,.str,.str,.str,.str,.str,.str,.str,.str,.str,.int .u64,.int .u64,.int .u64,.bsl,.int .i64,.int .i64,.bool],[]⟩,
 none,
 none,
 none,
 some ⟨1,8,.ptr 145,[.nilp],[.ptr],[]⟩,
 some ⟨4,40,.struct [(0,43),(1,3),(2,4),(3,4)],[.nils,.int .i64 0,.bool false,.bool false],[.bsl,.int .i64,.bool,.bool],[]⟩,
 some ⟨4,40,.struct [(0,43),(1,3),(2,4),(3,4)],[.nils,.int .i64 0,.bool false,.bool false],[.bsl,.int .i64,.bool,.bool],[]⟩,
 none,
 none,
 none,
 none,
 none,
 none,
 none,
 none,
 none,
 some ⟨3,40,.struct [(0,3),(1,34),(2,43)],[.int .i64 0,.int .u64 0,.nils],[.int .i64,.int .u64,.bsl],[]⟩,
 some ⟨3,40,.struct [(0,3),(1,34),(2,43)],[.int .i64 0,.int .u64 0,.nils],[.int .i64,.int .u64,.bsl],[]⟩,
 none,
 none,
 none,
 none,
 none,
 none,
 none,
 none,
 none,
 none,
 none,
 none,
 none,
 none,
 none,
 none,
 none,
 none,
 none,
 none,
 some ⟨1,24,.slice 3 false,[.nils],[.sl 1],[]⟩,
 none,
 none,
 none,
 some ⟨8,104,.struct [(0,34),(1,28),(4,3),(5,3),(6,43),(7,3)],[.int .u64 0,.str [],.str [],.str [],.int .i64 0,.int .i64 0,.nils,.int .i64 0],[.int .u64,.str,.str,.str,.int .i64,.int .i64,.bsl,.int .i64],[]⟩,
 some ⟨8,104,.struct [(0,34),(1,28),(4,3),(5,3),(6,43),(7,3)],[.int .u64 0,.str [],.str [],.str [],.int .i64 0,.int .i64 0,.nils,.int .i64 0],[.int .u64,.str,.str,.str,.int .i64,.int .i64,.bsl,.int .i64],[]⟩,
 none,
 none,
 none,
 none,
 none,
 none,
 none,
 none,
 none,
 none,
 some ⟨3,40,.struct [(0,43),(1,3),(2,4)],[.nils,.int .i64 0,.bool false],[.bsl,.int .i64,.bool],[]⟩,
 some ⟨3,40,.struct [(0,43),(1,3),(2,4)],[.nils,.int .i64 0,.bool false],[.bsl,.int .i64,.bool],[]⟩,
 none,
 some ⟨1,4,.int .u32,[.int .u32 0],[.int .u32],[.int .u32]⟩,
 none,
 none,
 none,
 none,
 none,
 none,
 none,
 some ⟨1,8,.int .u64,[.int .u64 0],[.int .u64],[.int .u64]⟩,
 none,
 none,
 none,
 none,
 none,
 none,
 none,
 none,
 none,
 some ⟨15,176,.struct [(0,3),(1,28),(4,28),(7,3),(8,3),(9,34),(10,34),(11,34),(12,3),(13,9),(14,3)],[.int .i64 0,.str [],.str [],.str [],.str [],.str [],.str [],.int .i64 0,.int .i64 0,.int .u64 0,.int .u64 0,.int .u64 0,.int .i64 0,.str [],.int .i64 0],[.int .i64,.str,.str,.str,.str,.str,.str,.int .i64,.int .i64,.int .u64,.int .u64,.int .u64,.int .i64,.str,.int .i64],[.int .i64,.str,.str,.str,.str,.str,.str,.int .i64,.int .i64,.int .u64,.int .u64,.int .u64,.int .i64,.str,.int .i64]⟩,
 some ⟨15,176,.struct [(0,3),(1,28),(4,28),(7,3),(8,3),(9,34),(10,34),(11,34),(12,3),(13,9),(14,3)],[.int .i64 0,.str [],.str [],.str [],.str [],.str [],.str [],.int .i64 0,.int .i64 0,.int .u64 0,.int .u64 0,.int .u64 0,.int .i64 0,.str [],.int .i64 0],[.int .i64,.str,.str,.str,.str,.str,.str,.int .i64,.int .i64,.int .u64,.int .u64,.int .u64,.int .i64,.str,.int .i64],[.int .i64,.str,.str,.str,.str,.str,.str,.int .i64,.int .i64,.int .u64,.int .u64,.int .u64,.int .i64,.str,.int .i64]⟩,
 none,
 none,
 none,
 none,
 none,
 none,
 none,
 none,
 none,
 none,
 none,
 none,
 none,
 none,
 none,
 none,
 none,
 none,
 none,
 none,
 none,
 some ⟨1,24,.slice 240 false,[.nils],[.sl 4],[]⟩,
 none,
 some ⟨4,48,.struct [(0,9),(1,9),(2,3),(3,34)],[.str [],.str [],.int .i64 0,.int .u64 0],[.str,.str,.int .i64,.int .u64],[.str,.str,.int .i64,.int .u64]⟩,
 some ⟨4,48,.struct [(0,9),(1,9),(2,3),(3,34)],[.str [],.str [],.int .i64 0,.int .u64 0],[.str,.str,.int .i64,.int .u64],[.str,.str,.int .i64,.int .u64]⟩,
 none,
 none,
 some ⟨1,8,.ptr 194,[.nilp],[.ptr],[]⟩,
 none,
 none,
 none,
 none,
 none,
 none,
 none,
 none,
 none,
 none,
 none,
 none,
 none,
 none,
 none,
 none,
 none,
 none,
 some ⟨1,8,.ptr 9,[.nilp],[.ptr],[]⟩,
 some ⟨1,24,.slice 262 false,[.nils],[.sl 1],[]⟩,
 none,
 none,
 none,
 some ⟨4,4,.arr 4 5 true,[.u8 0,.u8 0,.u8 0,.u8 0],[.u8,.u8,.u8,.u8],[]⟩,
 some ⟨1,24,.slice 43 false,[.nils],[.sl 1],[]⟩,
 some ⟨4,40,.struct [(0,17),(1,17),(2,17),(3,9)],[.nilp,.nilp,.nilp,.str []],[.ptr,.ptr,.ptr,.str],[]⟩,
 none,
 some ⟨0,0,.arr 0 16 false,[],[],[]⟩,
 none,
 none,
 some ⟨1,1,.u8,[.u8 0],[.u8],[.u8]⟩,
 some ⟨1,1,.u8,[.u8 0],[.u8],[.u8]⟩,
 none,
 some ⟨1,8,.ptr 5,[.nilp],[.ptr],[]⟩,
 some ⟨1,4,.int .i32,[.int .i32 0],[.int .i32],[.int .i32]⟩,
 some ⟨1,4,.int .i32,[.int .i32 0],[.int .i32],[.int .i32]⟩,
 none,
 none,
 none]
def keepT:List (Nat×Nat×List Keep):=[(4,7,[.val 0 59,.val 2 43,.val 6 5,.val 7 43,.val 8 3,.val 9 3,.val 10 34,.val 22 4,.cells 23 [.str,.sl 9],.ptr 23 23 0,.cells 24 [.str,.sl 9],.ptr 24 24 0,.val 25 3]),
 (4,15,[.val 0 59,.val 2 43,.val 6 5,.val 7 43,.val 8 3,.val 9 3,.val 10 34,.val 22 4,.cells 23 [.str,.sl 9],.ptr 23 23 0,.cells 24 [.str,.sl 9],.ptr 24 24 0,.val 25 3,.val 26 43,.val 27 3,.val 28 3,.val 29 34,.val 30 3]),
 (5,7,[.val 0 59,.val 3 5,.val 8 4,.cells 9 [.str,.sl 9],.ptr 9 9 0,.val 10 3]),
 (5,14,[.val 0 59,.val 3 5,.val 8 4,.cells 9 [.str,.sl 9],.ptr 9 9 0,.val 10 3,.cells 11 [.str,.sl 9],.ptr 11 11 0,.cells 15 [.int .i64,.str,.str,.str,.int .i64,.str,.bsl,.str,.str,.bsl],.ptr 15 15 0,.val 16 37,.val 17 3]),
 (6,6,[.val 2 61,.val 6 4,.cells 7 [.str,.sl 9],.ptr 7 7 0,.cells 8 [.u8,.u8,.u8,.u8,.u8,.u8,.u8,.u8,.u8,.u8,.u8,.u8,.int .u16],.ptr 8 8 0,.cells 9 [.u8,.u8,.u8,.u8,.u8,.u8,.u8,.u8,.u8,.u8,.u8,.u8,.int .u16],.ptr 9 9 0,.val 10 3]),
 (7,7,[.val 0 59,.val 4 5,.val 10 4,.cells 11 [.str,.sl 9],.ptr 11 11 0,.val 12 3]),
 (10,4,[.val 0 5,.val 1 5,.val 2 5,.cells 6 [.str,.sl 9],.ptr 6 6 0,.cellsR 7 [.imm (.str),.own 20701 75 9 false],.ptr 7 7 0,.val 8 95,.val 9 3]),
 (10,3000008,[.val 0 5,.val 1 5,.val 2 5,.cells 6 [.str,.sl 9],.ptr 6 6 0,.cellsR 7 [.imm (.str),.own 20701 75 9 false],.ptr 7 7 0,.val 8 95,.val 9 3,.cells 10 [.str,.str,.int .u64,.int .i64,.int .i64,.int .i64,.int .i64,.int .i64,.int .i64],.ptr 10 10 0]),
 (10,3000010,[.val 0 5,.val 1 5,.val 2 5,.cells 6 [.str,.sl 9],.ptr 6 6 0,.cellsR 7 [.imm (.str),.own 20701 75 9 false],.ptr 7 7 0,.val 8 95,.val 9 3,.cells 10 [.str,.str,.int .u64,.int .i64,.int .i64,.int .i64,.int .i64,.int .i64,.int .i64],.ptr 10 10 0]),
 (20,2,[.cells 2 [.str,.str,.str,.sl 8],.ptr 2 2 0,.cells 3 [.str,.str,.str],.ptr 3 3 0,.cells 4 [.str,.str,.str,.int .u64,.int .i64,.int .i64,.int .i64,.bsl],.ptr 4 4 0,.val 5 4,.val 6 3]),
 (23,3,[.cells 4 [.str,.sl 9],.ptr 4 4 0,.cells 11 [.bsl,.int .i64],.ptr 5 11 0,.cells 6 [.str,.sl 9],.ptr 6 6 0]),
 (23,6,[.cells 4 [.str,.sl 9],.ptr 4 4 0,.cells 11 [.bsl,.int .i64],.ptr 5 11 0,.cells 6 [.str,.sl 9],.ptr 6 6 0,.cells 7 [.str,.str,.int .u64,.int .i64,.int .i64,.int .i64,.int .i64,.int .i64,.int .i64],.ptr 7 7 0,.val 8 3]),
 (26,4,[.cells 2 [.str,.sl 9],.ptr 2 2 0,.cells 3 [.str,.sl 9],.ptr 3 3 0,.val 4 4,.val 5 3]),
 (29,6,[.cells 1 [.str,.sl 9],.ptr 1 1 0,.val 2 37,.val 3 3]),
 (31,3,[.val 1 9,.val 2 9,.cells 3 [.str,.sl 9],.ptr 3 3 0,.val 8 3,.val 9 3,.val 10 3]),
 (55,9,[.cells 2 [.str,.str,.str,.sl 8],.ptr 2 2 0,.cells 3 [.str,.str,.str,.int .u64,.int .i64,.int .i64,.int .i64,.bsl],.ptr 3 3 0,.cells 4 [.str,.str,.str,.sl 8],.ptr 4 4 0,.rowL 8 51 8 false,.val 28 30,.val 29 3,.val 30 3]),
 (63,1000023,[.val 0 3]),
 (64,2000001,[.cells 1 [.int .i64,.str,.str,.str,.int .i64,.str,.bsl,.str,.str,.bsl],.ptr 1 1 0,.val 13 4,.val 3 37]),
 (64,2000003,[.cells 1 [.int .i64,.str,.str,.str,.int .i64,.str,.bsl,.str,.str,.bsl],.ptr 1 1 0,.val 46 4,.val 3 37]),
 (64,2000005,[.cells 1 [.int .i64,.str,.str,.str,.int .i64,.str,.bsl,.str,.str,.bsl],.ptr 1 1 0,.val 56 4,.val 3 37]),
 (64,2000007,[.cells 1 [.int .i64,.str,.str,.str,.int .i64,.str,.bsl,.str,.str,.bsl],.ptr 1 1 0,.val 72 4,.val 3 37]),
 (64,2000009,[.cells 1 [.int .i64,.str,.str,.str,.int .i64,.str,.bsl,.str,.str,.bsl],.ptr 1 1 0,.val 113 4,.val 3 37]),
 (69,5,[.val 1 177,.val 4 4,.val 5 37,.val 6 3,.val 7 4,.val 9 3]),
 (82,5,[.val 0 43,.val 4 34,.val 5 3]),
 (84,3,[.cells 4 [.str,.str,.str,.sl 8],.ptr 4 4 0,.cells 12 [.bsl,.int .i64],.ptr 5 12 0,.cellsR 6 [.imm (.str),.imm (.str),.imm (.str),.own 20603 51 8 false],.ptr 6 6 0]),
 (84,7,[.cells 4 [.str,.str,.str,.sl 8],.ptr 4 4 0,.cells 12 [.bsl,.int .i64],.ptr 5 12 0,.cellsR 6 [.imm (.str),.imm (.str),.imm (.str),.own 20603 51 8 false],.ptr 6 6 0,.cells 7 [.str,.str,.str,.int .u64,.int .i64,.int .i64,.int .i64,.bsl],.ptr 7 7 0,.val 8 4,.val 9 3]),
 (85,8,[.cells 2 [.str,.str,.str,.sl 8],.ptr 2 2 0,.cells 3 [.str,.str,.str,.int .u64,.int .i64,.int .i64,.int .i64,.bsl],.ptr 3 3 0,.cells 4 [.str,.str,.str,.sl 8],.ptr 4 4 0,.rowL 7 51 8 false,.val 8 3]),
 (90,6,[.cells 1 [.str,.str,.str,.sl 8],.ptr 1 1 0,.val 2 37,.val 14 30,.val 15 3,.val 16 3]),
 (105,5,[.val 0 3,.val 2 177,.val 8 3,.val 9 3]),
 (105,7,[.val 0 3,.val 2 177,.val 8 3,.val 9 3]),
 (124,2,[.val 0 3,.val 7 177,.val 8 3,.val 9 3]),
 (135,3,[.val 0 34,.rowB 3 5 false,.val 4 3]),
 (136,2,[.rowB 3 5 false]),
 (151,2,[.rowL 0 3 1 false,.val 7 177,.val 8 3,.val 9 3]),
 (164,4,[.val 0 43,.val 1 3,.val 4 9,.val 5 3,.val 6 37,.val 7 3]),
 (167,2,[.val 0 9,.val 1 9,.val 4 4,.val 5 3]),
 (167,7,[.val 0 9,.val 1 9,.val 4 4,.val 5 3,.val 6 3]),
 (170,3,[.cells 0 [.bsl,.int .i64],.ptr 0 0 0,.cells 2 [.str,.str,.str,.int .u64,.int .i64,.int .i64,.int .i64,.bsl],.ptr 2 2 0,.cellsR 3 [.imm (.str),.imm (.str),.imm (.str),.imm (.int .u64),.imm (.int .i64),.imm (.int .i64),.imm (.int .i64),.own 20307 5 1 true],.ptr 3 3 0,.val 4 3]),
 (171,6,[.cells 1 [.str,.str,.str,.sl 8],.ptr 1 1 0,.val 2 37,.val 3 3]),
 (173,2,[.val 0 30,.cells 3 [.str,.str,.str],.ptr 3 3 0,.val 4 3,.val 7 30,.val 8 3,.val 9 3]),
 (181,3,[.val 0 34,.rowB 3 5 false,.val 7 3,.val 8 3]),
 (193,3,[.val 0 237,.val 1 9,.val 2 9,.val 8 3,.val 9 3]),
 (197,2,[.val 0 3,.val 4 4,.val 7 177,.val 8 3,.val 9 3]),
 (210,2,[.val 0 9,.val 1 9,.val 4 4,.val 7 3,.val 8 3]),
 (212,3,[.val 1 3,.val 2 3,.val 3 4,.rowB 9 5 false,.val 10 3]),
 (215,4,[.val 0 43,.val 1 3,.cells 4 [.str,.str,.str],.ptr 4 4 0,.val 5 3,.val 6 37,.cells 7 [.str,.str,.str],.ptr 7 7 0,.psl 14 7 [0,1,2],.val 15 3,.val 16 3]),
 (223,3,[.val 0 237,.val 1 9,.val 2 9,.val 8 3,.val 9 4,.val 12 237,.val 13 3,.val 14 3]),
 (233,6,[.val 2 3,.val 3 4,.val 11 43,.val 12 3,.val 14 3,.val 15 3]),
 (235,3,[.val 0 43,.val 1 3,.val 2 3,.val 3 4,.barr 9 false,.ptr 9 9 0,.val 12 3,.val 13 3]),
 (236,3,[.val 0 268,.val 3 3,.val 9 268,.val 10 3,.val 11 3]),
 (236,11,[.rowB 6 5 false,.val 25 268,.val 26 3,.val 27 3]),
 (241,6,[.val 0 43,.val 1 3,.val 2 3,.val 3 4,.val 12 3,.val 22 3,.val 23 3]),
 (243,5,[.val 4 34,.val 10 43,.val 11 3,.val 12 3]),
 (252,3,[.val 1 9,.val 2 9,.val 6 3,.val 7 37,.val 8 3,.val 9 4,.val 13 23,.val 14 3,.val 15 3]),
 (253,6,[.cells 1 [.str,.sl 9],.ptr 1 1 0,.val 2 37,.val 15 23,.val 16 3,.val 17 3]),
 (255,3,[.val 2 3,.val 3 3,.val 6 177,.val 7 3,.val 8 3])]
def ownT:List Nat:=[136,212,258,134,140,144,236,60,235,240,179,186,238]
def rtsT:List (Nat×List Nat):=[(13,[34]),(16,[34]),(20,[51,4]),(21,[4]),(31,[3,37]),(37,[4]),(39,[4]),(44,[4]),(51,[9]),(58,[4]),(71,[4]),(78,[4]),(87,[96]),(89,[4]),(93,[28]),(103,[177]),(110,[25]),(112,[3]),(115,[28]),(121,[4]),(124,[3]),(131,[3]),(132,[4]),(135,[43]),(136,[43]),(141,[43]),(143,[43]),(161,[3,4,37]),(163,[]),(164,[9,3,37]),(165,[43,3,37]),(167,[4]),(168,[4]),(172,[4]),(173,[3]),(174,[4]),(175,[4]),(176,[4]),(177,[4]),(180,[4]),(181,[43]),(183,[4]),(192,[4]),(193,[3,4]),(195,[25]),(197,[4]),(199,[4]),(202,[4]),(203,[4]),(206,[4]),(209,[43]),(211,[34]),(212,[43]),(234,[4]),(237,[4]),(239,[4]),(242,[37]),(247,[4]),(258,[43]),(260,[3]),(264,[3]),(35,[9]),(42,[28]),(48,[25]),(54,[3,4]),(69,[4,37]),(73,[9]),(74,[43]),(76,[4]),(86,[28]),(91,[3,3,4]),(92,[3]),(101,[4]),(104,[3]),(105,[3,4]),(114,[25]),(125,[51]),(133,[4]),(134,[43]),(138,[4]),(139,[4]),(140,[43]),(142,[43]),(144,[43]),(185,[43]),(196,[3,4,37]),(200,[43,3,37]),(233,[3,3,37]),(236,[43]),(241,[3,3,37]),(248,[3]),(259,[3]),(11,[28]),(18,[28]),(40,[4]),(41,[3]),(60,[43,37]),(63,[43,37]),(72,[28]),(77,[37]),(79,[43,37]),(82,[34,4]),(88,[4]),(99,[37]),(106,[3]),(109,[3,37]),(116,[4,37]),(118,[43]),(129,[51,4]),(130,[4]),(162,[3,3,37]),(166,[3,3,37]),(169,[3,3,37]),(182,[43]),(187,[43]),(198,[3,3,37]),(201,[3,3,37]),(214,[9,3,37]),(235,[43]),(240,[43]),(244,[3,3,37]),(246,[3]),(10,[25]),(29,[37]),(36,[32,37]),(46,[43]),(47,[3,37]),(57,[51,37]),(64,[43,37]),(70,[3]),(75,[3]),(80,[156,3,37]),(81,[3]),(83,[43,37]),(95,[43,37]),(97,[3,37]),(117,[3]),(119,[3]),(170,[51]),(171,[37]),(178,[37]),(179,[43]),(186,[43]),(189,[43]),(194,[43,37]),(205,[3]),(210,[4]),(213,[37]),(238,[43]),(243,[34,4]),(12,[36,37]),(28,[70,37]),(32,[43,4]),(84,[32]),(85,[32,37]),(94,[43,37]),(100,[106,37]),(102,[34,3,3,3,37]),(111,[43,4]),(113,[25,37]),(126,[4]),(127,[4]),(137,[43,37]),(188,[43]),(190,[43]),(204,[156,3,37]),(207,[34]),(34,[36]),(49,[25,43,47,4]),(61,[43,37]),(108,[43,4]),(120,[43,37]),(122,[43,4]),(128,[4]),(191,[129,37]),(52,[78,37]),(56,[4]),(98,[129,37]),(107,[47,182,37]),(45,[43,47,4]),(50,[25,43,47,4]),(90,[37]),(184,[37]),(215,[28,3,37]),(245,[37]),(15,[25,43,47,4]),(38,[37]),(55,[32,37]),(96,[43,37]),(146,[28]),(208,[43,37]),(43,[43,37]),(123,[87,37]),(14,[42,43,37]),(19,[42,43,37]),(53,[87,37]),(17,[36,42,51,37]),(9,[4]),(3,[4])]
def sp13:Abs.Spec:=fun xs bl=>match xs,bl with
 | [.int .i64 n],[]=>chk (decide (0≤n)&&decide (n≤1000)) (some (.int .u64 (Kerb.long n),[]))
 | _,_=>none
def sp16:Abs.Spec:=fun xs bl=>match xs,bl with
 | [.int .i64 n],[]=>chk (decide (0≤n)&&decide (n≤1000)) (some (.int .u64 (Kerb.session n),[]))
 | _,_=>none
def sp20:Abs.Spec:=fun xs bl=>match xs,bl with
 | [.agg [.str o1,.str o2,.str o3,.sl 8 els],.agg [.str x,.str y,.str z]],[]=>chk (els.all Yk&&decide (els.length≤1000000)) (some (.tup [.agg [.str ((Yz (els.map Zy) ⟨x,y,z⟩).1).service.name,.str ((Yz (els.map Zy) ⟨x,y,z⟩).1).service.inst,.str ((Yz (els.map Zy) ⟨x,y,z⟩).1).service.realm,.int .u64 ((Yz (els.map Zy) ⟨x,y,z⟩).1).session,.int .i64 ((Yz (els.map Zy) ⟨x,y,z⟩).1).life,.int .i64 ((Yz (els.map Zy) ⟨x,y,z⟩).1).kvno,.int .i64 ((Yz (els.map Zy) ⟨x,y,z⟩).1).issued,.bs ((Yz (els.map Zy) ⟨x,y,z⟩).1).ticket],.bool (Yz (els.map Zy) ⟨x,y,z⟩).2],[]))
 | _,_=>none
def sp21:Abs.Spec:=fun xs bl=>match xs,bl with
 | [.agg [.str x,.str y,.str z,.int .u64 k,.int .i64 lf,.int .i64 kv,.int .i64 iss,.bs tk],.agg [.str s1,.str s2,.str s3,.int .u64 sk2,.int .i64 lf2,.int .i64 kv2,.int .i64 is2,.bs tk2]],[]=>some (.bool ((x==s1&&(y==s2&&z==s3))&&k==sk2&&lf==lf2&&kv==kv2&&iss==is2&&tk==tk2),[])
 | _,_=>none
def sp31:Abs.Spec:=fun xs bl=>match xs,bl with
 | [.agg [.str rl,.sl 9 els],.str n,.str i],[]=>chk (els.all Yq&&decide (els.length≤1000000)) (some (.tup [.int .i64 (Kerb.findEnt (els.map Zz) n i).1,.int .i64 (Kerb.findEnt (els.map Zz) n i).2],[]))
 | _,_=>none
def sp37:Abs.Spec:=fun xs bl=>match xs,bl with
 | [.int .i64 n,.int .i64 m],[]=>some (.bool (Yu n m),[])
 | _,_=>none
def sp39:Abs.Spec:=fun xs bl=>match xs,bl with
 | [.int .i64 n,.int .i64 m],[]=>some (.bool (Yu n m),[])
 | _,_=>none
def sp44:Abs.Spec:=fun xs bl=>match xs,bl with
 | [.int .i64 n,.int .i64 m],[]=>some (.bool (Yu n m),[])
 | _,_=>none
def sp51:Abs.Spec:=fun xs bl=>match xs,bl with
 | [.int .i64 n],[]=>some (.str (Kerb.kaLabel n),[])
 | _,_=>none
def sp58:Abs.Spec:=fun xs bl=>match xs,bl with
 | [.ptr 0 0],[(0,[.bs l,.int .i64 pos])]=>some (.bool (decide (pos<(l.length:Int))),[[.bs l,.int .i64 pos]])
 | _,_=>none
def sp71:Abs.Spec:=fun xs bl=>match xs,bl with
 | [.int .i64 n],[]=>some (.bool (n==1||n==3),[])
 | _,_=>none
def sp78:Abs.Spec:=fun xs bl=>match xs,bl with
 | [.agg [.str en,.str ei,.int .u64 ek,.int .i64 ev,.int .i64 ex,.int .i64 em,.int .i64 ea,.int .i64 ef,.int .i64 et],.agg [.str fn,.str fi,.int .u64 fk,.int .i64 fv,.int .i64 fx,.int .i64 fm,.int .i64 fa,.int .i64 ff,.int .i64 ft]],[]=>some (.bool (Kerb.Entry.less (Xq en ei ek ev ex em ea ef et) (Xq fn fi fk fv fx fm fa ff ft)),[])
 | _,_=>none
def sp87:Abs.Spec:=fun xs bl=>match xs,bl with
 | [],[]=>some (.sl 1 [.str [65,84,72],.str [66,79,83],.str [67,65,77]],[])
 | _,_=>none
def sp89:Abs.Spec:=fun xs bl=>match xs,bl with
 | [.int .i64 n,.int .i64 m],[]=>some (.bool (Yu n m),[])
 | _,_=>none
def sp93:Abs.Spec:=fun xs bl=>match xs,bl with
 | [.str r,.str t],[]=>some (.agg [.str [107,114,98,116,103,116],.str t,.str r],[])
 | _,_=>none
def sp103:Abs.Spec:=fun xs bl=>match xs,bl with
 | [.sl 1 els,.int .i64 t],[]=>chk (decide (els.length≤1000000)) (some (.sl 1 (if t=0 then els else els++[.int .i64 t]),[]))
 | _,_=>none
def sp110:Abs.Spec:=fun xs bl=>match xs,bl with
 | [.agg [.str rl,.sl 9 els],.int .i64 i,.agg [.str en,.str ei,.int .u64 ek,.int .i64 ev,.int .i64 ex,.int .i64 em,.int .i64 ea,.int .i64 ef,.int .i64 et]],[]=>chk (els.all Yq&&decide (els.length≤1000000)&&decide (0≤i)&&decide (i<els.length)) (some (.agg [.str (Kerb.setEnt (Yv rl (els.map Zz)) i (Xq en ei ek ev ex em ea ef et)).realm,.sl 9 ((Kerb.setEnt (Yv rl (els.map Zz)) i (Xq en ei ek ev ex em ea ef et)).entries.map Yg)],[]))
 | _,_=>none
def sp112:Abs.Spec:=fun xs bl=>match xs,bl with
 | [.int .i64 n],[]=>chk (decide (0≤n)&&decide (n≤4294967295)) (some (.int .i64 (Kerb.kaNext n),[]))
 | _,_=>none
def sp115:Abs.Spec:=fun xs bl=>match xs,bl with
 | [.str r,.str t],[]=>some (.agg [.str [107,114,98,116,103,116],.str t,.str r],[])
 | _,_=>none
def sp121:Abs.Spec:=fun xs bl=>match xs,bl with
 | [.bs a,.bs b],[]=>some (.bool (a==b),[])
 | _,_=>none
def sp124:Abs.Spec:=fun xs bl=>match xs,bl with
 | [.int .i64 n,.sl 1 els],[]=>chk (allInts els&&decide (els.length≤1000000)) (some (.int .i64 (Kerb.least n (intsIn els)),[]))
 | _,_=>none
def sp131:Abs.Spec:=fun xs bl=>match xs,bl with
 | [.ptr 0 0,.int .i64 n],[(0,[.bs l,.int .i64 pos])]=>chk (decide (l.length≤4611686018427387904)&&decide (0≤pos)) (some (.int .i64 (Kerb.next l pos n),[[.bs l,.int .i64 (Kerb.nextPos l pos n)]]))
 | _,_=>none
def sp132:Abs.Spec:=fun xs bl=>match xs,bl with
 | [.int .i64 n,.int .i64 m],[]=>some (.bool (Yu n m),[])
 | _,_=>none
def sp135:Abs.Spec:=fun xs bl=>match xs,bl with
 | [.int .u64 k],[]=>chk (decide (0≤k)&&decide (k<18446744073709551616)) (some (.bs (Kerb.keyBytes k),[]))
 | _,_=>none
def sp136:Abs.Spec:=fun xs bl=>match xs,bl with
 | [.bs b],[]=>chk (decide (b.length≤70368744177664)) (some (.ownB (Kerb.pad b),[]))
 | _,_=>none
def sp141:Abs.Spec:=fun xs bl=>match xs,bl with
 | [.int .i64 k,.bool little],[]=>some (.bs (Kerb.header k little),[])
 | _,_=>none
def sp143:Abs.Spec:=fun xs bl=>match xs,bl with
 | [.bs b,.str s],[]=>chk (decide (b.length+s.length≤70368744177664)) (some (.bs (Kerb.putText b s),[]))
 | _,_=>none
def sp161:Abs.Spec:=fun xs bl=>match xs,bl with
 | [.bs b],[]=>some (.tup [.int .i64 (Xn b).kind,.bool (Xn b).little,.int .i64 (Xn b).err],[])
 | _,_=>none
def sp163:Abs.Spec:=fun xs bl=>match xs,bl with
 | [.ptr 0 0,.int .i64 nx,.int .i64 e],[(0,[.bs B,.int .i64 at_,.bool li,.bool bad])]=>some (.tup [],[[.bs B,.int .i64 (cond (bad || !(e==0)) at_ nx),.bool li,.bool (bad || !(e==0))]])
 | _,_=>none
def sp164:Abs.Spec:=fun xs bl=>match xs,bl with
 | [.bs b,.int .i64 pos],[]=>chk (decide (b.length≤140737488355328)) (some (.tup [.str (Xd b pos).val,.int .i64 (Xd b pos).next,.int .i64 (Xd b pos).err],[]))
 | _,_=>none
def sp165:Abs.Spec:=fun xs bl=>match xs,bl with
 | [.bs b,.int .i64 pos,.int .i64 n],[]=>chk (decide (b.length≤140737488355328)) (some (.tup [.bs (Xu b pos n).val,.int .i64 (Xu b pos n).next,.int .i64 (Xu b pos n).err],[]))
 | _,_=>none
def sp167:Abs.Spec:=fun xs bl=>match xs,bl with
 | [.str s,.str bad],[]=>chk (decide (s.length≤9223372036854775807)&&decide (bad.length≤100)) (some (.bool (Kerb.printable s bad&&decide (s.length≤39)),[]))
 | _,_=>none
def sp168:Abs.Spec:=fun xs bl=>match xs,bl with
 | [.int .i64 n,.int .i64 m],[]=>some (.bool (Yu n m),[])
 | _,_=>none
def sp172:Abs.Spec:=fun xs bl=>match xs,bl with
 | [.int .i64 n,.int .i64 m],[]=>some (.bool (Yu n m),[])
 | _,_=>none
def sp173:Abs.Spec:=fun xs bl=>match xs,bl with
 | [.sl 8 els,.agg [.str x,.str y,.str z]],[]=>chk (els.all Yk&&decide (els.length≤1000000)) (some (.int .i64 ((Kerb.credAt (els.map Zy) ⟨x,y,z⟩:Nat):Int),[]))
 | _,_=>none
def sp174:Abs.Spec:=fun xs bl=>match xs,bl with
 | [.int .i64 k],[]=>some (.bool (Kerb.isClass k),[])
 | _,_=>none
def sp175:Abs.Spec:=fun xs bl=>match xs,bl with
 | [.int .i64 k],[]=>some (.bool (Kerb.isSerial k),[])
 | _,_=>none
def sp176:Abs.Spec:=fun xs bl=>match xs,bl with
 | [.int .i64 n],[]=>some (.bool (Yu n 4294967295),[])
 | _,_=>none
def sp177:Abs.Spec:=fun xs bl=>match xs,bl with
 | [.int .i64 n],[]=>some (.bool (Yu n 255),[])
 | _,_=>none
def sp180:Abs.Spec:=fun xs bl=>match xs,bl with
 | [.str l],[]=>some (.bool (Kerb.timed l),[])
 | _,_=>none
def sp181:Abs.Spec:=fun xs bl=>match xs,bl with
 | [.int .u64 k],[]=>chk (decide (0≤k)&&decide (k<18446744073709551616)) (some (.bs (Kerb.keyBytes k),[]))
 | _,_=>none
def sp183:Abs.Spec:=fun xs bl=>match xs,bl with
 | [.int .i64 k],[]=>some (.bool (Kerb.isKind k),[])
 | _,_=>none
def sp192:Abs.Spec:=fun xs bl=>match xs,bl with
 | [.int .i64 n],[]=>some (.bool (Yu n 4294967295),[])
 | _,_=>none
def sp193:Abs.Spec:=fun xs bl=>match xs,bl with
 | [.sl 4 xls,.str a,.str b],[]=>chk (xls.all Kerb.isCross&&decide (xls.length≤1000000)) (some (.tup [.int .i64 (Kerb.findCross (xls.map Xf) a b).1,.bool (Kerb.findCross (xls.map Xf) a b).2],[]))
 | _,_=>none
def sp195:Abs.Spec:=fun xs bl=>match xs,bl with
 | [.agg [.str rl,.sl 9 els],.int .i64 i,.agg [.str en,.str ei,.int .u64 ek,.int .i64 ev,.int .i64 ex,.int .i64 em,.int .i64 ea,.int .i64 ef,.int .i64 et]],[]=>chk (els.all Yq&&decide (els.length≤1000000)&&decide (0≤i)&&decide (i<els.length)) (some (.agg [.str (Kerb.setEnt (Yv rl (els.map Zz)) i (Xq en ei ek ev ex em ea ef et)).realm,.sl 9 ((Kerb.setEnt (Yv rl (els.map Zz)) i (Xq en ei ek ev ex em ea ef et)).entries.map Yg)],[]))
 | _,_=>none
def sp197:Abs.Spec:=fun xs bl=>match xs,bl with
 | [.int .i64 k,.sl 1 els],[]=>chk (allInts els&&decide (els.length≤1000)) (some (.bool ((intsIn els).contains k),[]))
 | _,_=>none
def sp199:Abs.Spec:=fun xs bl=>match xs,bl with
 | [.ptr 0 0,.int .i64 nx,.int .i64 e],[(0,[.bs B,.int .i64 at_,.bool bad])]=>some (.bool (!(bad || !(e==0))),[[.bs B,.int .i64 (cond (bad || !(e==0)) at_ nx),.bool (bad || !(e==0))]])
 | _,_=>none
def sp202:Abs.Spec:=fun xs bl=>match xs,bl with
 | [.int .i64 n],[]=>some (.bool (Kerb.kaOp n),[])
 | _,_=>none
def sp203:Abs.Spec:=fun xs bl=>match xs,bl with
 | [.int .i64 n,.int .i64 m],[]=>some (.bool (Yu n m),[])
 | _,_=>none
def sp206:Abs.Spec:=fun xs bl=>match xs,bl with
 | [.str l],[]=>some (.bool (Kerb.ticketed l),[])
 | _,_=>none
def sp209:Abs.Spec:=fun xs bl=>match xs,bl with
 | [.bs b],[]=>chk (decide (b.length≤140737488355328)) (some (.bs b,[]))
 | _,_=>none
def sp211:Abs.Spec:=fun xs bl=>match xs,bl with
 | [.int .i64 c,.int .i64 n],[]=>some (.int .u64 (cond (Kerb.isClass c&&Kerb.isSerial n) (c*72057594037927936+n) 0),[])
 | _,_=>none
def sp212:Abs.Spec:=fun xs bl=>match xs,bl with
 | [.bs b,.int .i64 n,.int .i64 k,.bool little],[]=>chk (decide (k=1∨k=2∨k=4)&&decide (b.length≤70368744177664)) (some (.ownB (b++Xg n k.toNat little),[]))
 | _,_=>none
def sp234:Abs.Spec:=fun xs bl=>match xs,bl with
 | [.int .i64 n,.int .i64 m],[]=>some (.bool (Yu n m),[])
 | _,_=>none
def sp237:Abs.Spec:=fun xs bl=>match xs,bl with
 | [.int .i64 k],[]=>some (.bool (Kerb.isKind k),[])
 | _,_=>none
def sp239:Abs.Spec:=fun xs bl=>match xs,bl with
 | [.int .i64 n,.int .i64 m],[]=>some (.bool (Yu n m),[])
 | _,_=>none
def sp242:Abs.Spec:=fun xs bl=>match xs,bl with
 | [.bs b,.int .i64 pos,.int .i64 n],[]=>chk (decide (b.length≤4611686018427387904)) (some (.int .i64 (Kerb.room b pos n),[]))
 | _,_=>none
def sp247:Abs.Spec:=fun xs bl=>match xs,bl with
 | [.int .i64 n,.int .i64 m],[]=>some (.bool (Yu n m),[])
 | _,_=>none
def sp258:Abs.Spec:=fun xs bl=>match xs,bl with
 | [.nils,.int .i64 n],[]=>chk (decide (0≤n)&&decide (n≤140737488355328)) (some (.ownB [],[]))
 | _,_=>none
def sp260:Abs.Spec:=fun xs bl=>match xs,bl with
 | [.bs s,.u8 c],[]=>some (.int .i64 (Kerb.indexOf c s),[])
 | _,_=>none
def sp264:Abs.Spec:=fun xs bl=>match xs,bl with
 | [.str s,.u8 c],[]=>some (.int .i64 (Kerb.indexOf c s),[])
 | _,_=>none
def sp35:Abs.Spec:=fun xs bl=>match xs,bl with
 | [.int .i64 n],[]=>chk (decide (0≤n)) (some (.str (Kerb.realm n),[]))
 | _,_=>none
def sp42:Abs.Spec:=fun xs bl=>match xs,bl with
 | [.agg [.str m1,.str m2,.str m3,.int .i64 ad,.int .i64 sk,.bool li,.str o1,.str o2,.str o3,.sl 8 els,.int .i64 wt,.str w1,.str w2,.str w3,.int .u64 se,.int .i64 tm,.int .i64 lf,.int .i64 cs,.int .i64 tc]],[]=>some (.agg [.str [107,114,98,116,103,116],.str m3,.str m3],[])
 | _,_=>none
def sp48:Abs.Spec:=fun xs bl=>match xs,bl with
 | [.agg [.str rl,.sl 9 els],.int .i64 i,.int .i64 now],[]=>chk (els.all Yq&&decide (els.length≤1000000)&&decide (0≤i)&&decide (i<els.length)&&decide (Kerb.Db.err ⟨rl,els.map Zz⟩=0)&&Yu now 4294967295) (some (.agg [.str (Kerb.kaFailed ⟨rl,els.map Zz⟩ i now).realm,.sl 9 ((Kerb.kaFailed ⟨rl,els.map Zz⟩ i now).entries.map Yg)],[]))
 | _,_=>none
def sp54:Abs.Spec:=fun xs bl=>match xs,bl with
 | [.int .i64 n],[]=>chk (decide (-9223372036854775808≤n)&&decide (n≤9223372036854775807)) (some (.tup [.int .i64 (cond (decide (n<300)) 0 (Kerb.fromSec n)),.bool (!decide (n<300))],[]))
 | _,_=>none
def sp69:Abs.Spec:=fun xs bl=>match xs,bl with
 | [.bs b,.sl 1 els],[]=>chk (allInts els&&decide (els.length≤1000)) (some (.tup [.bool (Kerb.headIs b (intsIn els)).1,.int .i64 (Kerb.headIs b (intsIn els)).2],[]))
 | _,_=>none
def sp73:Abs.Spec:=fun xs bl=>match xs,bl with
 | [.ptr 0 0],[(0,[.bs B,.int .i64 at_,.bool li,.bool bad])]=>chk (decide (B.length≤140737488355328)) (some (.str (Xd B at_).val,[[.bs B,.int .i64 (cond (bad || !((Xd B at_).err==0)) at_ (Xd B at_).next),.bool li,.bool (bad || !((Xd B at_).err==0))]]))
 | _,_=>none
def sp74:Abs.Spec:=fun xs bl=>match xs,bl with
 | [.ptr 0 0,.int .i64 n],[(0,[.bs B,.int .i64 at_,.bool li,.bool bad])]=>chk (decide (B.length≤140737488355328)) (some (.bs (Xu B at_ n).val,[[.bs B,.int .i64 (cond (bad || !((Xu B at_ n).err==0)) at_ (Xu B at_ n).next),.bool li,.bool (bad || !((Xu B at_ n).err==0))]]))
 | _,_=>none
def sp76:Abs.Spec:=fun xs bl=>match xs,bl with
 | [.str s],[]=>chk (decide (s.length≤9223372036854775807)) (some (.bool (Kerb.validRealm s),[]))
 | _,_=>none
def sp86:Abs.Spec:=fun xs bl=>match xs,bl with
 | [.agg [.str m1,.str m2,.str m3],.agg [.str x,.str y,.str z]],[]=>some (.agg [.str [107,114,98,116,103,116],.str z,.str m3],[])
 | _,_=>none
def sp91:Abs.Spec:=fun xs bl=>match xs,bl with
 | [.int .u64 k],[]=>chk (decide (0≤k)&&decide (k<18446744073709551616)) (some (.tup [.int .i64 (cond (Wy k) (Kerb.keyClass k) 0),.int .i64 (cond (Wy k) (Kerb.keySerial k) 0),.bool (Wy k)],[]))
 | _,_=>none
def sp92:Abs.Spec:=fun xs bl=>match xs,bl with
 | [.int .i64 i,.int .i64 l],[]=>some (.int .i64 (Kerb.tEnd i l),[])
 | _,_=>none
def sp101:Abs.Spec:=fun xs bl=>match xs,bl with
 | [.int .i64 a,.int .i64 b,.int .i64 s],[]=>some (.bool (Kerb.near a b s),[])
 | _,_=>none
def sp104:Abs.Spec:=fun xs bl=>match xs,bl with
 | [.int .i64 i,.int .i64 l],[]=>some (.int .i64 (Kerb.tEnd i l),[])
 | _,_=>none
def sp105:Abs.Spec:=fun xs bl=>match xs,bl with
 | [.int .i64 n,.int .i64 w,.sl 1 els],[]=>chk (allInts els&&decide (els.length≤1000000)&&(intsIn els).all Kerb.isI64) (some (.tup [.int .i64 (Kerb.grantLife n w (intsIn els)).1,.bool (Kerb.grantLife n w (intsIn els)).2],[]))
 | _,_=>none
def sp114:Abs.Spec:=fun xs bl=>match xs,bl with
 | [.agg [.str rl,.sl 9 els],.int .i64 i],[]=>chk (els.all Yq&&decide (els.length≤1000000)&&decide (0≤i)&&decide (i<els.length)) (some (.agg [.str (Zu ⟨rl,els.map Zz⟩ i).realm,.sl 9 ((Zu ⟨rl,els.map Zz⟩ i).entries.map Yg)],[]))
 | _,_=>none
def sp125:Abs.Spec:=fun xs bl=>match xs,bl with
 | [.agg [.str x,.str y,.str z,.int .u64 k,.int .i64 lf,.int .i64 kv,.int .i64 iss,.bs tk]],[]=>chk (decide (tk.length≤140737488355328)) (some (.agg [.str x,.str y,.str z,.int .u64 k,.int .i64 lf,.int .i64 kv,.int .i64 iss,.bs tk],[]))
 | _,_=>none
def sp133:Abs.Spec:=fun xs bl=>match xs,bl with
 | [.int .u64 k],[]=>chk (decide (0≤k)&&decide (k<18446744073709551616)) (some (.bool (Wy k),[]))
 | _,_=>none
def sp134:Abs.Spec:=fun xs bl=>match xs,bl with
 | [.bs b,.int .i64 n,.bool little],[]=>chk (decide (b.length≤70368744177664)) (some (.ownB (b++Xg n 4 little),[]))
 | _,_=>none
def sp138:Abs.Spec:=fun xs bl=>match xs,bl with
 | [.str s],[]=>chk (decide (s.length≤9223372036854775807)) (some (.bool (Kerb.validName s),[]))
 | _,_=>none
def sp139:Abs.Spec:=fun xs bl=>match xs,bl with
 | [.str s],[]=>chk (decide (s.length≤9223372036854775807)) (some (.bool (Kerb.validInst s),[]))
 | _,_=>none
def sp140:Abs.Spec:=fun xs bl=>match xs,bl with
 | [.bs b,.int .i64 n],[]=>chk (decide (b.length≤70368744177664)) (some (.ownB (b++Xg n 1 false),[]))
 | _,_=>none
def sp142:Abs.Spec:=fun xs bl=>match xs,bl with
 | [.bs b,.agg [.str x,.str y,.str z]],[]=>chk (decide (b.length+x.length+y.length+z.length≤70368744170000)) (some (.bs (Kerb.putPrin b ⟨x,y,z⟩),[]))
 | _,_=>none
def sp144:Abs.Spec:=fun xs bl=>match xs,bl with
 | [.bs b,.int .i64 n,.bool little],[]=>chk (decide (b.length≤70368744177664)) (some (.ownB (b++Xg n 2 little),[]))
 | _,_=>none
def sp185:Abs.Spec:=fun xs bl=>match xs,bl with
 | [.int .i64 k,.bool little],[]=>some (.bs (Kerb.header k little),[])
 | _,_=>none
def sp196:Abs.Spec:=fun xs bl=>match xs,bl with
 | [.bs b],[]=>some (.tup [.int .i64 (Xn b).kind,.bool (Xn b).little,.int .i64 (Xn b).err],[])
 | _,_=>none
def sp200:Abs.Spec:=fun xs bl=>match xs,bl with
 | [.bs b,.int .i64 pos,.int .i64 n],[]=>chk (decide (b.length≤140737488355328)) (some (.tup [.bs (Xu b pos n).val,.int .i64 (Xu b pos n).next,.int .i64 (Xu b pos n).err],[]))
 | _,_=>none
def sp233:Abs.Spec:=fun xs bl=>match xs,bl with
 | [.bs b,.int .i64 pos,.int .i64 k,.bool little],[]=>chk (decide (b.length≤140737488355328)&&decide (0≤k)&&decide (k≤4)) (some (.tup [.int .i64 (Zg b pos k little).val,.int .i64 (Zg b pos k little).next,.int .i64 (Zg b pos k little).err],[]))
 | _,_=>none
def sp236:Abs.Spec:=fun xs bl=>match xs,bl with
 | [.sl 1 els],[]=>chk (allB els&&decide ((catB els).length≤140737488355328)&&decide (els.length≤1000)) (some (.ownB (catB els),[]))
 | _,_=>none
def sp241:Abs.Spec:=fun xs bl=>match xs,bl with
 | [.bs b,.int .i64 pos,.int .i64 k,.bool little],[]=>chk (decide (b.length≤4611686018427387904)&&decide (0≤k)&&decide (k≤4)) (some (.tup [.int .i64 (Zg b pos k little).val,.int .i64 (Zg b pos k little).next,.int .i64 (Zg b pos k little).err],[]))
 | _,_=>none
def sp248:Abs.Spec:=fun xs bl=>match xs,bl with
 | [.bs s,.u8 c],[]=>some (.int .i64 (Kerb.indexOf c s),[])
 | _,_=>none
def sp259:Abs.Spec:=fun xs bl=>match xs,bl with
 | [.str s,.u8 c],[]=>some (.int .i64 (Kerb.indexOf c s),[])
 | _,_=>none
def sp11:Abs.Spec:=fun xs bl=>match xs,bl with
 | [.int .i64 n],[]=>chk (decide (0≤n)&&decide (n≤4611686018427387904)) (some (.agg [.str (Kerb.user n).name,.str (Kerb.user n).inst,.str (Kerb.user n).realm],[]))
 | _,_=>none
def sp18:Abs.Spec:=fun xs bl=>match xs,bl with
 | [.int .i64 n],[]=>chk (decide (0≤n)&&decide (n≤4611686018427387904)) (some (.agg [.str (Kerb.service n).name,.str (Kerb.service n).inst,.str (Kerb.service n).realm],[]))
 | _,_=>none
def sp40:Abs.Spec:=fun xs bl=>match xs,bl with
 | [.int .u64 k],[]=>chk (decide (0≤k)&&decide (k<18446744073709551616)) (some (.bool (Wy k),[]))
 | _,_=>none
def sp41:Abs.Spec:=fun xs bl=>match xs,bl with
 | [.int .i64 n,.int .i64 l],[]=>some (.int .i64 (Kerb.kaEnd n l),[])
 | _,_=>none
def sp60:Abs.Spec:=fun xs bl=>match xs,bl with
 | [.agg [.str lb,.int .i64 t,.int .i64 st,.int .i64 en,.int .u64 k]],[]=>chk (decide (0≤k)&&decide (k<18446744073709551616)) (some (.tup [.ownB (Xj ⟨lb,t,st,en,k⟩).val,.int .i64 (Xj ⟨lb,t,st,en,k⟩).err],[]))
 | _,_=>none
def sp63:Abs.Spec:=fun xs bl=>match xs,bl with
 | [.int .i64 kd,.int .u64 k,.bs bd],[]=>chk (decide (0≤k)&&decide (k<18446744073709551616)) (some (.tup [.bs (Kerb.makeBox kd k bd).val,.int .i64 (Kerb.makeBox kd k bd).err],[]))
 | _,_=>none
def sp72:Abs.Spec:=fun xs bl=>match xs,bl with
 | [.ptr 0 0],[(0,[.bs B,.int .i64 at_,.bool li,.bool bad])]=>chk (decide (B.length≤140737488355328)) (some (.agg [.str (Kerb.rdPrin B at_ bad).p.name,.str (Kerb.rdPrin B at_ bad).p.inst,.str (Kerb.rdPrin B at_ bad).p.realm],[[.bs B,.int .i64 (Kerb.rdPrin B at_ bad).pos,.bool li,.bool (Kerb.rdPrin B at_ bad).bad]]))
 | _,_=>none
def sp77:Abs.Spec:=fun xs bl=>match xs,bl with
 | [.agg [.str en,.str ei,.int .u64 ek,.int .i64 ev,.int .i64 ex,.int .i64 em,.int .i64 ea,.int .i64 ef,.int .i64 et]],[]=>chk (decide (en.length≤9223372036854775807)&&decide (ei.length≤9223372036854775807)&&Xw ek) (some (.int .i64 (Xq en ei ek ev ex em ea ef et).err,[]))
 | _,_=>none
def sp79:Abs.Spec:=fun xs bl=>match xs,bl with
 | [.agg [.int .i64 op,.int .i64 cd,.bs bx]],[]=>some (.tup [.bs (Xh ⟨op,cd,bx⟩).val,.int .i64 (Xh ⟨op,cd,bx⟩).err],[])
 | _,_=>none
def sp82:Abs.Spec:=fun xs bl=>match xs,bl with
 | [.bs b],[]=>chk (decide (b.length≤4611686018427387904)) (some (.tup [.int .u64 (Kerb.keyRead b).1,.bool (Kerb.keyRead b).2],[]))
 | _,_=>none
def sp88:Abs.Spec:=fun xs bl=>match xs,bl with
 | [.agg [.str a,.str b,.str c]],[]=>chk (decide (a.length≤9223372036854775807)&&decide (b.length≤9223372036854775807)&&decide (c.length≤9223372036854775807)) (some (.bool (Xy ⟨a,b,c⟩),[]))
 | _,_=>none
def sp99:Abs.Spec:=fun xs bl=>match xs,bl with
 | [.int .i64 i,.int .i64 l,.int .i64 n,.int .i64 s],[]=>some (.int .i64 (Kerb.stateErr i l n s),[])
 | _,_=>none
def sp106:Abs.Spec:=fun xs bl=>match xs,bl with
 | [.int .u64 k],[]=>chk (decide (0≤k)&&decide (k<18446744073709551616)) (some (.int .i64 (Kerb.classOf k),[]))
 | _,_=>none
def sp109:Abs.Spec:=fun xs bl=>match xs,bl with
 | [.agg [.str rl,.sl 9 els],.str n,.str i,.int .i64 now,.int .i64 bit,.int .i64 xp,.int .i64 br],[]=>chk (els.all Yq&&decide (els.length≤1000000)) (some (.tup [.int .i64 (Kerb.useEnt (Yv rl (els.map Zz)) n i now bit xp br).1,.int .i64 (Kerb.useEnt (Yv rl (els.map Zz)) n i now bit xp br).2],[]))
 | _,_=>none
def sp116:Abs.Spec:=fun xs bl=>match xs,bl with
 | [.bs b,.sl 1 els],[]=>chk (allInts els&&decide (els.length≤1000)) (some (.tup [.bool (Kerb.headIs b (intsIn els)).1,.int .i64 (Kerb.headIs b (intsIn els)).2],[]))
 | _,_=>none
def sp118:Abs.Spec:=fun xs bl=>match xs,bl with
 | [.ptr 0 0,.int .i64 n],[(0,[.bs B,.int .i64 at_,.bool bad])]=>chk (decide (B.length≤140737488355328)) (some (.bs (Kerb.pBytes B n at_ bad).val,[[.bs B,.int .i64 (Kerb.pBytes B n at_ bad).pos,.bool (Kerb.pBytes B n at_ bad).bad]]))
 | _,_=>none
def sp129:Abs.Spec:=fun xs bl=>match xs,bl with
 | [.agg [.str o1,.str o2,.str o3,.sl 8 els],.agg [.str x,.str y,.str z]],[]=>chk (els.all Yk&&decide (els.length≤1000000)&&els.all Kerb.fitCred) (some (.tup [.agg [.str ((Yz (els.map Zy) ⟨x,y,z⟩).1).service.name,.str ((Yz (els.map Zy) ⟨x,y,z⟩).1).service.inst,.str ((Yz (els.map Zy) ⟨x,y,z⟩).1).service.realm,.int .u64 ((Yz (els.map Zy) ⟨x,y,z⟩).1).session,.int .i64 ((Yz (els.map Zy) ⟨x,y,z⟩).1).life,.int .i64 ((Yz (els.map Zy) ⟨x,y,z⟩).1).kvno,.int .i64 ((Yz (els.map Zy) ⟨x,y,z⟩).1).issued,.bs ((Yz (els.map Zy) ⟨x,y,z⟩).1).ticket],.bool (Yz (els.map Zy) ⟨x,y,z⟩).2],[]))
 | _,_=>none
def sp130:Abs.Spec:=fun xs bl=>match xs,bl with
 | [.agg [.str x,.str y,.str z,.int .u64 k,.int .i64 lf,.int .i64 kv,.int .i64 iss,.bs tk],.int .i64 now],[]=>some (.bool ((Yf ⟨x,y,z⟩ k lf kv iss tk).expired now),[])
 | _,_=>none
def sp162:Abs.Spec:=fun xs bl=>match xs,bl with
 | [.bs b,.int .i64 pos],[]=>chk (decide (b.length≤140737488355328)) (some (.tup [.int .i64 (Zg b pos 1 false).val,.int .i64 (Zg b pos 1 false).next,.int .i64 (Zg b pos 1 false).err],[]))
 | _,_=>none
def sp166:Abs.Spec:=fun xs bl=>match xs,bl with
 | [.bs b,.int .i64 pos,.bool little],[]=>chk (decide (b.length≤140737488355328)) (some (.tup [.int .i64 (Zg b pos 2 little).val,.int .i64 (Zg b pos 2 little).next,.int .i64 (Zg b pos 2 little).err],[]))
 | _,_=>none
def sp169:Abs.Spec:=fun xs bl=>match xs,bl with
 | [.bs b,.int .i64 pos,.bool little],[]=>chk (decide (b.length≤140737488355328)) (some (.tup [.int .i64 (Zg b pos 4 little).val,.int .i64 (Zg b pos 4 little).next,.int .i64 (Zg b pos 4 little).err],[]))
 | _,_=>none
def sp182:Abs.Spec:=fun xs bl=>match xs,bl with
 | [.bs b],[]=>chk (decide (b.length≤70368744177664)) (some (.bs (Kerb.pad b),[]))
 | _,_=>none
def sp187:Abs.Spec:=fun xs bl=>match xs,bl with
 | [.bs b,.str s],[]=>chk (decide (b.length+s.length≤70368744177664)) (some (.bs (Kerb.putText b s),[]))
 | _,_=>none
def sp198:Abs.Spec:=fun xs bl=>match xs,bl with
 | [.bs b,.int .i64 pos],[]=>chk (decide (b.length≤4611686018427387904)) (some (.tup [.int .i64 (Zg b pos 1 false).val,.int .i64 (Zg b pos 1 false).next,.int .i64 (Zg b pos 1 false).err],[]))
 | _,_=>none
def sp201:Abs.Spec:=fun xs bl=>match xs,bl with
 | [.bs b,.int .i64 pos,.bool little],[]=>chk (decide (b.length≤4611686018427387904)) (some (.tup [.int .i64 (Zg b pos 2 little).val,.int .i64 (Zg b pos 2 little).next,.int .i64 (Zg b pos 2 little).err],[]))
 | _,_=>none
def sp214:Abs.Spec:=fun xs bl=>match xs,bl with
 | [.bs b,.int .i64 pos],[]=>chk (decide (b.length≤4611686018427387904)) (some (.tup [.str (Xd b pos).val,.int .i64 (Xd b pos).next,.int .i64 (Xd b pos).err],[]))
 | _,_=>none
def sp235:Abs.Spec:=fun xs bl=>match xs,bl with
 | [.bs b,.int .i64 n,.int .i64 k,.bool little],[]=>chk (decide (k=1∨k=2∨k=4)&&decide (b.length≤70368744177664)) (some (.ownB (b++Xg n k.toNat little),[]))
 | _,_=>none
def sp240:Abs.Spec:=fun xs bl=>match xs,bl with
 | [.bs b,.bool little],[]=>chk (decide (b.length≤70368744177664)) (some (.ownB (b++Xg (cond little 1 0) 1 false),[]))
 | _,_=>none
def sp244:Abs.Spec:=fun xs bl=>match xs,bl with
 | [.bs b,.int .i64 pos,.bool little],[]=>chk (decide (b.length≤4611686018427387904)) (some (.tup [.int .i64 (Zg b pos 4 little).val,.int .i64 (Zg b pos 4 little).next,.int .i64 (Zg b pos 4 little).err],[]))
 | _,_=>none
def sp246:Abs.Spec:=fun xs bl=>match xs,bl with
 | [.str s,.u8 c],[]=>some (.int .i64 (Kerb.indexOf c s),[])
 | _,_=>none
def sp10:Abs.Spec:=fun xs bl=>match xs,bl with
 | [.u8 lf,.u8 xp,.u8 bd],[]=>some (.agg [.str (Kerb.simpleDb lf xp bd).realm,.sl 9 ((Kerb.simpleDb lf xp bd).entries.map Yg)],[])
 | _,_=>none
def sp29:Abs.Spec:=fun xs bl=>match xs,bl with
 | [.agg [.str rl,.sl 9 els]],[]=>chk (decide (rl.length≤9223372036854775807)&&els.all Yq&&decide (els.length≤1000000)) (some (.int .i64 (Yv rl (els.map Zz)).err,[]))
 | _,_=>none
def sp36:Abs.Spec:=fun xs bl=>match xs,bl with
 | [.agg [.str x,.str y,.str z]],[]=>chk (decide (x.length≤9223372036854775807)&&decide (y.length≤9223372036854775807)&&decide (z.length≤9223372036854775807)) (some (.tup [.agg [.str (cond (Xy ⟨x,y,z⟩) (Zh ⟨x,y,z⟩ []) Kerb.noCache).owner.name,.str (cond (Xy ⟨x,y,z⟩) (Zh ⟨x,y,z⟩ []) Kerb.noCache).owner.inst,.str (cond (Xy ⟨x,y,z⟩) (Zh ⟨x,y,z⟩ []) Kerb.noCache).owner.realm,.sl 8 ((cond (Xy ⟨x,y,z⟩) (Zh ⟨x,y,z⟩ []) Kerb.noCache).creds.map Xp)],.int .i64 (cond (Xy ⟨x,y,z⟩) 0 103)],[]))
 | _,_=>none
def sp46:Abs.Spec:=fun xs bl=>match xs,bl with
 | [.int .i64 op,.int .i64 e],[]=>some (.bs (Kerb.kaRefuse op e),[])
 | _,_=>none
def sp47:Abs.Spec:=fun xs bl=>match xs,bl with
 | [.agg [.str rl,.sl 9 els],.str n,.str i,.int .i64 now],[]=>chk (els.all Yq&&decide (els.length≤1000000)) (some (.tup [.int .i64 (Kerb.clientEnt (Yv rl (els.map Zz)) n i now).1,.int .i64 (Kerb.clientEnt (Yv rl (els.map Zz)) n i now).2],[]))
 | _,_=>none
def sp57:Abs.Spec:=fun xs bl=>match xs,bl with
 | [.agg [.str o1,.str o2,.str o3,.sl 8 els],.agg [.str x,.str y,.str z],.int .i64 now],[]=>chk (els.all Yk&&decide (els.length≤1000000)&&els.all Kerb.fitCred) (some (.tup [.agg [.str ((Yh (els.map Zy) ⟨x,y,z⟩ now).val).service.name,.str ((Yh (els.map Zy) ⟨x,y,z⟩ now).val).service.inst,.str ((Yh (els.map Zy) ⟨x,y,z⟩ now).val).service.realm,.int .u64 ((Yh (els.map Zy) ⟨x,y,z⟩ now).val).session,.int .i64 ((Yh (els.map Zy) ⟨x,y,z⟩ now).val).life,.int .i64 ((Yh (els.map Zy) ⟨x,y,z⟩ now).val).kvno,.int .i64 ((Yh (els.map Zy) ⟨x,y,z⟩ now).val).issued,.bs ((Yh (els.map Zy) ⟨x,y,z⟩ now).val).ticket],.int .i64 (Yh (els.map Zy) ⟨x,y,z⟩ now).err],[]))
 | _,_=>none
def sp64:Abs.Spec:=fun xs bl=>match xs,bl with
 | [.agg [.int .i64 op,.str ux,.str uy,.str uz,.int .i64 kv,.str rl,.bs tk,.str sv,.str ins,.bs bx]],[]=>chk (decide (ux.length≤9223372036854775807)&&decide (uy.length≤9223372036854775807)&&decide (uz.length≤9223372036854775807)&&decide (rl.length≤9223372036854775807)&&decide (sv.length≤9223372036854775807)&&decide (ins.length≤9223372036854775807)) (some (.tup [.bs (Xv ⟨op,⟨ux,uy,uz⟩,kv,rl,tk,sv,ins,bx⟩).val,.int .i64 (Xv ⟨op,⟨ux,uy,uz⟩,kv,rl,tk,sv,ins,bx⟩).err],[]))
 | _,_=>none
def sp70:Abs.Spec:=fun xs bl=>match xs,bl with
 | [.ptr 0 0],[(0,[.bs B,.int .i64 at_,.bool li,.bool bad])]=>chk (decide (B.length≤140737488355328)) (some (.int .i64 (Zg B at_ 1 false).val,[[.bs B,.int .i64 (cond (bad || !((Zg B at_ 1 false).err==0)) at_ (Zg B at_ 1 false).next),.bool li,.bool (bad || !((Zg B at_ 1 false).err==0))]]))
 | _,_=>none
def sp75:Abs.Spec:=fun xs bl=>match xs,bl with
 | [.ptr 0 0],[(0,[.bs B,.int .i64 at_,.bool li,.bool bad])]=>chk (decide (B.length≤140737488355328)) (some (.int .i64 (Zg B at_ 2 li).val,[[.bs B,.int .i64 (cond (bad || !((Zg B at_ 2 li).err==0)) at_ (Zg B at_ 2 li).next),.bool li,.bool (bad || !((Zg B at_ 2 li).err==0))]]))
 | _,_=>none
def sp80:Abs.Spec:=fun xs bl=>match xs,bl with
 | [.bs b],[]=>chk (decide (b.length≤140737488355328)) (some (.tup [.agg [.int .i64 (Yb b).box.kind,.int .u64 (Yb b).box.key,.bs (Yb b).box.body],.int .i64 (Yb b).n,.int .i64 (Yb b).err],[]))
 | _,_=>none
def sp81:Abs.Spec:=fun xs bl=>match xs,bl with
 | [.ptr 0 0],[(0,[.bs B,.int .i64 at_,.bool li,.bool bad])]=>chk (decide (B.length≤140737488355328)) (some (.int .i64 (Zg B at_ 4 li).val,[[.bs B,.int .i64 (cond (bad || !((Zg B at_ 4 li).err==0)) at_ (Zg B at_ 4 li).next),.bool li,.bool (bad || !((Zg B at_ 4 li).err==0))]]))
 | _,_=>none
def sp83:Abs.Spec:=fun xs bl=>match xs,bl with
 | [.agg [.str lb,.int .i64 t,.int .u64 k,.int .i64 st,.int .i64 en,.int .i64 kv,.str x,.str y,.str z,.bs tk]],[]=>chk (decide (x.length≤9223372036854775807)&&decide (y.length≤9223372036854775807)&&decide (z.length≤9223372036854775807)&&decide (0≤k)&&decide (k<18446744073709551616)) (some (.tup [.bs (Xk ⟨lb,t,k,st,en,kv,⟨x,y,z⟩,tk⟩).val,.int .i64 (Xk ⟨lb,t,k,st,en,kv,⟨x,y,z⟩,tk⟩).err],[]))
 | _,_=>none
def sp95:Abs.Spec:=fun xs bl=>match xs,bl with
 | [.int .i64 kd,.int .u64 k,.bs bd],[]=>chk (decide (0≤k)&&decide (k<18446744073709551616)) (some (.tup [.bs (Kerb.makeBox kd k bd).val,.int .i64 (Kerb.makeBox kd k bd).err],[]))
 | _,_=>none
def sp97:Abs.Spec:=fun xs bl=>match xs,bl with
 | [.agg [.str rl,.sl 9 els],.str n,.str i,.int .i64 now],[]=>chk (els.all Yq&&decide (els.length≤1000000)) (some (.tup [.int .i64 (Kerb.serviceEnt (Yv rl (els.map Zz)) n i now).1,.int .i64 (Kerb.serviceEnt (Yv rl (els.map Zz)) n i now).2],[]))
 | _,_=>none
def sp117:Abs.Spec:=fun xs bl=>match xs,bl with
 | [.ptr 0 0],[(0,[.bs B,.int .i64 at_,.bool bad])]=>chk (decide (B.length≤140737488355328)) (some (.int .i64 (Xb B 1 at_ bad).val,[[.bs B,.int .i64 (Xb B 1 at_ bad).pos,.bool (Xb B 1 at_ bad).bad]]))
 | _,_=>none
def sp119:Abs.Spec:=fun xs bl=>match xs,bl with
 | [.ptr 0 0],[(0,[.bs B,.int .i64 at_,.bool bad])]=>chk (decide (B.length≤140737488355328)) (some (.int .i64 (Xb B 2 at_ bad).val,[[.bs B,.int .i64 (Xb B 2 at_ bad).pos,.bool (Xb B 2 at_ bad).bad]]))
 | _,_=>none
def sp170:Abs.Spec:=fun xs bl=>match xs,bl with
 | [.ptr 0 0],[(0,[.bs l,.int .i64 pos])]=>chk (decide (l.length≤1000000)&&decide (0≤pos)) (some (.agg [.str (Xx l pos).service.name,.str (Xx l pos).service.inst,.str (Xx l pos).service.realm,.int .u64 (Xx l pos).session,.int .i64 (Xx l pos).life,.int .i64 (Xx l pos).kvno,.int .i64 (Xx l pos).issued,.bs (Xx l pos).ticket],[[.bs l,.int .i64 (Kerb.dataPos l pos)]]))
 | _,_=>none
def sp171:Abs.Spec:=fun xs bl=>match xs,bl with
 | [.agg [.str o1,.str o2,.str o3,.sl 8 els]],[]=>chk (decide (o1.length≤9223372036854775807)&&decide (o2.length≤9223372036854775807)&&decide (o3.length≤9223372036854775807)&&els.all Yk&&decide (els.length≤1000000)) (some (.int .i64 (Zh ⟨o1,o2,o3⟩ (els.map Zy)).err,[]))
 | _,_=>none
def sp178:Abs.Spec:=fun xs bl=>match xs,bl with
 | [.agg [.str lb,.int .i64 t,.int .i64 st,.int .i64 en,.int .u64 k]],[]=>chk (decide (0≤k)&&decide (k<18446744073709551616)) (some (.int .i64 (Xj ⟨lb,t,st,en,k⟩).err,[]))
 | _,_=>none
def sp179:Abs.Spec:=fun xs bl=>match xs,bl with
 | [.bs b,.int .i64 n,.bool little],[]=>chk (decide (b.length≤70368744177664)) (some (.ownB (b++Xg n 4 little),[]))
 | _,_=>none
def sp186:Abs.Spec:=fun xs bl=>match xs,bl with
 | [.bs b,.int .i64 n],[]=>chk (decide (b.length≤70368744177664)) (some (.ownB (b++Xg n 1 false),[]))
 | _,_=>none
def sp189:Abs.Spec:=fun xs bl=>match xs,bl with
 | [.bs b,.agg [.str x,.str y,.str z]],[]=>chk (decide (b.length+x.length+y.length+z.length≤70368744170000)) (some (.bs (Kerb.putPrin b ⟨x,y,z⟩),[]))
 | _,_=>none
def sp194:Abs.Spec:=fun xs bl=>match xs,bl with
 | [.agg [.int .u64 k,.str x,.str y,.str z,.int .i64 lf,.int .i64 kv,.bs tk,.int .i64 t],.bool little],[]=>chk (decide (x.length≤9223372036854775807)&&decide (y.length≤9223372036854775807)&&decide (z.length≤9223372036854775807)&&decide (0≤k)&&decide (k<18446744073709551616)) (some (.tup [.bs (Kerb.encodePart ⟨k,⟨x,y,z⟩,lf,kv,tk,t⟩ little).val,.int .i64 (Kerb.encodePart ⟨k,⟨x,y,z⟩,lf,kv,tk,t⟩ little).err],[]))
 | _,_=>none
def sp205:Abs.Spec:=fun xs bl=>match xs,bl with
 | [.ptr 0 0],[(0,[.bs B,.int .i64 at_,.bool bad])]=>chk (decide (B.length≤140737488355328)) (some (.int .i64 (Xb B 4 at_ bad).val,[[.bs B,.int .i64 (Xb B 4 at_ bad).pos,.bool (Xb B 4 at_ bad).bad]]))
 | _,_=>none
def sp210:Abs.Spec:=fun xs bl=>match xs,bl with
 | [.str s,.str bad],[]=>chk (decide (s.length≤9223372036854775807)) (some (.bool (Kerb.printable s bad),[]))
 | _,_=>none
def sp213:Abs.Spec:=fun xs bl=>match xs,bl with
 | [.agg [.bool li,.str x,.str y,.str z,.int .i64 ad,.int .u64 k,.int .i64 lf,.int .i64 iss,.str sv,.str ins]],[]=>chk (decide (x.length≤9223372036854775807)&&decide (y.length≤9223372036854775807)&&decide (z.length≤9223372036854775807)&&decide (sv.length≤9223372036854775807)&&decide (ins.length≤9223372036854775807)&&decide (0≤k)&&decide (k<18446744073709551616)) (some (.int .i64 (Xm li ⟨x,y,z⟩ ad k lf iss sv ins).err,[]))
 | _,_=>none
def sp238:Abs.Spec:=fun xs bl=>match xs,bl with
 | [.bs b,.int .i64 n,.bool little],[]=>chk (decide (b.length≤70368744177664)) (some (.ownB (b++Xg n 2 little),[]))
 | _,_=>none
def sp243:Abs.Spec:=fun xs bl=>match xs,bl with
 | [.bs b],[]=>chk (decide (b.length≤4611686018427387904)) (some (.tup [.int .u64 (Kerb.keyRead b).1,.bool (Kerb.keyRead b).2],[]))
 | _,_=>none
def sp12:Abs.Spec:=fun xs bl=>match xs,bl with
 | [.agg [.str x,.str y,.str z],.int .i64 ad,.int .i64 sk,.bool li],[]=>chk (decide (x.length≤9223372036854775807)&&decide (y.length≤9223372036854775807)&&decide (z.length≤9223372036854775807)) (some (.tup [.agg [.str ((Zd ⟨x,y,z⟩ ad sk li).val).me.name,.str ((Zd ⟨x,y,z⟩ ad sk li).val).me.inst,.str ((Zd ⟨x,y,z⟩ ad sk li).val).me.realm,.int .i64 ((Zd ⟨x,y,z⟩ ad sk li).val).address,.int .i64 ((Zd ⟨x,y,z⟩ ad sk li).val).skew,.bool ((Zd ⟨x,y,z⟩ ad sk li).val).little,.str ((Zd ⟨x,y,z⟩ ad sk li).val).cache.owner.name,.str ((Zd ⟨x,y,z⟩ ad sk li).val).cache.owner.inst,.str ((Zd ⟨x,y,z⟩ ad sk li).val).cache.owner.realm,.sl 8 (((Zd ⟨x,y,z⟩ ad sk li).val).cache.creds.map Xp),.int .i64 ((Zd ⟨x,y,z⟩ ad sk li).val).wait,.str ((Zd ⟨x,y,z⟩ ad sk li).val).wanted.name,.str ((Zd ⟨x,y,z⟩ ad sk li).val).wanted.inst,.str ((Zd ⟨x,y,z⟩ ad sk li).val).wanted.realm,.int .u64 ((Zd ⟨x,y,z⟩ ad sk li).val).session,.int .i64 ((Zd ⟨x,y,z⟩ ad sk li).val).time,.int .i64 ((Zd ⟨x,y,z⟩ ad sk li).val).life,.int .i64 ((Zd ⟨x,y,z⟩ ad sk li).val).checksum,.int .i64 ((Zd ⟨x,y,z⟩ ad sk li).val).tick],.int .i64 (Zd ⟨x,y,z⟩ ad sk li).err],[]))
 | _,_=>none
def sp28:Abs.Spec:=fun xs bl=>match xs,bl with
 | [.bs b],[]=>chk (decide (b.length≤140737488355328)) (some (.tup [.agg [.int .i64 ((Zm b).val).op,.str ((Zm b).val).user.name,.str ((Zm b).val).user.inst,.str ((Zm b).val).user.realm,.int .i64 ((Zm b).val).kvno,.str ((Zm b).val).realm,.bs ((Zm b).val).ticket,.str ((Zm b).val).service,.str ((Zm b).val).inst,.bs ((Zm b).val).box],.int .i64 (Zm b).err],[]))
 | _,_=>none
def sp32:Abs.Spec:=fun xs bl=>match xs,bl with
 | [.bs b,.int .i64 kd,.int .u64 k],[]=>chk (decide (b.length≤140737488355328)) (some (.tup [.bs (Kerb.openBox b kd k).1,.bool (Kerb.openBox b kd k).2],[]))
 | _,_=>none
def sp84:Abs.Spec:=fun xs bl=>match xs,bl with
 | [.bs l,.int .i64 n],[]=>chk (decide (l.length≤1000000)&&decide (0≤n)&&decide (n≤1000)) (some (.agg [.str (Kerb.dataCache l n).owner.name,.str (Kerb.dataCache l n).owner.inst,.str (Kerb.dataCache l n).owner.realm,.sl 8 ((Kerb.dataCache l n).creds.map Xp)],[]))
 | _,_=>none
def sp85:Abs.Spec:=fun xs bl=>match xs,bl with
 | [.agg [.str o1,.str o2,.str o3,.sl 8 els],.agg [.str x,.str y,.str z,.int .u64 k,.int .i64 lf,.int .i64 kv,.int .i64 iss,.bs tk]],[]=>chk (decide (o1.length≤9223372036854775807)&&decide (o2.length≤9223372036854775807)&&decide (o3.length≤9223372036854775807)&&els.all Yk&&decide (els.length≤1000000)&&Yk (.agg [.str x,.str y,.str z,.int .u64 k,.int .i64 lf,.int .i64 kv,.int .i64 iss,.bs tk])) (some (.tup [.agg [.str ((Yd (Zh ⟨o1,o2,o3⟩ (els.map Zy)) (Yf ⟨x,y,z⟩ k lf kv iss tk)).val).owner.name,.str ((Yd (Zh ⟨o1,o2,o3⟩ (els.map Zy)) (Yf ⟨x,y,z⟩ k lf kv iss tk)).val).owner.inst,.str ((Yd (Zh ⟨o1,o2,o3⟩ (els.map Zy)) (Yf ⟨x,y,z⟩ k lf kv iss tk)).val).owner.realm,.sl 8 (((Yd (Zh ⟨o1,o2,o3⟩ (els.map Zy)) (Yf ⟨x,y,z⟩ k lf kv iss tk)).val).creds.map Xp)],.int .i64 (Yd (Zh ⟨o1,o2,o3⟩ (els.map Zy)) (Yf ⟨x,y,z⟩ k lf kv iss tk)).err],[]))
 | _,_=>none
def sp94:Abs.Spec:=fun xs bl=>match xs,bl with
 | [.agg [.str lb,.int .i64 t,.int .i64 st,.int .i64 en,.int .u64 k]],[]=>chk (decide (0≤k)&&decide (k<18446744073709551616)) (some (.tup [.bs (Xj ⟨lb,t,st,en,k⟩).val,.int .i64 (Xj ⟨lb,t,st,en,k⟩).err],[]))
 | _,_=>none
def sp100:Abs.Spec:=fun xs bl=>match xs,bl with
 | [.bs b],[]=>chk (decide (b.length≤140737488355328)) (some (.tup [.agg [.str ((Xz b).val).label,.int .i64 ((Xz b).val).time,.int .i64 ((Xz b).val).start,.int .i64 ((Xz b).val).stop,.int .u64 ((Xz b).val).new],.int .i64 (Xz b).err],[]))
 | _,_=>none
def sp102:Abs.Spec:=fun xs bl=>match xs,bl with
 | [.agg [.str rl,.sl 9 els],.sl 4 xls,.str n,.str i,.int .i64 now],[]=>chk (els.all Yq&&decide (els.length≤1000000)&&xls.all Kerb.isCross&&decide (xls.length≤1000000)&&decide (i.length≤9223372036854775807)) (some (.tup [.int .u64 (Kerb.svc (Yv rl (els.map Zz)) (xls.map Xf) n i now).key,.int .i64 (Kerb.svc (Yv rl (els.map Zz)) (xls.map Xf) n i now).kvno,.int .i64 (Kerb.svc (Yv rl (els.map Zz)) (xls.map Xf) n i now).life,.int .i64 (Kerb.svc (Yv rl (els.map Zz)) (xls.map Xf) n i now).expires,.int .i64 (Kerb.svc (Yv rl (els.map Zz)) (xls.map Xf) n i now).err],[]))
 | _,_=>none
def sp111:Abs.Spec:=fun xs bl=>match xs,bl with
 | [.int .i64 op,.agg [.str al,.int .i64 at_,.int .u64 ase,.int .i64 ast,.int .i64 aen,.int .i64 akv,.str a1,.str a2,.str a3,.bs atk],.int .u64 key],[]=>chk (decide (a1.length≤9223372036854775807)&&decide (a2.length≤9223372036854775807)&&decide (a3.length≤9223372036854775807)&&decide (al.length≤9223372036854775807)&&Xw ase&&Xw key) (some (.tup [.bs (Kerb.kaReplySeal op (Kerb.KaAnswer.mk al at_ ase ast aen akv ⟨a1,a2,a3⟩ atk) key).1,.bool (Kerb.kaReplySeal op (Kerb.KaAnswer.mk al at_ ase ast aen akv ⟨a1,a2,a3⟩ atk) key).2],[]))
 | _,_=>none
def sp113:Abs.Spec:=fun xs bl=>match xs,bl with
 | [.agg [.str rl,.sl 9 els],.int .i64 i,.int .u64 k],[]=>chk (decide (rl.length≤9223372036854775807)&&els.all Yq&&decide (els.length≤1000000)&&decide (0≤k)&&decide (k<18446744073709551616)) (some (.tup [.agg [.str ((Kerb.rekey (Yv rl (els.map Zz)) i k).val).realm,.sl 9 (((Kerb.rekey (Yv rl (els.map Zz)) i k).val).entries.map Yg)],.int .i64 (Kerb.rekey (Yv rl (els.map Zz)) i k).err],[]))
 | _,_=>none
def sp126:Abs.Spec:=fun xs bl=>match xs,bl with
 | [.str s],[]=>chk (decide (s.length≤9223372036854775807)) (some (.bool (Kerb.validName s),[]))
 | _,_=>none
def sp127:Abs.Spec:=fun xs bl=>match xs,bl with
 | [.str s],[]=>chk (decide (s.length≤9223372036854775807)) (some (.bool (Kerb.validInst s),[]))
 | _,_=>none
def sp137:Abs.Spec:=fun xs bl=>match xs,bl with
 | [.agg [.bool li,.str x,.str y,.str z,.int .i64 ad,.int .u64 k,.int .i64 lf,.int .i64 iss,.str sv,.str ins]],[]=>chk (decide (x.length≤9223372036854775807)&&decide (y.length≤9223372036854775807)&&decide (z.length≤9223372036854775807)&&decide (sv.length≤9223372036854775807)&&decide (ins.length≤9223372036854775807)&&decide (0≤k)&&decide (k<18446744073709551616)) (some (.tup [.bs (Kerb.encodeTicket (Xm li ⟨x,y,z⟩ ad k lf iss sv ins)).val,.int .i64 (Kerb.encodeTicket (Xm li ⟨x,y,z⟩ ad k lf iss sv ins)).err],[]))
 | _,_=>none
def sp188:Abs.Spec:=fun xs bl=>match xs,bl with
 | [.bs b,.bs t],[]=>chk (decide (b.length+t.length≤70368744170000)) (some (.bs (Kerb.putTick b t),[]))
 | _,_=>none
def sp190:Abs.Spec:=fun xs bl=>match xs,bl with
 | [.bs b,.bs t],[]=>chk (decide (b.length+t.length≤70368744170000)) (some (.bs (Kerb.putBox b t),[]))
 | _,_=>none
def sp204:Abs.Spec:=fun xs bl=>match xs,bl with
 | [.bs b],[]=>chk (decide (b.length≤140737488355328)) (some (.tup [.agg [.int .i64 (Yb b).box.kind,.int .u64 (Yb b).box.key,.bs (Yb b).box.body],.int .i64 (Yb b).n,.int .i64 (Yb b).err],[]))
 | _,_=>none
def sp207:Abs.Spec:=fun xs bl=>match xs,bl with
 | [.ptr 0 0],[(0,[.bs B,.int .i64 at_,.bool bad])]=>chk (decide (B.length≤140737488355328)) (some (.int .u64 (Kerb.pKey B at_ bad).val,[[.bs B,.int .i64 (Kerb.pKey B at_ bad).pos,.bool (Kerb.pKey B at_ bad).bad]]))
 | _,_=>none
def sp34:Abs.Spec:=fun xs bl=>match xs,bl with
 | [.agg [.u8 pw,.bs pc,.bool pt,.u8 pf]],[]=>some (.agg [.str ((Zf pw pc pt pf)).me.name,.str ((Zf pw pc pt pf)).me.inst,.str ((Zf pw pc pt pf)).me.realm,.int .i64 ((Zf pw pc pt pf)).address,.int .i64 ((Zf pw pc pt pf)).skew,.bool ((Zf pw pc pt pf)).little,.str ((Zf pw pc pt pf)).cache.owner.name,.str ((Zf pw pc pt pf)).cache.owner.inst,.str ((Zf pw pc pt pf)).cache.owner.realm,.sl 8 (((Zf pw pc pt pf)).cache.creds.map Xp),.int .i64 ((Zf pw pc pt pf)).wait,.str ((Zf pw pc pt pf)).wanted.name,.str ((Zf pw pc pt pf)).wanted.inst,.str ((Zf pw pc pt pf)).wanted.realm,.int .u64 ((Zf pw pc pt pf)).session,.int .i64 ((Zf pw pc pt pf)).time,.int .i64 ((Zf pw pc pt pf)).life,.int .i64 ((Zf pw pc pt pf)).checksum,.int .i64 ((Zf pw pc pt pf)).tick],[])
 | _,_=>none
def sp49:Abs.Spec:=fun xs bl=>match xs,bl with
 | [.agg [.str rl,.sl 9 els],.int .i64 i,.int .i64 now,.int .i64 sk,.bs bd],[]=>chk (decide (rl.length≤9223372036854775807)&&els.all Yq&&decide (els.length≤1000000)&&decide (Kerb.Db.err ⟨rl,els.map Zz⟩=0)&&decide (bd.length≤1000000)&&decide (0≤i)&&decide (i<els.length)) (some (.tup [.agg [.str ((Zk ⟨rl,els.map Zz⟩ (Zu ⟨rl,els.map Zz⟩ i) i 3 now sk bd).db).realm,.sl 9 (((Zk ⟨rl,els.map Zz⟩ (Zu ⟨rl,els.map Zz⟩ i) i 3 now sk bd).db).entries.map Yg)],.bs (Zk ⟨rl,els.map Zz⟩ (Zu ⟨rl,els.map Zz⟩ i) i 3 now sk bd).answer,.agg [.int .i64 ((Zk ⟨rl,els.map Zz⟩ (Zu ⟨rl,els.map Zz⟩ i) i 3 now sk bd).issue).kind,.str ((Zk ⟨rl,els.map Zz⟩ (Zu ⟨rl,els.map Zz⟩ i) i 3 now sk bd).issue).server.name,.str ((Zk ⟨rl,els.map Zz⟩ (Zu ⟨rl,els.map Zz⟩ i) i 3 now sk bd).issue).server.inst,.str ((Zk ⟨rl,els.map Zz⟩ (Zu ⟨rl,els.map Zz⟩ i) i 3 now sk bd).issue).server.realm,.str ((Zk ⟨rl,els.map Zz⟩ (Zu ⟨rl,els.map Zz⟩ i) i 3 now sk bd).issue).client.name,.str ((Zk ⟨rl,els.map Zz⟩ (Zu ⟨rl,els.map Zz⟩ i) i 3 now sk bd).issue).client.inst,.str ((Zk ⟨rl,els.map Zz⟩ (Zu ⟨rl,els.map Zz⟩ i) i 3 now sk bd).issue).client.realm,.str ((Zk ⟨rl,els.map Zz⟩ (Zu ⟨rl,els.map Zz⟩ i) i 3 now sk bd).issue).service.name,.str ((Zk ⟨rl,els.map Zz⟩ (Zu ⟨rl,els.map Zz⟩ i) i 3 now sk bd).issue).service.inst,.str ((Zk ⟨rl,els.map Zz⟩ (Zu ⟨rl,els.map Zz⟩ i) i 3 now sk bd).issue).service.realm,.int .u64 ((Zk ⟨rl,els.map Zz⟩ (Zu ⟨rl,els.map Zz⟩ i) i 3 now sk bd).issue).session,.int .u64 ((Zk ⟨rl,els.map Zz⟩ (Zu ⟨rl,els.map Zz⟩ i) i 3 now sk bd).issue).sealer,.int .u64 ((Zk ⟨rl,els.map Zz⟩ (Zu ⟨rl,els.map Zz⟩ i) i 3 now sk bd).issue).granter,.bs ((Zk ⟨rl,els.map Zz⟩ (Zu ⟨rl,els.map Zz⟩ i) i 3 now sk bd).issue).text,.int .i64 ((Zk ⟨rl,els.map Zz⟩ (Zu ⟨rl,els.map Zz⟩ i) i 3 now sk bd).issue).issued,.int .i64 ((Zk ⟨rl,els.map Zz⟩ (Zu ⟨rl,els.map Zz⟩ i) i 3 now sk bd).issue).stop],.bool (Zk ⟨rl,els.map Zz⟩ (Zu ⟨rl,els.map Zz⟩ i) i 3 now sk bd).ok],[]))
 | _,_=>none
def sp61:Abs.Spec:=fun xs bl=>match xs,bl with
 | [.agg [.bool li,.str x,.str y,.str z,.int .i64 ad,.int .u64 k,.int .i64 lf,.int .i64 iss,.str sv,.str ins],.int .u64 key],[]=>chk (decide (x.length≤9223372036854775807)&&decide (y.length≤9223372036854775807)&&decide (z.length≤9223372036854775807)&&decide (sv.length≤9223372036854775807)&&decide (ins.length≤9223372036854775807)&&decide (0≤k)&&decide (k<18446744073709551616)&&decide (0≤key)&&decide (key<18446744073709551616)) (some (.tup [.bs (Kerb.sealTicket (Xm li ⟨x,y,z⟩ ad k lf iss sv ins) key).val,.int .i64 (Kerb.sealTicket (Xm li ⟨x,y,z⟩ ad k lf iss sv ins) key).err],[]))
 | _,_=>none
def sp108:Abs.Spec:=fun xs bl=>match xs,bl with
 | [.int .i64 op,.str lb,.int .i64 tm,.agg [.int .i64 qk,.str q1,.str q2,.str q3,.str q4,.str q5,.str q6,.str q7,.str q8,.str q9,.int .u64 qs,.int .u64 ql,.int .u64 qg,.bs qt,.int .i64 qi,.int .i64 qe],.agg [.int .u64 pk,.str p1,.str p2,.str p3,.int .i64 pl,.int .i64 pv,.bs pt,.int .i64 pm],.int .u64 key],[]=>chk (decide (q7.length≤9223372036854775807)&&decide (q8.length≤9223372036854775807)&&decide (q9.length≤9223372036854775807)&&decide (lb.length≤9223372036854775807)&&Xw qs&&Xw key&&decide (0≤tm)&&decide (tm≤4294967295)) (some (.tup [.bs (Kerb.kaReplySeal op ⟨lb,Kerb.kaNext tm,qs,qi,Kerb.imin qe 4294967295,pv,⟨q7,q8,q9⟩,qt⟩ key).1,.bool (Kerb.kaReplySeal op ⟨lb,Kerb.kaNext tm,qs,qi,Kerb.imin qe 4294967295,pv,⟨q7,q8,q9⟩,qt⟩ key).2],[]))
 | _,_=>none
def sp120:Abs.Spec:=fun xs bl=>match xs,bl with
 | [.agg [.int .i64 op,.int .i64 cd,.bs bx]],[]=>some (.tup [.bs (Xh ⟨op,cd,bx⟩).val,.int .i64 (Xh ⟨op,cd,bx⟩).err],[])
 | _,_=>none
def sp122:Abs.Spec:=fun xs bl=>match xs,bl with
 | [.bs b,.int .i64 kd,.int .u64 k],[]=>chk (decide (b.length≤140737488355328)) (some (.tup [.bs (Kerb.openBox b kd k).1,.bool (Kerb.openBox b kd k).2],[]))
 | _,_=>none
def sp128:Abs.Spec:=fun xs bl=>match xs,bl with
 | [.str s],[]=>chk (decide (s.length≤9223372036854775807)) (some (.bool (Kerb.validRealm s),[]))
 | _,_=>none
def sp191:Abs.Spec:=fun xs bl=>match xs,bl with
 | [.bs b],[]=>chk (decide (b.length≤140737488355328)) (some (.tup [.agg [.bool ((Yw b).val).little,.str ((Yw b).val).client.name,.str ((Yw b).val).client.inst,.str ((Yw b).val).client.realm,.int .i64 ((Yw b).val).address,.int .u64 ((Yw b).val).session,.int .i64 ((Yw b).val).life,.int .i64 ((Yw b).val).issued,.str ((Yw b).val).service,.str ((Yw b).val).inst],.int .i64 (Yw b).err],[]))
 | _,_=>none
def sp52:Abs.Spec:=fun xs bl=>match xs,bl with
 | [.bs b],[]=>chk (decide (b.length≤140737488355328)) (some (.tup [.agg [.int .i64 ((Wz b).val).op,.int .i64 ((Wz b).val).code,.bs ((Wz b).val).box],.int .i64 (Wz b).err],[]))
 | _,_=>none
def sp56:Abs.Spec:=fun xs bl=>match xs,bl with
 | [.agg [.str a,.str b,.str c]],[]=>chk (decide (a.length≤9223372036854775807)&&decide (b.length≤9223372036854775807)&&decide (c.length≤9223372036854775807)) (some (.bool (Xy ⟨a,b,c⟩),[]))
 | _,_=>none
def sp98:Abs.Spec:=fun xs bl=>match xs,bl with
 | [.bs b,.int .u64 k],[]=>chk (decide (b.length≤140737488355328)) (some (.tup [.agg [.bool ((Yj b k).val).little,.str ((Yj b k).val).client.name,.str ((Yj b k).val).client.inst,.str ((Yj b k).val).client.realm,.int .i64 ((Yj b k).val).address,.int .u64 ((Yj b k).val).session,.int .i64 ((Yj b k).val).life,.int .i64 ((Yj b k).val).issued,.str ((Yj b k).val).service,.str ((Yj b k).val).inst],.int .i64 (Yj b k).err],[]))
 | _,_=>none
def sp107:Abs.Spec:=fun xs bl=>match xs,bl with
 | [.agg [.str rl,.sl 9 els],.agg [.str x,.str y,.str z],.agg [.str u,.str v,.str w],.int .i64 ad,.bool li,.int .i64 now,.int .i64 lf,.int .u64 se,.int .u64 sl,.int .u64 tg,.int .i64 kv],[]=>chk (decide (x.length≤9223372036854775807)&&decide (y.length≤9223372036854775807)&&decide (z.length≤9223372036854775807)&&decide (u.length≤9223372036854775807)&&decide (v.length≤9223372036854775807)&&decide (w.length≤9223372036854775807)&&Xw se&&Xw tg) (some (.tup [.agg [.int .i64 ((Zn rl ⟨x,y,z⟩ ⟨u,v,w⟩ ad li now lf se sl tg kv).issue).kind,.str ((Zn rl ⟨x,y,z⟩ ⟨u,v,w⟩ ad li now lf se sl tg kv).issue).server.name,.str ((Zn rl ⟨x,y,z⟩ ⟨u,v,w⟩ ad li now lf se sl tg kv).issue).server.inst,.str ((Zn rl ⟨x,y,z⟩ ⟨u,v,w⟩ ad li now lf se sl tg kv).issue).server.realm,.str ((Zn rl ⟨x,y,z⟩ ⟨u,v,w⟩ ad li now lf se sl tg kv).issue).client.name,.str ((Zn rl ⟨x,y,z⟩ ⟨u,v,w⟩ ad li now lf se sl tg kv).issue).client.inst,.str ((Zn rl ⟨x,y,z⟩ ⟨u,v,w⟩ ad li now lf se sl tg kv).issue).client.realm,.str ((Zn rl ⟨x,y,z⟩ ⟨u,v,w⟩ ad li now lf se sl tg kv).issue).service.name,.str ((Zn rl ⟨x,y,z⟩ ⟨u,v,w⟩ ad li now lf se sl tg kv).issue).service.inst,.str ((Zn rl ⟨x,y,z⟩ ⟨u,v,w⟩ ad li now lf se sl tg kv).issue).service.realm,.int .u64 ((Zn rl ⟨x,y,z⟩ ⟨u,v,w⟩ ad li now lf se sl tg kv).issue).session,.int .u64 ((Zn rl ⟨x,y,z⟩ ⟨u,v,w⟩ ad li now lf se sl tg kv).issue).sealer,.int .u64 ((Zn rl ⟨x,y,z⟩ ⟨u,v,w⟩ ad li now lf se sl tg kv).issue).granter,.bs ((Zn rl ⟨x,y,z⟩ ⟨u,v,w⟩ ad li now lf se sl tg kv).issue).text,.int .i64 ((Zn rl ⟨x,y,z⟩ ⟨u,v,w⟩ ad li now lf se sl tg kv).issue).issued,.int .i64 ((Zn rl ⟨x,y,z⟩ ⟨u,v,w⟩ ad li now lf se sl tg kv).issue).stop],.agg [.int .u64 (Zn rl ⟨x,y,z⟩ ⟨u,v,w⟩ ad li now lf se sl tg kv).part.session,.str (Zn rl ⟨x,y,z⟩ ⟨u,v,w⟩ ad li now lf se sl tg kv).part.service.name,.str (Zn rl ⟨x,y,z⟩ ⟨u,v,w⟩ ad li now lf se sl tg kv).part.service.inst,.str (Zn rl ⟨x,y,z⟩ ⟨u,v,w⟩ ad li now lf se sl tg kv).part.service.realm,.int .i64 (Zn rl ⟨x,y,z⟩ ⟨u,v,w⟩ ad li now lf se sl tg kv).part.life,.int .i64 (Zn rl ⟨x,y,z⟩ ⟨u,v,w⟩ ad li now lf se sl tg kv).part.kvno,.bs (Zn rl ⟨x,y,z⟩ ⟨u,v,w⟩ ad li now lf se sl tg kv).part.ticket,.int .i64 (Zn rl ⟨x,y,z⟩ ⟨u,v,w⟩ ad li now lf se sl tg kv).part.time],.int .i64 (Zn rl ⟨x,y,z⟩ ⟨u,v,w⟩ ad li now lf se sl tg kv).err],[]))
 | _,_=>none
def sp45:Abs.Spec:=fun xs bl=>match xs,bl with
 | [.agg [.str rl,.sl 9 els],.int .i64 now,.int .i64 ad,.int .i64 sk,.int .u64 se,.agg [.int .i64 op,.str u1,.str u2,.str u3,.int .i64 kv,.str qr,.bs tk,.str sv,.str ins,.bs bx]],[]=>chk (decide (u1.length≤9223372036854775807)&&decide (u2.length≤9223372036854775807)&&decide (u3.length≤9223372036854775807)&&decide (qr.length≤9223372036854775807)&&decide (sv.length≤9223372036854775807)&&decide (ins.length≤9223372036854775807)&&decide (rl.length≤9223372036854775807)&&Xw se&&decide (tk.length≤1000000)&&decide (bx.length≤1000000)&&els.all Yq&&decide (els.length≤1000000)&&Yu now 4294967295) (some (.tup [.bs (Zp ⟨rl,els.map Zz⟩ now ad sk se (Zj op ⟨u1,u2,u3⟩ kv qr tk sv ins bx)).answer,.agg [.int .i64 ((Zp ⟨rl,els.map Zz⟩ now ad sk se (Zj op ⟨u1,u2,u3⟩ kv qr tk sv ins bx)).issue).kind,.str ((Zp ⟨rl,els.map Zz⟩ now ad sk se (Zj op ⟨u1,u2,u3⟩ kv qr tk sv ins bx)).issue).server.name,.str ((Zp ⟨rl,els.map Zz⟩ now ad sk se (Zj op ⟨u1,u2,u3⟩ kv qr tk sv ins bx)).issue).server.inst,.str ((Zp ⟨rl,els.map Zz⟩ now ad sk se (Zj op ⟨u1,u2,u3⟩ kv qr tk sv ins bx)).issue).server.realm,.str ((Zp ⟨rl,els.map Zz⟩ now ad sk se (Zj op ⟨u1,u2,u3⟩ kv qr tk sv ins bx)).issue).client.name,.str ((Zp ⟨rl,els.map Zz⟩ now ad sk se (Zj op ⟨u1,u2,u3⟩ kv qr tk sv ins bx)).issue).client.inst,.str ((Zp ⟨rl,els.map Zz⟩ now ad sk se (Zj op ⟨u1,u2,u3⟩ kv qr tk sv ins bx)).issue).client.realm,.str ((Zp ⟨rl,els.map Zz⟩ now ad sk se (Zj op ⟨u1,u2,u3⟩ kv qr tk sv ins bx)).issue).service.name,.str ((Zp ⟨rl,els.map Zz⟩ now ad sk se (Zj op ⟨u1,u2,u3⟩ kv qr tk sv ins bx)).issue).service.inst,.str ((Zp ⟨rl,els.map Zz⟩ now ad sk se (Zj op ⟨u1,u2,u3⟩ kv qr tk sv ins bx)).issue).service.realm,.int .u64 ((Zp ⟨rl,els.map Zz⟩ now ad sk se (Zj op ⟨u1,u2,u3⟩ kv qr tk sv ins bx)).issue).session,.int .u64 ((Zp ⟨rl,els.map Zz⟩ now ad sk se (Zj op ⟨u1,u2,u3⟩ kv qr tk sv ins bx)).issue).sealer,.int .u64 ((Zp ⟨rl,els.map Zz⟩ now ad sk se (Zj op ⟨u1,u2,u3⟩ kv qr tk sv ins bx)).issue).granter,.bs ((Zp ⟨rl,els.map Zz⟩ now ad sk se (Zj op ⟨u1,u2,u3⟩ kv qr tk sv ins bx)).issue).text,.int .i64 ((Zp ⟨rl,els.map Zz⟩ now ad sk se (Zj op ⟨u1,u2,u3⟩ kv qr tk sv ins bx)).issue).issued,.int .i64 ((Zp ⟨rl,els.map Zz⟩ now ad sk se (Zj op ⟨u1,u2,u3⟩ kv qr tk sv ins bx)).issue).stop],.bool (Zp ⟨rl,els.map Zz⟩ now ad sk se (Zj op ⟨u1,u2,u3⟩ kv qr tk sv ins bx)).ok],[]))
 | _,_=>none
def sp50:Abs.Spec:=fun xs bl=>match xs,bl with
 | [.agg [.str rl,.sl 9 els],.int .i64 i,.int .i64 now,.int .i64 ad,.int .i64 sk,.int .u64 se,.agg [.str x,.str y,.str z],.bs bd],[]=>chk (decide (rl.length≤9223372036854775807)&&els.all Yq&&decide (els.length≤1000000)&&decide (x.length≤9223372036854775807)&&decide (y.length≤9223372036854775807)&&decide (z.length≤9223372036854775807)&&decide (bd.length≤1000000)&&decide (0≤i)&&decide (i<els.length)&&Yu now 4294967295&&Xw se) (some (.tup [.agg [.str ((Zq ⟨rl,els.map Zz⟩ (Zu ⟨rl,els.map Zz⟩ i) (Yx ⟨rl,els.map Zz⟩ i) 1 now ad sk se ⟨x,y,z⟩ bd).db).realm,.sl 9 (((Zq ⟨rl,els.map Zz⟩ (Zu ⟨rl,els.map Zz⟩ i) (Yx ⟨rl,els.map Zz⟩ i) 1 now ad sk se ⟨x,y,z⟩ bd).db).entries.map Yg)],.bs (Zq ⟨rl,els.map Zz⟩ (Zu ⟨rl,els.map Zz⟩ i) (Yx ⟨rl,els.map Zz⟩ i) 1 now ad sk se ⟨x,y,z⟩ bd).answer,.agg [.int .i64 ((Zq ⟨rl,els.map Zz⟩ (Zu ⟨rl,els.map Zz⟩ i) (Yx ⟨rl,els.map Zz⟩ i) 1 now ad sk se ⟨x,y,z⟩ bd).issue).kind,.str ((Zq ⟨rl,els.map Zz⟩ (Zu ⟨rl,els.map Zz⟩ i) (Yx ⟨rl,els.map Zz⟩ i) 1 now ad sk se ⟨x,y,z⟩ bd).issue).server.name,.str ((Zq ⟨rl,els.map Zz⟩ (Zu ⟨rl,els.map Zz⟩ i) (Yx ⟨rl,els.map Zz⟩ i) 1 now ad sk se ⟨x,y,z⟩ bd).issue).server.inst,.str ((Zq ⟨rl,els.map Zz⟩ (Zu ⟨rl,els.map Zz⟩ i) (Yx ⟨rl,els.map Zz⟩ i) 1 now ad sk se ⟨x,y,z⟩ bd).issue).server.realm,.str ((Zq ⟨rl,els.map Zz⟩ (Zu ⟨rl,els.map Zz⟩ i) (Yx ⟨rl,els.map Zz⟩ i) 1 now ad sk se ⟨x,y,z⟩ bd).issue).client.name,.str ((Zq ⟨rl,els.map Zz⟩ (Zu ⟨rl,els.map Zz⟩ i) (Yx ⟨rl,els.map Zz⟩ i) 1 now ad sk se ⟨x,y,z⟩ bd).issue).client.inst,.str ((Zq ⟨rl,els.map Zz⟩ (Zu ⟨rl,els.map Zz⟩ i) (Yx ⟨rl,els.map Zz⟩ i) 1 now ad sk se ⟨x,y,z⟩ bd).issue).client.realm,.str ((Zq ⟨rl,els.map Zz⟩ (Zu ⟨rl,els.map Zz⟩ i) (Yx ⟨rl,els.map Zz⟩ i) 1 now ad sk se ⟨x,y,z⟩ bd).issue).service.name,.str ((Zq ⟨rl,els.map Zz⟩ (Zu ⟨rl,els.map Zz⟩ i) (Yx ⟨rl,els.map Zz⟩ i) 1 now ad sk se ⟨x,y,z⟩ bd).issue).service.inst,.str ((Zq ⟨rl,els.map Zz⟩ (Zu ⟨rl,els.map Zz⟩ i) (Yx ⟨rl,els.map Zz⟩ i) 1 now ad sk se ⟨x,y,z⟩ bd).issue).service.realm,.int .u64 ((Zq ⟨rl,els.map Zz⟩ (Zu ⟨rl,els.map Zz⟩ i) (Yx ⟨rl,els.map Zz⟩ i) 1 now ad sk se ⟨x,y,z⟩ bd).issue).session,.int .u64 ((Zq ⟨rl,els.map Zz⟩ (Zu ⟨rl,els.map Zz⟩ i) (Yx ⟨rl,els.map Zz⟩ i) 1 now ad sk se ⟨x,y,z⟩ bd).issue).sealer,.int .u64 ((Zq ⟨rl,els.map Zz⟩ (Zu ⟨rl,els.map Zz⟩ i) (Yx ⟨rl,els.map Zz⟩ i) 1 now ad sk se ⟨x,y,z⟩ bd).issue).granter,.bs ((Zq ⟨rl,els.map Zz⟩ (Zu ⟨rl,els.map Zz⟩ i) (Yx ⟨rl,els.map Zz⟩ i) 1 now ad sk se ⟨x,y,z⟩ bd).issue).text,.int .i64 ((Zq ⟨rl,els.map Zz⟩ (Zu ⟨rl,els.map Zz⟩ i) (Yx ⟨rl,els.map Zz⟩ i) 1 now ad sk se ⟨x,y,z⟩ bd).issue).issued,.int .i64 ((Zq ⟨rl,els.map Zz⟩ (Zu ⟨rl,els.map Zz⟩ i) (Yx ⟨rl,els.map Zz⟩ i) 1 now ad sk se ⟨x,y,z⟩ bd).issue).stop],.bool (Zq ⟨rl,els.map Zz⟩ (Zu ⟨rl,els.map Zz⟩ i) (Yx ⟨rl,els.map Zz⟩ i) 1 now ad sk se ⟨x,y,z⟩ bd).ok],[]))
 | _,_=>none
def sp90:Abs.Spec:=fun xs bl=>match xs,bl with
 | [.agg [.str o1,.str o2,.str o3,.sl 8 els]],[]=>chk (decide (o1.length≤9223372036854775807)&&decide (o2.length≤9223372036854775807)&&decide (o3.length≤9223372036854775807)&&els.all Yk&&decide (els.length≤1000000)) (some (.int .i64 (Zh ⟨o1,o2,o3⟩ (els.map Zy)).err,[]))
 | _,_=>none
def sp184:Abs.Spec:=fun xs bl=>match xs,bl with
 | [.agg [.int .i64 op,.str ux,.str uy,.str uz,.int .i64 kv,.str rl,.bs tk,.str sv,.str ins,.bs bx]],[]=>chk (decide (ux.length≤9223372036854775807)&&decide (uy.length≤9223372036854775807)&&decide (uz.length≤9223372036854775807)&&decide (rl.length≤9223372036854775807)&&decide (sv.length≤9223372036854775807)&&decide (ins.length≤9223372036854775807)) (some (.int .i64 (Xv ⟨op,⟨ux,uy,uz⟩,kv,rl,tk,sv,ins,bx⟩).err,[]))
 | _,_=>none
def sp215:Abs.Spec:=fun xs bl=>match xs,bl with
 | [.bs b,.int .i64 pos],[]=>chk (decide (b.length≤4611686018427387904)) (some (.tup [.agg [.str (Kerb.prin b pos).val.name,.str (Kerb.prin b pos).val.inst,.str (Kerb.prin b pos).val.realm],.int .i64 (Kerb.prin b pos).next,.int .i64 (Kerb.prin b pos).err],[]))
 | _,_=>none
def sp245:Abs.Spec:=fun xs bl=>match xs,bl with
 | [.agg [.str lb,.int .i64 t,.int .u64 k,.int .i64 st,.int .i64 en,.int .i64 kv,.str x,.str y,.str z,.bs tk]],[]=>chk (decide (x.length≤9223372036854775807)&&decide (y.length≤9223372036854775807)&&decide (z.length≤9223372036854775807)&&decide (0≤k)&&decide (k<18446744073709551616)) (some (.int .i64 (Xk ⟨lb,t,k,st,en,kv,⟨x,y,z⟩,tk⟩).err,[]))
 | _,_=>none
def sp15:Abs.Spec:=fun xs bl=>match xs,bl with
 | [.agg [.str rl,.sl 9 els],.int .i64 now,.int .i64 ad,.int .i64 sk,.int .u64 se,.bs msg],[]=>chk (decide (rl.length≤9223372036854775807)&&els.all Yq&&decide (els.length≤1000000)&&decide (Kerb.Db.err ⟨rl,els.map Zz⟩=0)&&Xw se&&decide (msg.length≤1000000)) (some (.tup [.agg [.str ((Zb ⟨rl,els.map Zz⟩ now ad sk se msg).db).realm,.sl 9 (((Zb ⟨rl,els.map Zz⟩ now ad sk se msg).db).entries.map Yg)],.bs (Zb ⟨rl,els.map Zz⟩ now ad sk se msg).answer,.agg [.int .i64 ((Zb ⟨rl,els.map Zz⟩ now ad sk se msg).issue).kind,.str ((Zb ⟨rl,els.map Zz⟩ now ad sk se msg).issue).server.name,.str ((Zb ⟨rl,els.map Zz⟩ now ad sk se msg).issue).server.inst,.str ((Zb ⟨rl,els.map Zz⟩ now ad sk se msg).issue).server.realm,.str ((Zb ⟨rl,els.map Zz⟩ now ad sk se msg).issue).client.name,.str ((Zb ⟨rl,els.map Zz⟩ now ad sk se msg).issue).client.inst,.str ((Zb ⟨rl,els.map Zz⟩ now ad sk se msg).issue).client.realm,.str ((Zb ⟨rl,els.map Zz⟩ now ad sk se msg).issue).service.name,.str ((Zb ⟨rl,els.map Zz⟩ now ad sk se msg).issue).service.inst,.str ((Zb ⟨rl,els.map Zz⟩ now ad sk se msg).issue).service.realm,.int .u64 ((Zb ⟨rl,els.map Zz⟩ now ad sk se msg).issue).session,.int .u64 ((Zb ⟨rl,els.map Zz⟩ now ad sk se msg).issue).sealer,.int .u64 ((Zb ⟨rl,els.map Zz⟩ now ad sk se msg).issue).granter,.bs ((Zb ⟨rl,els.map Zz⟩ now ad sk se msg).issue).text,.int .i64 ((Zb ⟨rl,els.map Zz⟩ now ad sk se msg).issue).issued,.int .i64 ((Zb ⟨rl,els.map Zz⟩ now ad sk se msg).issue).stop],.bool (Zb ⟨rl,els.map Zz⟩ now ad sk se msg).ok],[]))
 | _,_=>none
def sp38:Abs.Spec:=fun xs bl=>match xs,bl with
 | [.agg [.str m1,.str m2,.str m3,.int .i64 ad,.int .i64 sk,.bool li,.str o1,.str o2,.str o3,.sl 8 els,.int .i64 wt,.str w1,.str w2,.str w3,.int .u64 se,.int .i64 tm,.int .i64 lf,.int .i64 cs,.int .i64 tc]],[]=>chk (decide (m1.length≤9223372036854775807)&&decide (m2.length≤9223372036854775807)&&decide (m3.length≤9223372036854775807)&&decide (o1.length≤9223372036854775807)&&decide (o2.length≤9223372036854775807)&&decide (o3.length≤9223372036854775807)&&els.all Yk&&decide (els.length≤1000000)) (some (.int .i64 (Zx ⟨m1,m2,m3⟩ ad sk li ⟨⟨o1,o2,o3⟩,els.map Zy⟩ wt ⟨w1,w2,w3⟩ se tm lf cs tc).err,[]))
 | _,_=>none
def sp55:Abs.Spec:=fun xs bl=>match xs,bl with
 | [.agg [.str o1,.str o2,.str o3,.sl 8 els],.agg [.str x,.str y,.str z,.int .u64 k,.int .i64 lf,.int .i64 kv,.int .i64 iss,.bs tk]],[]=>chk (decide (o1.length≤9223372036854775807)&&decide (o2.length≤9223372036854775807)&&decide (o3.length≤9223372036854775807)&&els.all Yk&&decide (els.length≤1000000)&&Yk (.agg [.str x,.str y,.str z,.int .u64 k,.int .i64 lf,.int .i64 kv,.int .i64 iss,.bs tk])) (some (.tup [.agg [.str ((Yd (Zh ⟨o1,o2,o3⟩ (els.map Zy)) (Yf ⟨x,y,z⟩ k lf kv iss tk)).val).owner.name,.str ((Yd (Zh ⟨o1,o2,o3⟩ (els.map Zy)) (Yf ⟨x,y,z⟩ k lf kv iss tk)).val).owner.inst,.str ((Yd (Zh ⟨o1,o2,o3⟩ (els.map Zy)) (Yf ⟨x,y,z⟩ k lf kv iss tk)).val).owner.realm,.sl 8 (((Yd (Zh ⟨o1,o2,o3⟩ (els.map Zy)) (Yf ⟨x,y,z⟩ k lf kv iss tk)).val).creds.map Xp)],.int .i64 (Yd (Zh ⟨o1,o2,o3⟩ (els.map Zy)) (Yf ⟨x,y,z⟩ k lf kv iss tk)).err],[]))
 | _,_=>none
def sp96:Abs.Spec:=fun xs bl=>match xs,bl with
 | [.agg [.int .i64 op,.str ux,.str uy,.str uz,.int .i64 kv,.str rl,.bs tk,.str sv,.str ins,.bs bx]],[]=>chk (decide (ux.length≤9223372036854775807)&&decide (uy.length≤9223372036854775807)&&decide (uz.length≤9223372036854775807)&&decide (rl.length≤9223372036854775807)&&decide (sv.length≤9223372036854775807)&&decide (ins.length≤9223372036854775807)) (some (.tup [.bs (Xv ⟨op,⟨ux,uy,uz⟩,kv,rl,tk,sv,ins,bx⟩).val,.int .i64 (Xv ⟨op,⟨ux,uy,uz⟩,kv,rl,tk,sv,ins,bx⟩).err],[]))
 | _,_=>none
def sp146:Abs.Spec:=fun xs bl=>match xs,bl with
 | [.ptr 0 0],[(0,[.bs B,.int .i64 at_,.bool bad])]=>chk (decide (B.length≤140737488355328)) (some (.agg [.str (Kerb.pPrin B at_ bad).val.name,.str (Kerb.pPrin B at_ bad).val.inst,.str (Kerb.pPrin B at_ bad).val.realm],[[.bs B,.int .i64 (Kerb.pPrin B at_ bad).pos,.bool (Kerb.pPrin B at_ bad).bad]]))
 | _,_=>none
def sp208:Abs.Spec:=fun xs bl=>match xs,bl with
 | [.agg [.str lb,.int .i64 t,.int .u64 k,.int .i64 st,.int .i64 en,.int .i64 kv,.str x,.str y,.str z,.bs tk]],[]=>chk (decide (x.length≤9223372036854775807)&&decide (y.length≤9223372036854775807)&&decide (z.length≤9223372036854775807)&&decide (0≤k)&&decide (k<18446744073709551616)) (some (.tup [.bs (Xk ⟨lb,t,k,st,en,kv,⟨x,y,z⟩,tk⟩).val,.int .i64 (Xk ⟨lb,t,k,st,en,kv,⟨x,y,z⟩,tk⟩).err],[]))
 | _,_=>none
def sp43:Abs.Spec:=fun xs bl=>match xs,bl with
 | [.agg [.int .i64 op,.str ux,.str uy,.str uz,.int .i64 kv,.str rl,.bs tk,.str sv,.str ins,.bs bx],.agg [.str slb,.int .i64 sst,.int .i64 sss,.int .i64 sse,.int .u64 sk],.int .u64 key],[]=>chk (decide (ux.length≤9223372036854775807)&&decide (uy.length≤9223372036854775807)&&decide (uz.length≤9223372036854775807)&&decide (rl.length≤9223372036854775807)&&decide (sv.length≤9223372036854775807)&&decide (ins.length≤9223372036854775807)&&decide (0≤sk)&&decide (sk<18446744073709551616)&&decide (0≤key)&&decide (key<18446744073709551616)) (some (.tup [.bs (Kerb.kaSend ⟨op,⟨ux,uy,uz⟩,kv,rl,tk,sv,ins,bx⟩ ⟨slb,sst,sss,sse,sk⟩ key).val,.int .i64 (Kerb.kaSend ⟨op,⟨ux,uy,uz⟩,kv,rl,tk,sv,ins,bx⟩ ⟨slb,sst,sss,sse,sk⟩ key).err],[]))
 | _,_=>none
def sp123:Abs.Spec:=fun xs bl=>match xs,bl with
 | [.bs b],[]=>chk (decide (b.length≤140737488355328)) (some (.tup [.agg [.str ((Yy b).val).label,.int .i64 ((Yy b).val).time,.int .u64 ((Yy b).val).session,.int .i64 ((Yy b).val).start,.int .i64 ((Yy b).val).stop,.int .i64 ((Yy b).val).kvno,.str ((Yy b).val).service.name,.str ((Yy b).val).service.inst,.str ((Yy b).val).service.realm,.bs ((Yy b).val).ticket],.int .i64 (Yy b).err],[]))
 | _,_=>none
def sp14:Abs.Spec:=fun xs bl=>match xs,bl with
 | [.agg [.str m1,.str m2,.str m3,.int .i64 ad,.int .i64 sk,.bool li,.str o1,.str o2,.str o3,.sl 8 els,.int .i64 wt,.str w1,.str w2,.str w3,.int .u64 se,.int .i64 tm,.int .i64 lf,.int .i64 cs,.int .i64 tc],.int .u64 k,.int .i64 life,.int .i64 now],[]=>chk (decide (m1.length≤9223372036854775807)&&decide (m2.length≤9223372036854775807)&&decide (m3.length≤9223372036854775807)&&decide (o1.length≤9223372036854775807)&&decide (o2.length≤9223372036854775807)&&decide (o3.length≤9223372036854775807)&&els.all Yk&&decide (els.length≤1000000)&&decide (0≤k)&&decide (k<18446744073709551616)) (some (.tup [.agg [.int .i64 ((Ym (Zx ⟨m1,m2,m3⟩ ad sk li ⟨⟨o1,o2,o3⟩,els.map Zy⟩ wt ⟨w1,w2,w3⟩ se tm lf cs tc) k life now).w).op,.int .i64 ((Ym (Zx ⟨m1,m2,m3⟩ ad sk li ⟨⟨o1,o2,o3⟩,els.map Zy⟩ wt ⟨w1,w2,w3⟩ se tm lf cs tc) k life now).w).time,.int .i64 ((Ym (Zx ⟨m1,m2,m3⟩ ad sk li ⟨⟨o1,o2,o3⟩,els.map Zy⟩ wt ⟨w1,w2,w3⟩ se tm lf cs tc) k life now).w).start,.int .i64 ((Ym (Zx ⟨m1,m2,m3⟩ ad sk li ⟨⟨o1,o2,o3⟩,els.map Zy⟩ wt ⟨w1,w2,w3⟩ se tm lf cs tc) k life now).w).stop,.str ((Ym (Zx ⟨m1,m2,m3⟩ ad sk li ⟨⟨o1,o2,o3⟩,els.map Zy⟩ wt ⟨w1,w2,w3⟩ se tm lf cs tc) k life now).w).service.name,.str ((Ym (Zx ⟨m1,m2,m3⟩ ad sk li ⟨⟨o1,o2,o3⟩,els.map Zy⟩ wt ⟨w1,w2,w3⟩ se tm lf cs tc) k life now).w).service.inst,.str ((Ym (Zx ⟨m1,m2,m3⟩ ad sk li ⟨⟨o1,o2,o3⟩,els.map Zy⟩ wt ⟨w1,w2,w3⟩ se tm lf cs tc) k life now).w).service.realm,.int .u64 ((Ym (Zx ⟨m1,m2,m3⟩ ad sk li ⟨⟨o1,o2,o3⟩,els.map Zy⟩ wt ⟨w1,w2,w3⟩ se tm lf cs tc) k life now).w).session,.int .u64 ((Ym (Zx ⟨m1,m2,m3⟩ ad sk li ⟨⟨o1,o2,o3⟩,els.map Zy⟩ wt ⟨w1,w2,w3⟩ se tm lf cs tc) k life now).w).new],.bs (Ym (Zx ⟨m1,m2,m3⟩ ad sk li ⟨⟨o1,o2,o3⟩,els.map Zy⟩ wt ⟨w1,w2,w3⟩ se tm lf cs tc) k life now).msg,.int .i64 (Ym (Zx ⟨m1,m2,m3⟩ ad sk li ⟨⟨o1,o2,o3⟩,els.map Zy⟩ wt ⟨w1,w2,w3⟩ se tm lf cs tc) k life now).err],[]))
 | _,_=>none
def sp19:Abs.Spec:=fun xs bl=>match xs,bl with
 | [.agg [.str m1,.str m2,.str m3,.int .i64 ad,.int .i64 sk,.bool li,.str o1,.str o2,.str o3,.sl 8 els,.int .i64 wt,.str w1,.str w2,.str w3,.int .u64 se,.int .i64 tm,.int .i64 lf,.int .i64 cs,.int .i64 tc],.agg [.str x,.str y,.str z],.int .i64 life,.int .i64 now],[]=>chk (decide (m1.length≤9223372036854775807)&&decide (m2.length≤9223372036854775807)&&decide (m3.length≤9223372036854775807)&&decide (o1.length≤9223372036854775807)&&decide (o2.length≤9223372036854775807)&&decide (o3.length≤9223372036854775807)&&els.all Yk&&decide (els.length≤1000000)&&decide (x.length≤9223372036854775807)&&decide (y.length≤9223372036854775807)&&decide (z.length≤9223372036854775807)) (some (.tup [.agg [.int .i64 ((Yp (Zx ⟨m1,m2,m3⟩ ad sk li ⟨⟨o1,o2,o3⟩,els.map Zy⟩ wt ⟨w1,w2,w3⟩ se tm lf cs tc) ⟨x,y,z⟩ life now).w).op,.int .i64 ((Yp (Zx ⟨m1,m2,m3⟩ ad sk li ⟨⟨o1,o2,o3⟩,els.map Zy⟩ wt ⟨w1,w2,w3⟩ se tm lf cs tc) ⟨x,y,z⟩ life now).w).time,.int .i64 ((Yp (Zx ⟨m1,m2,m3⟩ ad sk li ⟨⟨o1,o2,o3⟩,els.map Zy⟩ wt ⟨w1,w2,w3⟩ se tm lf cs tc) ⟨x,y,z⟩ life now).w).start,.int .i64 ((Yp (Zx ⟨m1,m2,m3⟩ ad sk li ⟨⟨o1,o2,o3⟩,els.map Zy⟩ wt ⟨w1,w2,w3⟩ se tm lf cs tc) ⟨x,y,z⟩ life now).w).stop,.str ((Yp (Zx ⟨m1,m2,m3⟩ ad sk li ⟨⟨o1,o2,o3⟩,els.map Zy⟩ wt ⟨w1,w2,w3⟩ se tm lf cs tc) ⟨x,y,z⟩ life now).w).service.name,.str ((Yp (Zx ⟨m1,m2,m3⟩ ad sk li ⟨⟨o1,o2,o3⟩,els.map Zy⟩ wt ⟨w1,w2,w3⟩ se tm lf cs tc) ⟨x,y,z⟩ life now).w).service.inst,.str ((Yp (Zx ⟨m1,m2,m3⟩ ad sk li ⟨⟨o1,o2,o3⟩,els.map Zy⟩ wt ⟨w1,w2,w3⟩ se tm lf cs tc) ⟨x,y,z⟩ life now).w).service.realm,.int .u64 ((Yp (Zx ⟨m1,m2,m3⟩ ad sk li ⟨⟨o1,o2,o3⟩,els.map Zy⟩ wt ⟨w1,w2,w3⟩ se tm lf cs tc) ⟨x,y,z⟩ life now).w).session,.int .u64 ((Yp (Zx ⟨m1,m2,m3⟩ ad sk li ⟨⟨o1,o2,o3⟩,els.map Zy⟩ wt ⟨w1,w2,w3⟩ se tm lf cs tc) ⟨x,y,z⟩ life now).w).new],.bs (Yp (Zx ⟨m1,m2,m3⟩ ad sk li ⟨⟨o1,o2,o3⟩,els.map Zy⟩ wt ⟨w1,w2,w3⟩ se tm lf cs tc) ⟨x,y,z⟩ life now).msg,.int .i64 (Yp (Zx ⟨m1,m2,m3⟩ ad sk li ⟨⟨o1,o2,o3⟩,els.map Zy⟩ wt ⟨w1,w2,w3⟩ se tm lf cs tc) ⟨x,y,z⟩ life now).err],[]))
 | _,_=>none
def sp53:Abs.Spec:=fun xs bl=>match xs,bl with
 | [.agg [.int .i64 vop,.int .i64 vtm,.int .i64 vst,.int .i64 ven,.str v1,.str v2,.str v3,.int .u64 vse,.int .u64 vne],.int .u64 k,.bs b],[]=>chk (decide (b.length≤140737488355328)) (some (.tup [.agg [.str ((Yn (Zw vop vtm vst ven ⟨v1,v2,v3⟩ vse vne) k b).val).label,.int .i64 ((Yn (Zw vop vtm vst ven ⟨v1,v2,v3⟩ vse vne) k b).val).time,.int .u64 ((Yn (Zw vop vtm vst ven ⟨v1,v2,v3⟩ vse vne) k b).val).session,.int .i64 ((Yn (Zw vop vtm vst ven ⟨v1,v2,v3⟩ vse vne) k b).val).start,.int .i64 ((Yn (Zw vop vtm vst ven ⟨v1,v2,v3⟩ vse vne) k b).val).stop,.int .i64 ((Yn (Zw vop vtm vst ven ⟨v1,v2,v3⟩ vse vne) k b).val).kvno,.str ((Yn (Zw vop vtm vst ven ⟨v1,v2,v3⟩ vse vne) k b).val).service.name,.str ((Yn (Zw vop vtm vst ven ⟨v1,v2,v3⟩ vse vne) k b).val).service.inst,.str ((Yn (Zw vop vtm vst ven ⟨v1,v2,v3⟩ vse vne) k b).val).service.realm,.bs ((Yn (Zw vop vtm vst ven ⟨v1,v2,v3⟩ vse vne) k b).val).ticket],.int .i64 (Yn (Zw vop vtm vst ven ⟨v1,v2,v3⟩ vse vne) k b).err],[]))
 | _,_=>none
def sp17:Abs.Spec:=fun xs bl=>match xs,bl with
 | [.agg [.str m1,.str m2,.str m3,.int .i64 ad,.int .i64 sk,.bool li,.str o1,.str o2,.str o3,.sl 8 els,.int .i64 wt,.str w1,.str w2,.str w3,.int .u64 se,.int .i64 tm,.int .i64 lf,.int .i64 cs,.int .i64 tc],.agg [.int .i64 vop,.int .i64 vtm,.int .i64 vst,.int .i64 ven,.str v1,.str v2,.str v3,.int .u64 vse,.int .u64 vne],.int .u64 k,.bs msg],[]=>chk (decide (m1.length≤9223372036854775807)&&decide (m2.length≤9223372036854775807)&&decide (m3.length≤9223372036854775807)&&decide (o1.length≤9223372036854775807)&&decide (o2.length≤9223372036854775807)&&decide (o3.length≤9223372036854775807)&&els.all Yk&&decide (els.length≤1000000)&&decide (msg.length≤140737488355328)) (some (.tup [.agg [.str ((Zv (Zx ⟨m1,m2,m3⟩ ad sk li ⟨⟨o1,o2,o3⟩,els.map Zy⟩ wt ⟨w1,w2,w3⟩ se tm lf cs tc) (Zw vop vtm vst ven ⟨v1,v2,v3⟩ vse vne) k msg).c).me.name,.str ((Zv (Zx ⟨m1,m2,m3⟩ ad sk li ⟨⟨o1,o2,o3⟩,els.map Zy⟩ wt ⟨w1,w2,w3⟩ se tm lf cs tc) (Zw vop vtm vst ven ⟨v1,v2,v3⟩ vse vne) k msg).c).me.inst,.str ((Zv (Zx ⟨m1,m2,m3⟩ ad sk li ⟨⟨o1,o2,o3⟩,els.map Zy⟩ wt ⟨w1,w2,w3⟩ se tm lf cs tc) (Zw vop vtm vst ven ⟨v1,v2,v3⟩ vse vne) k msg).c).me.realm,.int .i64 ((Zv (Zx ⟨m1,m2,m3⟩ ad sk li ⟨⟨o1,o2,o3⟩,els.map Zy⟩ wt ⟨w1,w2,w3⟩ se tm lf cs tc) (Zw vop vtm vst ven ⟨v1,v2,v3⟩ vse vne) k msg).c).address,.int .i64 ((Zv (Zx ⟨m1,m2,m3⟩ ad sk li ⟨⟨o1,o2,o3⟩,els.map Zy⟩ wt ⟨w1,w2,w3⟩ se tm lf cs tc) (Zw vop vtm vst ven ⟨v1,v2,v3⟩ vse vne) k msg).c).skew,.bool ((Zv (Zx ⟨m1,m2,m3⟩ ad sk li ⟨⟨o1,o2,o3⟩,els.map Zy⟩ wt ⟨w1,w2,w3⟩ se tm lf cs tc) (Zw vop vtm vst ven ⟨v1,v2,v3⟩ vse vne) k msg).c).little,.str ((Zv (Zx ⟨m1,m2,m3⟩ ad sk li ⟨⟨o1,o2,o3⟩,els.map Zy⟩ wt ⟨w1,w2,w3⟩ se tm lf cs tc) (Zw vop vtm vst ven ⟨v1,v2,v3⟩ vse vne) k msg).c).cache.owner.name,.str ((Zv (Zx ⟨m1,m2,m3⟩ ad sk li ⟨⟨o1,o2,o3⟩,els.map Zy⟩ wt ⟨w1,w2,w3⟩ se tm lf cs tc) (Zw vop vtm vst ven ⟨v1,v2,v3⟩ vse vne) k msg).c).cache.owner.inst,.str ((Zv (Zx ⟨m1,m2,m3⟩ ad sk li ⟨⟨o1,o2,o3⟩,els.map Zy⟩ wt ⟨w1,w2,w3⟩ se tm lf cs tc) (Zw vop vtm vst ven ⟨v1,v2,v3⟩ vse vne) k msg).c).cache.owner.realm,.sl 8 (((Zv (Zx ⟨m1,m2,m3⟩ ad sk li ⟨⟨o1,o2,o3⟩,els.map Zy⟩ wt ⟨w1,w2,w3⟩ se tm lf cs tc) (Zw vop vtm vst ven ⟨v1,v2,v3⟩ vse vne) k msg).c).cache.creds.map Xp),.int .i64 ((Zv (Zx ⟨m1,m2,m3⟩ ad sk li ⟨⟨o1,o2,o3⟩,els.map Zy⟩ wt ⟨w1,w2,w3⟩ se tm lf cs tc) (Zw vop vtm vst ven ⟨v1,v2,v3⟩ vse vne) k msg).c).wait,.str ((Zv (Zx ⟨m1,m2,m3⟩ ad sk li ⟨⟨o1,o2,o3⟩,els.map Zy⟩ wt ⟨w1,w2,w3⟩ se tm lf cs tc) (Zw vop vtm vst ven ⟨v1,v2,v3⟩ vse vne) k msg).c).wanted.name,.str ((Zv (Zx ⟨m1,m2,m3⟩ ad sk li ⟨⟨o1,o2,o3⟩,els.map Zy⟩ wt ⟨w1,w2,w3⟩ se tm lf cs tc) (Zw vop vtm vst ven ⟨v1,v2,v3⟩ vse vne) k msg).c).wanted.inst,.str ((Zv (Zx ⟨m1,m2,m3⟩ ad sk li ⟨⟨o1,o2,o3⟩,els.map Zy⟩ wt ⟨w1,w2,w3⟩ se tm lf cs tc) (Zw vop vtm vst ven ⟨v1,v2,v3⟩ vse vne) k msg).c).wanted.realm,.int .u64 ((Zv (Zx ⟨m1,m2,m3⟩ ad sk li ⟨⟨o1,o2,o3⟩,els.map Zy⟩ wt ⟨w1,w2,w3⟩ se tm lf cs tc) (Zw vop vtm vst ven ⟨v1,v2,v3⟩ vse vne) k msg).c).session,.int .i64 ((Zv (Zx ⟨m1,m2,m3⟩ ad sk li ⟨⟨o1,o2,o3⟩,els.map Zy⟩ wt ⟨w1,w2,w3⟩ se tm lf cs tc) (Zw vop vtm vst ven ⟨v1,v2,v3⟩ vse vne) k msg).c).time,.int .i64 ((Zv (Zx ⟨m1,m2,m3⟩ ad sk li ⟨⟨o1,o2,o3⟩,els.map Zy⟩ wt ⟨w1,w2,w3⟩ se tm lf cs tc) (Zw vop vtm vst ven ⟨v1,v2,v3⟩ vse vne) k msg).c).life,.int .i64 ((Zv (Zx ⟨m1,m2,m3⟩ ad sk li ⟨⟨o1,o2,o3⟩,els.map Zy⟩ wt ⟨w1,w2,w3⟩ se tm lf cs tc) (Zw vop vtm vst ven ⟨v1,v2,v3⟩ vse vne) k msg).c).checksum,.int .i64 ((Zv (Zx ⟨m1,m2,m3⟩ ad sk li ⟨⟨o1,o2,o3⟩,els.map Zy⟩ wt ⟨w1,w2,w3⟩ se tm lf cs tc) (Zw vop vtm vst ven ⟨v1,v2,v3⟩ vse vne) k msg).c).tick],.agg [.int .i64 ((Zv (Zx ⟨m1,m2,m3⟩ ad sk li ⟨⟨o1,o2,o3⟩,els.map Zy⟩ wt ⟨w1,w2,w3⟩ se tm lf cs tc) (Zw vop vtm vst ven ⟨v1,v2,v3⟩ vse vne) k msg).w).op,.int .i64 ((Zv (Zx ⟨m1,m2,m3⟩ ad sk li ⟨⟨o1,o2,o3⟩,els.map Zy⟩ wt ⟨w1,w2,w3⟩ se tm lf cs tc) (Zw vop vtm vst ven ⟨v1,v2,v3⟩ vse vne) k msg).w).time,.int .i64 ((Zv (Zx ⟨m1,m2,m3⟩ ad sk li ⟨⟨o1,o2,o3⟩,els.map Zy⟩ wt ⟨w1,w2,w3⟩ se tm lf cs tc) (Zw vop vtm vst ven ⟨v1,v2,v3⟩ vse vne) k msg).w).start,.int .i64 ((Zv (Zx ⟨m1,m2,m3⟩ ad sk li ⟨⟨o1,o2,o3⟩,els.map Zy⟩ wt ⟨w1,w2,w3⟩ se tm lf cs tc) (Zw vop vtm vst ven ⟨v1,v2,v3⟩ vse vne) k msg).w).stop,.str ((Zv (Zx ⟨m1,m2,m3⟩ ad sk li ⟨⟨o1,o2,o3⟩,els.map Zy⟩ wt ⟨w1,w2,w3⟩ se tm lf cs tc) (Zw vop vtm vst ven ⟨v1,v2,v3⟩ vse vne) k msg).w).service.name,.str ((Zv (Zx ⟨m1,m2,m3⟩ ad sk li ⟨⟨o1,o2,o3⟩,els.map Zy⟩ wt ⟨w1,w2,w3⟩ se tm lf cs tc) (Zw vop vtm vst ven ⟨v1,v2,v3⟩ vse vne) k msg).w).service.inst,.str ((Zv (Zx ⟨m1,m2,m3⟩ ad sk li ⟨⟨o1,o2,o3⟩,els.map Zy⟩ wt ⟨w1,w2,w3⟩ se tm lf cs tc) (Zw vop vtm vst ven ⟨v1,v2,v3⟩ vse vne) k msg).w).service.realm,.int .u64 ((Zv (Zx ⟨m1,m2,m3⟩ ad sk li ⟨⟨o1,o2,o3⟩,els.map Zy⟩ wt ⟨w1,w2,w3⟩ se tm lf cs tc) (Zw vop vtm vst ven ⟨v1,v2,v3⟩ vse vne) k msg).w).session,.int .u64 ((Zv (Zx ⟨m1,m2,m3⟩ ad sk li ⟨⟨o1,o2,o3⟩,els.map Zy⟩ wt ⟨w1,w2,w3⟩ se tm lf cs tc) (Zw vop vtm vst ven ⟨v1,v2,v3⟩ vse vne) k msg).w).new],.agg [.str ((Zv (Zx ⟨m1,m2,m3⟩ ad sk li ⟨⟨o1,o2,o3⟩,els.map Zy⟩ wt ⟨w1,w2,w3⟩ se tm lf cs tc) (Zw vop vtm vst ven ⟨v1,v2,v3⟩ vse vne) k msg).cred).service.name,.str ((Zv (Zx ⟨m1,m2,m3⟩ ad sk li ⟨⟨o1,o2,o3⟩,els.map Zy⟩ wt ⟨w1,w2,w3⟩ se tm lf cs tc) (Zw vop vtm vst ven ⟨v1,v2,v3⟩ vse vne) k msg).cred).service.inst,.str ((Zv (Zx ⟨m1,m2,m3⟩ ad sk li ⟨⟨o1,o2,o3⟩,els.map Zy⟩ wt ⟨w1,w2,w3⟩ se tm lf cs tc) (Zw vop vtm vst ven ⟨v1,v2,v3⟩ vse vne) k msg).cred).service.realm,.int .u64 ((Zv (Zx ⟨m1,m2,m3⟩ ad sk li ⟨⟨o1,o2,o3⟩,els.map Zy⟩ wt ⟨w1,w2,w3⟩ se tm lf cs tc) (Zw vop vtm vst ven ⟨v1,v2,v3⟩ vse vne) k msg).cred).session,.int .i64 ((Zv (Zx ⟨m1,m2,m3⟩ ad sk li ⟨⟨o1,o2,o3⟩,els.map Zy⟩ wt ⟨w1,w2,w3⟩ se tm lf cs tc) (Zw vop vtm vst ven ⟨v1,v2,v3⟩ vse vne) k msg).cred).life,.int .i64 ((Zv (Zx ⟨m1,m2,m3⟩ ad sk li ⟨⟨o1,o2,o3⟩,els.map Zy⟩ wt ⟨w1,w2,w3⟩ se tm lf cs tc) (Zw vop vtm vst ven ⟨v1,v2,v3⟩ vse vne) k msg).cred).kvno,.int .i64 ((Zv (Zx ⟨m1,m2,m3⟩ ad sk li ⟨⟨o1,o2,o3⟩,els.map Zy⟩ wt ⟨w1,w2,w3⟩ se tm lf cs tc) (Zw vop vtm vst ven ⟨v1,v2,v3⟩ vse vne) k msg).cred).issued,.bs ((Zv (Zx ⟨m1,m2,m3⟩ ad sk li ⟨⟨o1,o2,o3⟩,els.map Zy⟩ wt ⟨w1,w2,w3⟩ se tm lf cs tc) (Zw vop vtm vst ven ⟨v1,v2,v3⟩ vse vne) k msg).cred).ticket],.int .i64 (Zv (Zx ⟨m1,m2,m3⟩ ad sk li ⟨⟨o1,o2,o3⟩,els.map Zy⟩ wt ⟨w1,w2,w3⟩ se tm lf cs tc) (Zw vop vtm vst ven ⟨v1,v2,v3⟩ vse vne) k msg).err],[]))
 | _,_=>none
def sp9:Abs.Spec:=fun xs bl=>match xs,bl with
 | [],[]=>some (.bool true,[])
 | _,_=>none
def sp3:Abs.Spec:=fun xs bl=>match xs,bl with
 | [.u8 wh,.u8 sv,.u8 lf,.u8 ad],[]=>some (.bool true,[])
 | _,_=>none
def tabT:List (Nat×Nat×List CT×Abs.Spec):=[(13,1,[.int .i64],sp13),(16,1,[.int .i64],sp16),(20,1,[.other,.other],sp20),(21,1,[.other,.other],sp21),(31,1,[.other,.str,.str],sp31),(37,1,[.int .i64,.int .i64],sp37),(39,1,[.int .i64,.int .i64],sp39),(44,1,[.int .i64,.int .i64],sp44),(51,1,[.int .i64],sp51),(58,1,[.ptr],sp58),(71,1,[.int .i64],sp71),(78,1,[.other,.other],sp78),(87,1,[],sp87),(89,1,[.int .i64,.int .i64],sp89),(93,1,[.str,.str],sp93),(103,1,[.sl 1,.int .i64],sp103),(110,1,[.other,.int .i64,.other],sp110),(112,1,[.int .i64],sp112),(115,1,[.str,.str],sp115),(121,1,[.bsl,.bsl],sp121),(124,1,[.int .i64,.sl 1],sp124),(131,1,[.ptr,.int .i64],sp131),(132,1,[.int .i64,.int .i64],sp132),(135,1,[.int .u64],sp135),(136,1,[.bsl],sp136),(141,1,[.int .i64,.bool],sp141),(143,1,[.bsl,.str],sp143),(161,1,[.bsl],sp161),(163,1,[.ptr,.int .i64,.int .i64],sp163),(164,1,[.bsl,.int .i64],sp164),(165,1,[.bsl,.int .i64,.int .i64],sp165),(167,1,[.str,.str],sp167),(168,1,[.int .i64,.int .i64],sp168),(172,1,[.int .i64,.int .i64],sp172),(173,1,[.sl 8,.other],sp173),(174,1,[.int .i64],sp174),(175,1,[.int .i64],sp175),(176,1,[.int .i64],sp176),(177,1,[.int .i64],sp177),(180,1,[.str],sp180),(181,1,[.int .u64],sp181),(183,1,[.int .i64],sp183),(192,1,[.int .i64],sp192),(193,1,[.sl 4,.str,.str],sp193),(195,1,[.other,.int .i64,.other],sp195),(197,1,[.int .i64,.sl 1],sp197),(199,1,[.ptr,.int .i64,.int .i64],sp199),(202,1,[.int .i64],sp202),(203,1,[.int .i64,.int .i64],sp203),(206,1,[.str],sp206),(209,1,[.bsl],sp209),(211,1,[.int .i64,.int .i64],sp211),(212,1,[.bsl,.int .i64,.int .i64,.bool],sp212),(234,1,[.int .i64,.int .i64],sp234),(237,1,[.int .i64],sp237),(239,1,[.int .i64,.int .i64],sp239),(242,1,[.bsl,.int .i64,.int .i64],sp242),(247,1,[.int .i64,.int .i64],sp247),(258,1,[.other,.other],sp258),(260,1,[.bsl,.u8],sp260),(264,1,[.str,.u8],sp264),(35,2,[.int .i64],sp35),(42,2,[.other],sp42),(48,2,[.other,.int .i64,.int .i64],sp48),(54,2,[.int .i64],sp54),(69,2,[.bsl,.sl 1],sp69),(73,2,[.ptr],sp73),(74,2,[.ptr,.int .i64],sp74),(76,2,[.str],sp76),(86,2,[.other,.other],sp86),(91,2,[.int .u64],sp91),(92,2,[.int .i64,.int .i64],sp92),(101,2,[.int .i64,.int .i64,.int .i64],sp101),(104,2,[.int .i64,.int .i64],sp104),(105,2,[.int .i64,.int .i64,.sl 1],sp105),(114,2,[.other,.int .i64],sp114),(125,2,[.other],sp125),(133,2,[.int .u64],sp133),(134,2,[.bsl,.int .i64,.bool],sp134),(138,2,[.str],sp138),(139,2,[.str],sp139),(140,2,[.bsl,.int .i64],sp140),(142,2,[.bsl,.other],sp142),(144,2,[.bsl,.int .i64,.bool],sp144),(185,2,[.int .i64,.bool],sp185),(196,2,[.bsl],sp196),(200,2,[.bsl,.int .i64,.int .i64],sp200),(233,2,[.bsl,.int .i64,.int .i64,.bool],sp233),(236,2,[.sl 1],sp236),(241,2,[.bsl,.int .i64,.int .i64,.bool],sp241),(248,2,[.bsl,.u8],sp248),(259,2,[.str,.u8],sp259),(11,3,[.int .i64],sp11),(18,3,[.int .i64],sp18),(40,3,[.int .u64],sp40),(41,3,[.int .i64,.int .i64],sp41),(60,3,[.other],sp60),(63,3,[.int .i64,.int .u64,.bsl],sp63),(72,3,[.ptr],sp72),(77,3,[.other],sp77),(79,3,[.other],sp79),(82,3,[.bsl],sp82),(88,3,[.other],sp88),(99,3,[.int .i64,.int .i64,.int .i64,.int .i64],sp99),(106,3,[.int .u64],sp106),(109,3,[.other,.str,.str,.int .i64,.int .i64,.int .i64,.int .i64],sp109),(116,3,[.bsl,.sl 1],sp116),(118,3,[.ptr,.int .i64],sp118),(129,3,[.other,.other],sp129),(130,3,[.other,.int .i64],sp130),(162,3,[.bsl,.int .i64],sp162),(166,3,[.bsl,.int .i64,.bool],sp166),(169,3,[.bsl,.int .i64,.bool],sp169),(182,3,[.bsl],sp182),(187,3,[.bsl,.str],sp187),(198,3,[.bsl,.int .i64],sp198),(201,3,[.bsl,.int .i64,.bool],sp201),(214,3,[.bsl,.int .i64],sp214),(235,3,[.bsl,.int .i64,.int .i64,.bool],sp235),(240,3,[.bsl,.bool],sp240),(244,3,[.bsl,.int .i64,.bool],sp244),(246,3,[.str,.u8],sp246),(10,4,[.u8,.u8,.u8],sp10),(29,4,[.other],sp29),(36,4,[.other],sp36),(46,4,[.int .i64,.int .i64],sp46),(47,4,[.other,.str,.str,.int .i64],sp47),(57,4,[.other,.other,.int .i64],sp57),(64,4,[.other],sp64),(70,4,[.ptr],sp70),(75,4,[.ptr],sp75),(80,4,[.bsl],sp80),(81,4,[.ptr],sp81),(83,4,[.other],sp83),(95,4,[.int .i64,.int .u64,.bsl],sp95),(97,4,[.other,.str,.str,.int .i64],sp97),(117,4,[.ptr],sp117),(119,4,[.ptr],sp119),(170,4,[.ptr],sp170),(171,4,[.other],sp171),(178,4,[.other],sp178),(179,4,[.bsl,.int .i64,.bool],sp179),(186,4,[.bsl,.int .i64],sp186),(189,4,[.bsl,.other],sp189),(194,4,[.other,.bool],sp194),(205,4,[.ptr],sp205),(210,4,[.str,.str],sp210),(213,4,[.other],sp213),(238,4,[.bsl,.int .i64,.bool],sp238),(243,4,[.bsl],sp243),(12,5,[.other,.int .i64,.int .i64,.bool],sp12),(28,5,[.bsl],sp28),(32,5,[.bsl,.int .i64,.int .u64],sp32),(84,5,[.bsl,.int .i64],sp84),(85,5,[.other,.other],sp85),(94,5,[.other],sp94),(100,5,[.bsl],sp100),(102,5,[.other,.sl 4,.str,.str,.int .i64],sp102),(111,5,[.int .i64,.other,.int .u64],sp111),(113,5,[.other,.int .i64,.int .u64],sp113),(126,5,[.str],sp126),(127,5,[.str],sp127),(137,5,[.other],sp137),(188,5,[.bsl,.bsl],sp188),(190,5,[.bsl,.bsl],sp190),(204,5,[.bsl],sp204),(207,5,[.ptr],sp207),(34,6,[.other],sp34),(49,6,[.other,.int .i64,.int .i64,.int .i64,.bsl],sp49),(61,6,[.other,.int .u64],sp61),(108,6,[.int .i64,.str,.int .i64,.other,.other,.int .u64],sp108),(120,6,[.other],sp120),(122,6,[.bsl,.int .i64,.int .u64],sp122),(128,6,[.str],sp128),(191,6,[.bsl],sp191),(52,7,[.bsl],sp52),(56,7,[.other],sp56),(98,7,[.bsl,.int .u64],sp98),(107,7,[.other,.other,.other,.int .i64,.bool,.int .i64,.int .i64,.int .u64,.int .u64,.int .u64,.int .i64],sp107),(45,8,[.other,.int .i64,.int .i64,.int .i64,.int .u64,.other],sp45),(50,8,[.other,.int .i64,.int .i64,.int .i64,.int .i64,.int .u64,.other,.bsl],sp50),(90,8,[.other],sp90),(184,8,[.other],sp184),(215,8,[.bsl,.int .i64],sp215),(245,8,[.other],sp245),(15,9,[.other,.int .i64,.int .i64,.int .i64,.int .u64,.bsl],sp15),(38,9,[.other],sp38),(55,9,[.other,.other],sp55),(96,9,[.other],sp96),(146,9,[.ptr],sp146),(208,9,[.other],sp208),(43,10,[.other,.other,.int .u64],sp43),(123,10,[.bsl],sp123),(14,11,[.other,.int .u64,.int .i64,.int .i64],sp14),(19,11,[.other,.other,.int .i64,.int .i64],sp19),(53,11,[.other,.int .u64,.bsl],sp53),(17,12,[.other,.other,.int .u64,.bsl],sp17),(9,13,[],sp9),(3,14,[.u8,.u8,.u8,.u8],sp3)]
def globT:List (Nat×List AV):=[]
noncomputable def inlT:List (Nat×Func):=[]
def look {α:Type} (k:Nat):List (Nat×α)→Option α
 | []=>none
 | (j,x)::r=>cond (Nat.beq j k) (some x) (look k r)
def look2 {α:Type} (k m:Nat):List (Nat×Nat×List α)→List α
 | []=>[]
 | (j,i,x)::r=>cond (Nat.beq j k) (cond (Nat.beq i m) x (look2 k m r)) (look2 k m r)
noncomputable def G:Cfg2:={ ty:=fun t=>(tbl[t]?).join,keep:=fun f r=>look2 f r keepT,own:=fun f=>ownT.contains f,glob:=fun q=>look q globT,rts:=fun f=>look f rtsT,tab:=fun f=>look f tabT,inl:=fun f=>look f inlT }
end Go.Proofs.YtaikjfcgemjghaaGreat
