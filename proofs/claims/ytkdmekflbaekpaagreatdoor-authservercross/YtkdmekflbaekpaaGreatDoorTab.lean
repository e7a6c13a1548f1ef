/- The table of functions of this seat. -/
import Derived.Test.YtkdmekflbaekpaaGreatDoorAbsSpec
import Derived.Test.YtkdmekflbaekpaaGreatDoorKerbDefs
import Derived.Test.YtkdmekflbaekpaaGreatDoorAbsPlain
import Derived.Test.YtkdmekflbaekpaaGreatDoorKerbKaRef
import Derived.Test.YtkdmekflbaekpaaGreatDoorKerbCli2
import Derived.Test.YtkdmekflbaekpaaGreatDoorKerbTkt
import Derived.Test.YtkdmekflbaekpaaGreatDoorKerbDb
import Derived.Test.YtkdmekflbaekpaaGreatDoorKerbKac
import Derived.Test.YtkdmekflbaekpaaGreatDoorKerbSrv
import Derived.Test.YtkdmekflbaekpaaGreatDoorKerbSrvD
import Derived.Test.YtkdmekflbaekpaaGreatDoorKerbAuthL
import Derived.Test.YtkdmekflbaekpaaGreatDoorProg
import Derived.KernelRfl
open Kerb renaming toEntry→Zz,toCross→Zy,authAnswer→Zw,grant→Zv,get→Zu,decodeTicket→Zq,openTicket→Zj,decodeRequest→Zk,decodeError→Zp,text→Zf,readHead→Zg,isEntry→Zb,encodeRequest→Zn,bytes→Zm,within→Zh,encodeTicket→Yz,keyValid→Yy
open Kerb.Db renaming mk→Zx
open Kerb.Ticket renaming mk→Zd
namespace Go.Proofs.YtkdmekflbaekpaaGreatDoor
open Go Go.Abs
set_option linter.unusedVariables false
def tbl:List (Option TI):=[
 none,
 none,
 some ⟨1,8,.int .i64,[.int .i64 0],[.int .i64],[.int .i64]⟩,
 some ⟨1,8,.int .i64,[.int .i64 0],[.int .i64],[.int .i64]⟩,
 some ⟨1,1,.bool,[.bool false],[.bool],[.bool]⟩,
 some ⟨1,1,.u8,[.u8 0],[.u8],[.u8]⟩,
 some ⟨1,1,.u8,[.u8 0],[.u8],[.u8]⟩,
 some ⟨4,24,.struct [(0,2),(1,3),(2,4),(3,6)],[.int .i64 0,.int .i64 0,.bool false,.u8 0],[.int .i64,.int .i64,.bool,.u8],[.int .i64,.int .i64,.bool,.u8]⟩,
 none,
 some ⟨1,16,.str,[.str []],[.str],[.str]⟩,
 none,
 none,
 some ⟨1,8,.int .u64,[.int .u64 0],[.int .u64],[.int .u64]⟩,
 none,
 none,
 some ⟨1,8,.ptr 164,[.nilp],[.ptr],[]⟩,
 some ⟨1,8,.ptr 167,[.nilp],[.ptr],[]⟩,
 some ⟨1,8,.ptr 176,[.nilp],[.ptr],[]⟩,
 some ⟨1,8,.struct [(0,17)],[.nilp],[.ptr],[]⟩,
 some ⟨1,8,.struct [(0,17)],[.nilp],[.ptr],[]⟩,
 none,
 some ⟨1,4,.int .i32,[.int .i32 0],[.int .i32],[.int .i32]⟩,
 some ⟨1,24,.slice 5 true,[.nils],[.bsl],[]⟩,
 some ⟨1,2,.int .u16,[.int .u16 0],[.int .u16],[.int .u16]⟩,
 none,
 some ⟨1,24,.slice 62 false,[.nils],[.sl 9],[]⟩,
 some ⟨2,40,.struct [(0,9),(1,25)],[.str [],.nils],[.str,.sl 9],[]⟩,
 some ⟨2,40,.struct [(0,9),(1,25)],[.str [],.nils],[.str,.sl 9],[]⟩,
 none,
 some ⟨1,24,.slice 54 false,[.nils],[.sl 4],[]⟩,
 none,
 some ⟨3,48,.struct [(0,9),(1,9),(2,9)],[.str [],.str [],.str []],[.str,.str,.str],[.str,.str,.str]⟩,
 some ⟨3,48,.struct [(0,9),(1,9),(2,9)],[.str [],.str [],.str []],[.str,.str,.str],[.str,.str,.str]⟩,
 none,
 some ⟨1,8,.int .i64,[.int .i64 0],[.int .i64],[.int .i64]⟩,
 none,
 none,
 none,
 some ⟨8,104,.struct [(0,4),(1,32),(4,3),(5,3),(6,9),(7,9)],[.bool false,.str [],.str [],.str [],.int .i64 0,.int .i64 0,.str [],.str []],[.bool,.str,.str,.str,.int .i64,.int .i64,.str,.str],[.bool,.str,.str,.str,.int .i64,.int .i64,.str,.str]⟩,
 some ⟨8,104,.struct [(0,4),(1,32),(4,3),(5,3),(6,9),(7,9)],[.bool false,.str [],.str [],.str [],.int .i64 0,.int .i64 0,.str [],.str []],[.bool,.str,.str,.str,.int .i64,.int .i64,.str,.str],[.bool,.str,.str,.str,.int .i64,.int .i64,.str,.str]⟩,
 some ⟨1,8,.int .u64,[.int .u64 0],[.int .u64],[.int .u64]⟩,
 some ⟨1,8,.int .u64,[.int .u64 0],[.int .u64],[.int .u64]⟩,
 some ⟨16,216,.struct [(0,3),(1,32),(4,32),(7,32),(10,41),(11,41),(12,41),(13,22),(14,3),(15,3)],[.int .i64 0,.str [],.str [],.str [],.str [],.str [],.str [],.str [],.str [],.str [],.int .u64 0,.int .u64 0,.int .u64 0,.nils,.int .i64 0,.int .i64 0],[.int .i64,.str,.str,.str,.str,.str,.str,.str,.str,.str,.int .u64,.int .u64,.int .u64,.bsl,.int .i64,.int .i64],[]⟩,
 some ⟨16,216,.struct [(0,3),(1,32),(4,32),(7,32),(10,41),(11,41),(12,41),(13,22),(14,3),(15,3)],[.int .i64 0,.str [],.str [],.str [],.str [],.str [],.str [],.str [],.str [],.str [],.int .u64 0,.int .u64 0,.int .u64 0,.nils,.int .i64 0,.int .i64 0],[.int .i64,.str,.str,.str,.str,.str,.str,.str,.str,.str,.int .u64,.int .u64,.int .u64,.bsl,.int .i64,.int .i64],[]⟩,
 none,
 none,
 none,
 none,
 none,
 some ⟨10,120,.struct [(0,4),(1,32),(4,3),(5,41),(6,3),(7,3),(8,9),(9,9)],[.bool false,.str [],.str [],.str [],.int .i64 0,.int .u64 0,.int .i64 0,.int .i64 0,.str [],.str []],[.bool,.str,.str,.str,.int .i64,.int .u64,.int .i64,.int .i64,.str,.str],[.bool,.str,.str,.str,.int .i64,.int .u64,.int .i64,.int .i64,.str,.str]⟩,
 some ⟨10,120,.struct [(0,4),(1,32),(4,3),(5,41),(6,3),(7,3),(8,9),(9,9)],[.bool false,.str [],.str [],.str [],.int .i64 0,.int .u64 0,.int .i64 0,.int .i64 0,.str [],.str []],[.bool,.str,.str,.str,.int .i64,.int .u64,.int .i64,.int .i64,.str,.str],[.bool,.str,.str,.str,.int .i64,.int .u64,.int .i64,.int .i64,.str,.str]⟩,
 none,
 none,
 some ⟨4,48,.struct [(0,9),(1,9),(2,3),(3,41)],[.str [],.str [],.int .i64 0,.int .u64 0],[.str,.str,.int .i64,.int .u64],[.str,.str,.int .i64,.int .u64]⟩,
 some ⟨4,48,.struct [(0,9),(1,9),(2,3),(3,41)],[.str [],.str [],.int .i64 0,.int .u64 0],[.str,.str,.int .i64,.int .u64],[.str,.str,.int .i64,.int .u64]⟩,
 none,
 some ⟨7,88,.struct [(0,4),(1,32),(4,3),(5,34),(6,9)],[.bool false,.str [],.str [],.str [],.int .i64 0,.int .i64 0,.str []],[.bool,.str,.str,.str,.int .i64,.int .i64,.str],[.bool,.str,.str,.str,.int .i64,.int .i64,.str]⟩,
 some ⟨7,88,.struct [(0,4),(1,32),(4,3),(5,34),(6,9)],[.bool false,.str [],.str [],.str [],.int .i64 0,.int .i64 0,.str []],[.bool,.str,.str,.str,.int .i64,.int .i64,.str],[.bool,.str,.str,.str,.int .i64,.int .i64,.str]⟩,
 none,
 none,
 some ⟨1,24,.slice 32 false,[.nils],[.sl 3],[]⟩,
 some ⟨9,88,.struct [(0,9),(1,9),(2,41),(3,3),(4,3),(5,3),(6,3),(7,3),(8,3)],[.str [],.str [],.int .u64 0,.int .i64 0,.int .i64 0,.int .i64 0,.int .i64 0,.int .i64 0,.int .i64 0],[.str,.str,.int .u64,.int .i64,.int .i64,.int .i64,.int .i64,.int .i64,.int .i64],[.str,.str,.int .u64,.int .i64,.int .i64,.int .i64,.int .i64,.int .i64,.int .i64]⟩,
 some ⟨9,88,.struct [(0,9),(1,9),(2,41),(3,3),(4,3),(5,3),(6,3),(7,3),(8,3)],[.str [],.str [],.int .u64 0,.int .i64 0,.int .i64 0,.int .i64 0,.int .i64 0,.int .i64 0,.int .i64 0],[.str,.str,.int .u64,.int .i64,.int .i64,.int .i64,.int .i64,.int .i64,.int .i64],[.str,.str,.int .u64,.int .i64,.int .i64,.int .i64,.int .i64,.int .i64,.int .i64]⟩,
 none,
 none,
 none,
 none,
 none,
 none,
 none,
 none,
 none,
 some ⟨1,24,.slice 9 false,[.nils],[.sl 1],[]⟩,
 none,
 none,
 none,
 none,
 none,
 none,
 none,
 none,
 none,
 none,
 some ⟨8,104,.struct [(0,41),(1,32),(4,3),(5,3),(6,22),(7,3)],[.int .u64 0,.str [],.str [],.str [],.int .i64 0,.int .i64 0,.nils,.int .i64 0],[.int .u64,.str,.str,.str,.int .i64,.int .i64,.bsl,.int .i64],[]⟩,
 some ⟨8,104,.struct [(0,41),(1,32),(4,3),(5,3),(6,22),(7,3)],[.int .u64 0,.str [],.str [],.str [],.int .i64 0,.int .i64 0,.nils,.int .i64 0],[.int .u64,.str,.str,.str,.int .i64,.int .i64,.bsl,.int .i64],[]⟩,
 none,
 none,
 some ⟨8,104,.struct [(0,4),(1,32),(4,3),(5,3),(6,3),(7,22)],[.bool false,.str [],.str [],.str [],.int .i64 0,.int .i64 0,.int .i64 0,.nils],[.bool,.str,.str,.str,.int .i64,.int .i64,.int .i64,.bsl],[]⟩,
 some ⟨8,104,.struct [(0,4),(1,32),(4,3),(5,3),(6,3),(7,22)],[.bool false,.str [],.str [],.str [],.int .i64 0,.int .i64 0,.int .i64 0,.nils],[.bool,.str,.str,.str,.int .i64,.int .i64,.int .i64,.bsl],[]⟩,
 none,
 none,
 none,
 none,
 none,
 none,
 some ⟨1,8,.ptr 97,[.nilp],[.ptr],[]⟩,
 some ⟨4,40,.struct [(0,22),(1,3),(2,4),(3,4)],[.nils,.int .i64 0,.bool false,.bool false],[.bsl,.int .i64,.bool,.bool],[]⟩,
 some ⟨4,40,.struct [(0,22),(1,3),(2,4),(3,4)],[.nils,.int .i64 0,.bool false,.bool false],[.bsl,.int .i64,.bool,.bool],[]⟩,
 none,
 none,
 none,
 none,
 some ⟨1,8,.ptr 104,[.nilp],[.ptr],[]⟩,
 some ⟨2,32,.struct [(0,22),(1,3)],[.nils,.int .i64 0],[.bsl,.int .i64],[]⟩,
 some ⟨2,32,.struct [(0,22),(1,3)],[.nils,.int .i64 0],[.bsl,.int .i64],[]⟩,
 none,
 none,
 none,
 none,
 none,
 none,
 none,
 none,
 none,
 none,
 none,
 none,
 none,
 none,
 none,
 some ⟨1,24,.slice 3 false,[.nils],[.sl 1],[]⟩,
 none,
 none,
 none,
 none,
 none,
 none,
 none,
 none,
 none,
 some ⟨3,40,.struct [(0,3),(1,41),(2,22)],[.int .i64 0,.int .u64 0,.nils],[.int .i64,.int .u64,.bsl],[]⟩,
 some ⟨3,40,.struct [(0,3),(1,41),(2,22)],[.int .i64 0,.int .u64 0,.nils],[.int .i64,.int .u64,.bsl],[]⟩,
 none,
 none,
 none,
 none,
 none,
 none,
 none,
 none,
 none,
 some ⟨1,8,.int .u64,[.int .u64 0],[.int .u64],[.int .u64]⟩,
 none,
 some ⟨1,8,.ptr 9,[.nilp],[.ptr],[]⟩,
 some ⟨1,24,.slice 143 false,[.nils],[.sl 1],[]⟩,
 none,
 none,
 none,
 some ⟨10,160,.arr 10 9 false,[.str [],.str [],.str [],.str [],.str [],.str [],.str [],.str [],.str [],.str []],[.str,.str,.str,.str,.str,.str,.str,.str,.str,.str],[]⟩,
 none,
 none,
 none,
 none,
 none,
 none,
 none,
 none,
 none,
 none,
 none,
 some ⟨1,24,.slice 22 false,[.nils],[.sl 1],[]⟩,
 none,
 some ⟨4,4,.arr 4 5 true,[.u8 0,.u8 0,.u8 0,.u8 0],[.u8,.u8,.u8,.u8],[]⟩,
 some ⟨4,40,.struct [(0,17),(1,17),(2,17),(3,9)],[.nilp,.nilp,.nilp,.str []],[.ptr,.ptr,.ptr,.str],[]⟩,
 none,
 some ⟨0,0,.arr 0 16 false,[],[],[]⟩,
 none,
 none,
 some ⟨1,4,.int .u32,[.int .u32 0],[.int .u32],[.int .u32]⟩,
 some ⟨1,1,.u8,[.u8 0],[.u8],[.u8]⟩,
 some ⟨1,1,.u8,[.u8 0],[.u8],[.u8]⟩,
 none,
 some ⟨1,8,.ptr 5,[.nilp],[.ptr],[]⟩,
 some ⟨1,4,.int .i32,[.int .i32 0],[.int .i32],[.int .i32]⟩,
 some ⟨1,4,.int .i32,[.int .i32 0],[.int .i32],[.int .i32]⟩,
 none,
 none,
 none]
def keepT:List (Nat×Nat×List Keep):=[(5,4,[.val 0 5,.val 1 5,.val 2 5,.cells 6 [.str,.sl 9],.ptr 6 6 0,.cellsR 7 [.imm (.str),.own 20701 62 9 false],.ptr 7 7 0,.val 8 60,.val 9 3]),
 (5,3000008,[.val 0 5,.val 1 5,.val 2 5,.cells 6 [.str,.sl 9],.ptr 6 6 0,.cellsR 7 [.imm (.str),.own 20701 62 9 false],.ptr 7 7 0,.val 8 60,.val 9 3,.cells 10 [.str,.str,.int .u64,.int .i64,.int .i64,.int .i64,.int .i64,.int .i64,.int .i64],.ptr 10 10 0]),
 (5,3000010,[.val 0 5,.val 1 5,.val 2 5,.cells 6 [.str,.sl 9],.ptr 6 6 0,.cellsR 7 [.imm (.str),.own 20701 62 9 false],.ptr 7 7 0,.val 8 60,.val 9 3,.cells 10 [.str,.str,.int .u64,.int .i64,.int .i64,.int .i64,.int .i64,.int .i64,.int .i64],.ptr 10 10 0]),
 (6,4,[.val 3 29,.rowL 4 54 4 false,.val 5 3]),
 (6,8,[.val 3 29,.rowL 4 54 4 false,.val 5 3,.val 6 4,.val 7 3]),
 (12,3,[.val 0 29,.val 1 9,.val 2 9,.val 8 3,.val 9 3]),
 (17,3,[.cells 7 [.bsl,.int .i64],.ptr 3 7 0,.rowL 4 54 4 false]),
 (34,3,[.val 0 3,.val 1 3,.rowL 8 3 1 false,.val 11 120,.val 12 3,.val 13 3]),
 (40,5,[.val 1 120,.val 4 4,.val 5 34,.val 6 3,.val 7 4,.val 9 3]),
 (44,8,[.cells 1 [.bool,.str,.str,.str,.int .i64,.int .i64,.str],.ptr 1 1 0,.val 2 22,.val 3 34,.val 4 3]),
 (49,2,[.val 0 9,.val 1 9,.val 4 4,.val 5 3]),
 (49,7,[.val 0 9,.val 1 9,.val 4 4,.val 5 3,.val 6 3]),
 (50,3,[.val 1 3,.val 2 3,.val 3 4,.rowB 9 5 false,.val 10 3]),
 (52,4,[.val 0 22,.val 1 3,.cells 4 [.str,.str,.str],.ptr 4 4 0,.val 5 3,.val 6 34,.cells 7 [.str,.str,.str],.ptr 7 7 0,.psl 14 7 [0,1,2],.val 15 3,.val 16 3]),
 (64,3,[.val 0 29,.val 1 9,.val 2 9,.val 8 3,.val 9 4,.val 12 29,.val 13 3,.val 14 3]),
 (76,5,[.val 0 22,.val 4 41,.val 5 3]),
 (82,4,[.val 0 22,.val 1 3,.val 4 9,.val 5 3,.val 6 34,.val 7 3]),
 (84,2,[.val 0 3,.val 4 4,.val 7 120,.val 8 3,.val 9 3]),
 (86,6,[.val 0 22,.val 1 3,.val 2 3,.val 3 4,.val 12 3,.val 22 3,.val 23 3]),
 (98,3,[.val 1 9,.val 2 9,.val 6 3,.val 7 34,.val 8 3,.val 9 4,.val 13 25,.val 14 3,.val 15 3]),
 (100,2,[.val 0 3,.val 7 120,.val 8 3,.val 9 3]),
 (106,3,[.val 0 160,.val 3 3,.val 9 160,.val 10 3,.val 11 3]),
 (106,11,[.rowB 6 5 false,.val 25 160,.val 26 3,.val 27 3]),
 (107,3,[.val 0 41,.rowB 3 5 false,.val 7 3,.val 8 3]),
 (116,3,[.val 0 41,.rowB 3 5 false,.val 4 3]),
 (117,2,[.rowB 3 5 false]),
 (118,6,[.val 2 3,.val 3 4,.val 11 22,.val 12 3,.val 14 3,.val 15 3]),
 (121,2,[.val 0 9,.val 1 9,.val 4 4,.val 7 3,.val 8 3]),
 (122,3,[.val 0 22,.val 1 3,.val 2 3,.val 3 4,.barr 9 false,.ptr 9 9 0,.val 12 3,.val 13 3])]
def ownT:List Nat:=[50,58,117,125,25,26,106,122,94,95,111]
def rtsT:List (Nat×List Nat):=[(11,[41]),(12,[3,4]),(16,[41]),(22,[4]),(24,[22]),(27,[22]),(45,[4]),(46,[3]),(47,[72]),(49,[4]),(50,[22]),(57,[4]),(58,[22]),(59,[9]),(62,[4]),(64,[3,4]),(70,[32]),(79,[3,4,34]),(81,[]),(82,[9,3,34]),(84,[4]),(87,[34]),(91,[4]),(98,[3,34]),(100,[3]),(101,[4]),(103,[4]),(104,[4]),(107,[22]),(109,[4]),(110,[4]),(114,[22,3,34]),(116,[22]),(117,[22]),(119,[4]),(120,[3]),(125,[22]),(126,[41]),(128,[4]),(129,[3]),(130,[4]),(18,[9]),(20,[4]),(21,[4]),(23,[22]),(25,[22]),(26,[22]),(40,[4,34]),(43,[9]),(48,[4]),(67,[3,3,4]),(71,[3]),(77,[22]),(83,[3,4,34]),(86,[3,3,34]),(88,[3]),(92,[22]),(102,[3,4]),(106,[22]),(113,[4]),(118,[3,3,34]),(123,[3]),(7,[32]),(9,[32]),(15,[32]),(17,[29]),(19,[4]),(35,[3]),(41,[32]),(51,[4,34]),(53,[3,3,34]),(54,[3,3,34]),(55,[9,3,34]),(66,[3,4]),(76,[41,4]),(80,[3,3,34]),(96,[22]),(97,[3]),(99,[4]),(108,[22]),(112,[3,3,34]),(122,[22]),(127,[3]),(5,[27]),(6,[29]),(8,[22,34]),(34,[3,4]),(42,[3]),(44,[22,34]),(61,[3,34]),(72,[22,34]),(74,[131,3,34]),(75,[3]),(93,[22]),(94,[22]),(95,[22]),(111,[22]),(115,[34]),(121,[4]),(14,[57,34]),(32,[3,34]),(38,[22,4]),(65,[3,34]),(78,[22,34]),(89,[4]),(90,[4]),(39,[50,34]),(63,[4]),(13,[50,34]),(33,[41,3,3,3,34]),(85,[4]),(52,[32,3,34]),(56,[22,34]),(60,[22,34]),(69,[22,34]),(73,[22,34]),(124,[34]),(28,[39,34]),(31,[22]),(37,[22,34]),(105,[22,34]),(29,[22]),(68,[22,34]),(36,[43,84,34]),(10,[22,43,4]),(4,[4]),(3,[4])]
def sp11:Abs.Spec:=fun xs bl=>match xs,bl with
 | [.int .i64 n],[]=>chk (decide (0≤n)&&decide (n≤1000)) (some (.int .u64 (Kerb.session n),[]))
 | _,_=>none
def sp12:Abs.Spec:=fun xs bl=>match xs,bl with
 | [.sl 4 xls,.str a,.str b],[]=>chk (xls.all Kerb.isCross&&decide (xls.length≤1000000)) (some (.tup [.int .i64 (Kerb.findCross (xls.map Zy) a b).1,.bool (Kerb.findCross (xls.map Zy) a b).2],[]))
 | _,_=>none
def sp16:Abs.Spec:=fun xs bl=>match xs,bl with
 | [.int .i64 n],[]=>chk (decide (0≤n)&&decide (n≤1000)) (some (.int .u64 (Kerb.long n),[]))
 | _,_=>none
def sp22:Abs.Spec:=fun xs bl=>match xs,bl with
 | [.int .i64 n,.int .i64 m],[]=>some (.bool (Zh n m),[])
 | _,_=>none
def sp24:Abs.Spec:=fun xs bl=>match xs,bl with
 | [.int .i64 k,.bool little],[]=>some (.bs (Kerb.header k little),[])
 | _,_=>none
def sp27:Abs.Spec:=fun xs bl=>match xs,bl with
 | [.bs b,.str s],[]=>chk (decide (b.length+s.length≤70368744177664)) (some (.bs (Kerb.putText b s),[]))
 | _,_=>none
def sp45:Abs.Spec:=fun xs bl=>match xs,bl with
 | [.ptr 0 0],[(0,[.bs l,.int .i64 pos])]=>some (.bool (decide (pos<(l.length:Int))),[[.bs l,.int .i64 pos]])
 | _,_=>none
def sp46:Abs.Spec:=fun xs bl=>match xs,bl with
 | [.ptr 0 0,.int .i64 n],[(0,[.bs l,.int .i64 pos])]=>chk (decide (l.length≤4611686018427387904)&&decide (0≤pos)) (some (.int .i64 (Kerb.next l pos n),[[.bs l,.int .i64 (Kerb.nextPos l pos n)]]))
 | _,_=>none
def sp47:Abs.Spec:=fun xs bl=>match xs,bl with
 | [],[]=>some (.sl 1 [.str [65,84,72],.str [66,79,83],.str [67,65,77]],[])
 | _,_=>none
def sp49:Abs.Spec:=fun xs bl=>match xs,bl with
 | [.str s,.str bad],[]=>chk (decide (s.length≤9223372036854775807)&&decide (bad.length≤100)) (some (.bool (Kerb.printable s bad&&decide (s.length≤39)),[]))
 | _,_=>none
def sp50:Abs.Spec:=fun xs bl=>match xs,bl with
 | [.bs b,.int .i64 n,.int .i64 k,.bool little],[]=>chk (decide (k=1∨k=2∨k=4)&&decide (b.length≤70368744177664)) (some (.ownB (b++Kerb.putN n k.toNat little),[]))
 | _,_=>none
def sp57:Abs.Spec:=fun xs bl=>match xs,bl with
 | [.bs a,.bs b],[]=>some (.bool (a==b),[])
 | _,_=>none
def sp58:Abs.Spec:=fun xs bl=>match xs,bl with
 | [.bs b],[]=>chk (decide (b.length≤140737488355328)) (some (.ownB b,[]))
 | _,_=>none
def sp59:Abs.Spec:=fun xs bl=>match xs,bl with
 | [.int .i64 code],[]=>some (.str (Kerb.message code),[])
 | _,_=>none
def sp62:Abs.Spec:=fun xs bl=>match xs,bl with
 | [.agg [.str x,.str y,.str z]],[]=>some (.bool (x==Kerb.krbtgt),[])
 | _,_=>none
def sp64:Abs.Spec:=fun xs bl=>match xs,bl with
 | [.sl 4 xls,.str a,.str b],[]=>chk (xls.all Kerb.isCross&&decide (xls.length≤1000000)) (some (.tup [.int .i64 (Kerb.findCross (xls.map Zy) a b).1,.bool (Kerb.findCross (xls.map Zy) a b).2],[]))
 | _,_=>none
def sp70:Abs.Spec:=fun xs bl=>match xs,bl with
 | [.str r,.str t],[]=>some (.agg [.str [107,114,98,116,103,116],.str t,.str r],[])
 | _,_=>none
def sp79:Abs.Spec:=fun xs bl=>match xs,bl with
 | [.bs b],[]=>some (.tup [.int .i64 (Zg b).kind,.bool (Zg b).little,.int .i64 (Zg b).err],[])
 | _,_=>none
def sp81:Abs.Spec:=fun xs bl=>match xs,bl with
 | [.ptr 0 0,.int .i64 nx,.int .i64 e],[(0,[.bs B,.int .i64 at_,.bool li,.bool bad])]=>some (.tup [],[[.bs B,.int .i64 (cond (bad || !(e==0)) at_ nx),.bool li,.bool (bad || !(e==0))]])
 | _,_=>none
def sp82:Abs.Spec:=fun xs bl=>match xs,bl with
 | [.bs b,.int .i64 pos],[]=>chk (decide (b.length≤140737488355328)) (some (.tup [.str (Zf b pos).val,.int .i64 (Zf b pos).next,.int .i64 (Zf b pos).err],[]))
 | _,_=>none
def sp84:Abs.Spec:=fun xs bl=>match xs,bl with
 | [.int .i64 k,.sl 1 els],[]=>chk (allInts els&&decide (els.length≤1000)) (some (.bool ((intsIn els).contains k),[]))
 | _,_=>none
def sp87:Abs.Spec:=fun xs bl=>match xs,bl with
 | [.bs b,.int .i64 pos,.int .i64 n],[]=>chk (decide (b.length≤4611686018427387904)) (some (.int .i64 (Kerb.room b pos n),[]))
 | _,_=>none
def sp91:Abs.Spec:=fun xs bl=>match xs,bl with
 | [.int .i64 n,.int .i64 m],[]=>some (.bool (Zh n m),[])
 | _,_=>none
def sp98:Abs.Spec:=fun xs bl=>match xs,bl with
 | [.agg [.str rl,.sl 9 els],.str n,.str i],[]=>chk (els.all Zb&&decide (els.length≤1000000)) (some (.tup [.int .i64 (Kerb.findEnt (els.map Zz) n i).1,.int .i64 (Kerb.findEnt (els.map Zz) n i).2],[]))
 | _,_=>none
def sp100:Abs.Spec:=fun xs bl=>match xs,bl with
 | [.int .i64 n,.sl 1 els],[]=>chk (allInts els&&decide (els.length≤1000000)) (some (.int .i64 (Kerb.least n (intsIn els)),[]))
 | _,_=>none
def sp101:Abs.Spec:=fun xs bl=>match xs,bl with
 | [.int .i64 n],[]=>some (.bool (Zh n 4294967295),[])
 | _,_=>none
def sp103:Abs.Spec:=fun xs bl=>match xs,bl with
 | [.int .i64 k],[]=>some (.bool (Kerb.isClass k),[])
 | _,_=>none
def sp104:Abs.Spec:=fun xs bl=>match xs,bl with
 | [.int .i64 k],[]=>some (.bool (Kerb.isSerial k),[])
 | _,_=>none
def sp107:Abs.Spec:=fun xs bl=>match xs,bl with
 | [.int .u64 k],[]=>chk (decide (0≤k)&&decide (k<18446744073709551616)) (some (.bs (Kerb.keyBytes k),[]))
 | _,_=>none
def sp109:Abs.Spec:=fun xs bl=>match xs,bl with
 | [.int .i64 n],[]=>some (.bool (Zh n 255),[])
 | _,_=>none
def sp110:Abs.Spec:=fun xs bl=>match xs,bl with
 | [.int .i64 k],[]=>some (.bool (Kerb.isKind k),[])
 | _,_=>none
def sp114:Abs.Spec:=fun xs bl=>match xs,bl with
 | [.bs b,.int .i64 pos,.int .i64 n],[]=>chk (decide (b.length≤140737488355328)) (some (.tup [.bs (Zm b pos n).val,.int .i64 (Zm b pos n).next,.int .i64 (Zm b pos n).err],[]))
 | _,_=>none
def sp116:Abs.Spec:=fun xs bl=>match xs,bl with
 | [.int .u64 k],[]=>chk (decide (0≤k)&&decide (k<18446744073709551616)) (some (.bs (Kerb.keyBytes k),[]))
 | _,_=>none
def sp117:Abs.Spec:=fun xs bl=>match xs,bl with
 | [.bs b],[]=>chk (decide (b.length≤70368744177664)) (some (.ownB (Kerb.pad b),[]))
 | _,_=>none
def sp119:Abs.Spec:=fun xs bl=>match xs,bl with
 | [.int .i64 k],[]=>some (.bool (Kerb.isKind k),[])
 | _,_=>none
def sp120:Abs.Spec:=fun xs bl=>match xs,bl with
 | [.bs s,.u8 c],[]=>some (.int .i64 (Kerb.indexOf c s),[])
 | _,_=>none
def sp125:Abs.Spec:=fun xs bl=>match xs,bl with
 | [.nils,.int .i64 n],[]=>chk (decide (0≤n)&&decide (n≤140737488355328)) (some (.ownB [],[]))
 | _,_=>none
def sp126:Abs.Spec:=fun xs bl=>match xs,bl with
 | [.int .i64 c,.int .i64 n],[]=>some (.int .u64 (cond (Kerb.isClass c&&Kerb.isSerial n) (c*72057594037927936+n) 0),[])
 | _,_=>none
def sp128:Abs.Spec:=fun xs bl=>match xs,bl with
 | [.int .i64 n,.int .i64 m],[]=>some (.bool (Zh n m),[])
 | _,_=>none
def sp129:Abs.Spec:=fun xs bl=>match xs,bl with
 | [.str s,.u8 c],[]=>some (.int .i64 (Kerb.indexOf c s),[])
 | _,_=>none
def sp130:Abs.Spec:=fun xs bl=>match xs,bl with
 | [.int .i64 n,.int .i64 m],[]=>some (.bool (Zh n m),[])
 | _,_=>none
def sp18:Abs.Spec:=fun xs bl=>match xs,bl with
 | [.int .i64 n],[]=>chk (decide (0≤n)) (some (.str (Kerb.realm n),[]))
 | _,_=>none
def sp20:Abs.Spec:=fun xs bl=>match xs,bl with
 | [.str s],[]=>chk (decide (s.length≤9223372036854775807)) (some (.bool (Kerb.validName s),[]))
 | _,_=>none
def sp21:Abs.Spec:=fun xs bl=>match xs,bl with
 | [.str s],[]=>chk (decide (s.length≤9223372036854775807)) (some (.bool (Kerb.validInst s),[]))
 | _,_=>none
def sp23:Abs.Spec:=fun xs bl=>match xs,bl with
 | [.bs b,.agg [.str x,.str y,.str z]],[]=>chk (decide (b.length+x.length+y.length+z.length≤70368744170000)) (some (.bs (Kerb.putPrin b ⟨x,y,z⟩),[]))
 | _,_=>none
def sp25:Abs.Spec:=fun xs bl=>match xs,bl with
 | [.bs b,.int .i64 n],[]=>chk (decide (b.length≤70368744177664)) (some (.ownB (b++Kerb.putN n 1 false),[]))
 | _,_=>none
def sp26:Abs.Spec:=fun xs bl=>match xs,bl with
 | [.bs b,.int .i64 n,.bool little],[]=>chk (decide (b.length≤70368744177664)) (some (.ownB (b++Kerb.putN n 4 little),[]))
 | _,_=>none
def sp40:Abs.Spec:=fun xs bl=>match xs,bl with
 | [.bs b,.sl 1 els],[]=>chk (allInts els&&decide (els.length≤1000)) (some (.tup [.bool (Kerb.headIs b (intsIn els)).1,.int .i64 (Kerb.headIs b (intsIn els)).2],[]))
 | _,_=>none
def sp43:Abs.Spec:=fun xs bl=>match xs,bl with
 | [.ptr 0 0],[(0,[.bs B,.int .i64 at_,.bool li,.bool bad])]=>chk (decide (B.length≤140737488355328)) (some (.str (Zf B at_).val,[[.bs B,.int .i64 (cond (bad || !((Zf B at_).err==0)) at_ (Zf B at_).next),.bool li,.bool (bad || !((Zf B at_).err==0))]]))
 | _,_=>none
def sp48:Abs.Spec:=fun xs bl=>match xs,bl with
 | [.str s],[]=>chk (decide (s.length≤9223372036854775807)) (some (.bool (Kerb.validRealm s),[]))
 | _,_=>none
def sp67:Abs.Spec:=fun xs bl=>match xs,bl with
 | [.int .u64 k],[]=>chk (decide (0≤k)&&decide (k<18446744073709551616)) (some (.tup [.int .i64 (cond (Yy k) (Kerb.keyClass k) 0),.int .i64 (cond (Yy k) (Kerb.keySerial k) 0),.bool (Yy k)],[]))
 | _,_=>none
def sp71:Abs.Spec:=fun xs bl=>match xs,bl with
 | [.int .i64 i,.int .i64 l],[]=>some (.int .i64 (Kerb.tEnd i l),[])
 | _,_=>none
def sp77:Abs.Spec:=fun xs bl=>match xs,bl with
 | [.ptr 0 0,.int .i64 n],[(0,[.bs B,.int .i64 at_,.bool li,.bool bad])]=>chk (decide (B.length≤140737488355328)) (some (.bs (Zm B at_ n).val,[[.bs B,.int .i64 (cond (bad || !((Zm B at_ n).err==0)) at_ (Zm B at_ n).next),.bool li,.bool (bad || !((Zm B at_ n).err==0))]]))
 | _,_=>none
def sp83:Abs.Spec:=fun xs bl=>match xs,bl with
 | [.bs b],[]=>some (.tup [.int .i64 (Zg b).kind,.bool (Zg b).little,.int .i64 (Zg b).err],[])
 | _,_=>none
def sp86:Abs.Spec:=fun xs bl=>match xs,bl with
 | [.bs b,.int .i64 pos,.int .i64 k,.bool little],[]=>chk (decide (b.length≤4611686018427387904)&&decide (0≤k)&&decide (k≤4)) (some (.tup [.int .i64 (Zu b pos k little).val,.int .i64 (Zu b pos k little).next,.int .i64 (Zu b pos k little).err],[]))
 | _,_=>none
def sp88:Abs.Spec:=fun xs bl=>match xs,bl with
 | [.bs s,.u8 c],[]=>some (.int .i64 (Kerb.indexOf c s),[])
 | _,_=>none
def sp92:Abs.Spec:=fun xs bl=>match xs,bl with
 | [.int .i64 k,.bool little],[]=>some (.bs (Kerb.header k little),[])
 | _,_=>none
def sp102:Abs.Spec:=fun xs bl=>match xs,bl with
 | [.int .i64 n],[]=>chk (decide (-9223372036854775808≤n)&&decide (n≤9223372036854775807)) (some (.tup [.int .i64 (cond (decide (n<300)) 0 (Kerb.fromSec n)),.bool (!decide (n<300))],[]))
 | _,_=>none
def sp106:Abs.Spec:=fun xs bl=>match xs,bl with
 | [.sl 1 els],[]=>chk (allB els&&decide ((catB els).length≤140737488355328)&&decide (els.length≤1000)) (some (.ownB (catB els),[]))
 | _,_=>none
def sp113:Abs.Spec:=fun xs bl=>match xs,bl with
 | [.int .u64 k],[]=>chk (decide (0≤k)&&decide (k<18446744073709551616)) (some (.bool (Yy k),[]))
 | _,_=>none
def sp118:Abs.Spec:=fun xs bl=>match xs,bl with
 | [.bs b,.int .i64 pos,.int .i64 k,.bool little],[]=>chk (decide (b.length≤140737488355328)&&decide (0≤k)&&decide (k≤4)) (some (.tup [.int .i64 (Zu b pos k little).val,.int .i64 (Zu b pos k little).next,.int .i64 (Zu b pos k little).err],[]))
 | _,_=>none
def sp123:Abs.Spec:=fun xs bl=>match xs,bl with
 | [.str s,.u8 c],[]=>some (.int .i64 (Kerb.indexOf c s),[])
 | _,_=>none
def sp7:Abs.Spec:=fun xs bl=>match xs,bl with
 | [.int .i64 n,.int .i64 m],[]=>chk (decide (0≤n)&&decide (0≤m)) (some (.agg [.str Kerb.krbtgt,.str (Kerb.realm m),.str (Kerb.realm n)],[]))
 | _,_=>none
def sp9:Abs.Spec:=fun xs bl=>match xs,bl with
 | [.int .i64 n],[]=>chk (decide (0≤n)&&decide (n≤4611686018427387904)) (some (.agg [.str (Kerb.user n).name,.str (Kerb.user n).inst,.str (Kerb.user n).realm],[]))
 | _,_=>none
def sp15:Abs.Spec:=fun xs bl=>match xs,bl with
 | [.int .i64 n],[]=>chk (decide (0≤n)&&decide (n≤4611686018427387904)) (some (.agg [.str (Kerb.service n).name,.str (Kerb.service n).inst,.str (Kerb.service n).realm],[]))
 | _,_=>none
def sp17:Abs.Spec:=fun xs bl=>match xs,bl with
 | [.bs l],[]=>chk (decide (l.length≤100000)) (some (.sl 4 ((Kerb.dataCross l).map Kerb.Cross.av),[]))
 | _,_=>none
def sp19:Abs.Spec:=fun xs bl=>match xs,bl with
 | [.agg [.str a,.str b,.str c]],[]=>chk (decide (a.length≤9223372036854775807)&&decide (b.length≤9223372036854775807)&&decide (c.length≤9223372036854775807)) (some (.bool (Kerb.Prin.valid ⟨a,b,c⟩),[]))
 | _,_=>none
def sp35:Abs.Spec:=fun xs bl=>match xs,bl with
 | [.int .u64 k],[]=>chk (decide (0≤k)&&decide (k<18446744073709551616)) (some (.int .i64 (Kerb.classOf k),[]))
 | _,_=>none
def sp41:Abs.Spec:=fun xs bl=>match xs,bl with
 | [.ptr 0 0],[(0,[.bs B,.int .i64 at_,.bool li,.bool bad])]=>chk (decide (B.length≤140737488355328)) (some (.agg [.str (Kerb.rdPrin B at_ bad).p.name,.str (Kerb.rdPrin B at_ bad).p.inst,.str (Kerb.rdPrin B at_ bad).p.realm],[[.bs B,.int .i64 (Kerb.rdPrin B at_ bad).pos,.bool li,.bool (Kerb.rdPrin B at_ bad).bad]]))
 | _,_=>none
def sp51:Abs.Spec:=fun xs bl=>match xs,bl with
 | [.bs b,.sl 1 els],[]=>chk (allInts els&&decide (els.length≤1000)) (some (.tup [.bool (Kerb.headIs b (intsIn els)).1,.int .i64 (Kerb.headIs b (intsIn els)).2],[]))
 | _,_=>none
def sp53:Abs.Spec:=fun xs bl=>match xs,bl with
 | [.bs b,.int .i64 pos,.bool little],[]=>chk (decide (b.length≤4611686018427387904)) (some (.tup [.int .i64 (Zu b pos 4 little).val,.int .i64 (Zu b pos 4 little).next,.int .i64 (Zu b pos 4 little).err],[]))
 | _,_=>none
def sp54:Abs.Spec:=fun xs bl=>match xs,bl with
 | [.bs b,.int .i64 pos],[]=>chk (decide (b.length≤4611686018427387904)) (some (.tup [.int .i64 (Zu b pos 1 false).val,.int .i64 (Zu b pos 1 false).next,.int .i64 (Zu b pos 1 false).err],[]))
 | _,_=>none
def sp55:Abs.Spec:=fun xs bl=>match xs,bl with
 | [.bs b,.int .i64 pos],[]=>chk (decide (b.length≤4611686018427387904)) (some (.tup [.str (Zf b pos).val,.int .i64 (Zf b pos).next,.int .i64 (Zf b pos).err],[]))
 | _,_=>none
def sp66:Abs.Spec:=fun xs bl=>match xs,bl with
 | [.int .i64 n,.int .i64 w,.sl 1 els],[]=>chk (allInts els&&decide (els.length≤1000000)&&(intsIn els).all Kerb.isI64) (some (.tup [.int .i64 (Kerb.grantLife n w (intsIn els)).1,.bool (Kerb.grantLife n w (intsIn els)).2],[]))
 | _,_=>none
def sp76:Abs.Spec:=fun xs bl=>match xs,bl with
 | [.bs b],[]=>chk (decide (b.length≤4611686018427387904)) (some (.tup [.int .u64 (Kerb.keyRead b).1,.bool (Kerb.keyRead b).2],[]))
 | _,_=>none
def sp80:Abs.Spec:=fun xs bl=>match xs,bl with
 | [.bs b,.int .i64 pos,.bool little],[]=>chk (decide (b.length≤140737488355328)) (some (.tup [.int .i64 (Zu b pos 4 little).val,.int .i64 (Zu b pos 4 little).next,.int .i64 (Zu b pos 4 little).err],[]))
 | _,_=>none
def sp96:Abs.Spec:=fun xs bl=>match xs,bl with
 | [.bs b,.str s],[]=>chk (decide (b.length+s.length≤70368744177664)) (some (.bs (Kerb.putText b s),[]))
 | _,_=>none
def sp97:Abs.Spec:=fun xs bl=>match xs,bl with
 | [.str s,.u8 c],[]=>some (.int .i64 (Kerb.indexOf c s),[])
 | _,_=>none
def sp99:Abs.Spec:=fun xs bl=>match xs,bl with
 | [.int .u64 k],[]=>chk (decide (0≤k)&&decide (k<18446744073709551616)) (some (.bool (Yy k),[]))
 | _,_=>none
def sp108:Abs.Spec:=fun xs bl=>match xs,bl with
 | [.bs b],[]=>chk (decide (b.length≤70368744177664)) (some (.bs (Kerb.pad b),[]))
 | _,_=>none
def sp112:Abs.Spec:=fun xs bl=>match xs,bl with
 | [.bs b,.int .i64 pos],[]=>chk (decide (b.length≤140737488355328)) (some (.tup [.int .i64 (Zu b pos 1 false).val,.int .i64 (Zu b pos 1 false).next,.int .i64 (Zu b pos 1 false).err],[]))
 | _,_=>none
def sp122:Abs.Spec:=fun xs bl=>match xs,bl with
 | [.bs b,.int .i64 n,.int .i64 k,.bool little],[]=>chk (decide (k=1∨k=2∨k=4)&&decide (b.length≤70368744177664)) (some (.ownB (b++Kerb.putN n k.toNat little),[]))
 | _,_=>none
def sp127:Abs.Spec:=fun xs bl=>match xs,bl with
 | [.int .u64 k],[]=>chk (decide (0≤k)&&decide (k<18446744073709551616)) (some (.int .i64 (Kerb.classOf k),[]))
 | _,_=>none
def sp5:Abs.Spec:=fun xs bl=>match xs,bl with
 | [.u8 lf,.u8 xp,.u8 bd],[]=>some (.agg [.str (Kerb.simpleDb lf xp bd).realm,.sl 9 ((Kerb.simpleDb lf xp bd).entries.map Kerb.Entry.av)],[])
 | _,_=>none
def sp6:Abs.Spec:=fun xs bl=>match xs,bl with
 | [.bs l],[]=>chk (decide (l.length≤100000)) (some (.sl 4 ((Kerb.goodCross l).map Kerb.Cross.av),[]))
 | _,_=>none
def sp8:Abs.Spec:=fun xs bl=>match xs,bl with
 | [.agg [.bool li,.str x,.str y,.str z,.int .i64 t,.int .i64 lf,.str sv,.str ins]],[]=>chk (decide (x.length≤9223372036854775807)&&decide (y.length≤9223372036854775807)&&decide (z.length≤9223372036854775807)&&decide (sv.length≤9223372036854775807)&&decide (ins.length≤9223372036854775807)) (some (.tup [.bs (Zn ⟨li,⟨x,y,z⟩,t,lf,sv,ins⟩).val,.int .i64 (Zn ⟨li,⟨x,y,z⟩,t,lf,sv,ins⟩).err],[]))
 | _,_=>none
def sp34:Abs.Spec:=fun xs bl=>match xs,bl with
 | [.int .i64 now,.int .i64 w,.sl 1 els],[]=>chk (allInts els&&decide (els.length≤1000000)&&(intsIn els).all Kerb.isI64) (some (.tup [.int .i64 (Kerb.grantLife now w ((intsIn els).filter fun n => !(n==0))).1,.bool (Kerb.grantLife now w ((intsIn els).filter fun n => !(n==0))).2],[]))
 | _,_=>none
def sp42:Abs.Spec:=fun xs bl=>match xs,bl with
 | [.ptr 0 0],[(0,[.bs B,.int .i64 at_,.bool li,.bool bad])]=>chk (decide (B.length≤140737488355328)) (some (.int .i64 (Zu B at_ 4 li).val,[[.bs B,.int .i64 (cond (bad || !((Zu B at_ 4 li).err==0)) at_ (Zu B at_ 4 li).next),.bool li,.bool (bad || !((Zu B at_ 4 li).err==0))]]))
 | _,_=>none
def sp44:Abs.Spec:=fun xs bl=>match xs,bl with
 | [.agg [.bool li,.str x,.str y,.str z,.int .i64 t,.int .i64 cd,.str tx]],[]=>chk (decide (x.length≤9223372036854775807)&&decide (y.length≤9223372036854775807)&&decide (z.length≤9223372036854775807)&&decide (tx.length≤9223372036854775807)) (some (.tup [.bs (Kerb.encodeError ⟨li,⟨x,y,z⟩,t,cd,tx⟩).val,.int .i64 (Kerb.encodeError ⟨li,⟨x,y,z⟩,t,cd,tx⟩).err],[]))
 | _,_=>none
def sp61:Abs.Spec:=fun xs bl=>match xs,bl with
 | [.agg [.str rl,.sl 9 els],.str n,.str i,.int .i64 now,.int .i64 bit,.int .i64 xp,.int .i64 br],[]=>chk (els.all Zb&&decide (els.length≤1000000)) (some (.tup [.int .i64 (Kerb.useEnt (Zx rl (els.map Zz)) n i now bit xp br).1,.int .i64 (Kerb.useEnt (Zx rl (els.map Zz)) n i now bit xp br).2],[]))
 | _,_=>none
def sp72:Abs.Spec:=fun xs bl=>match xs,bl with
 | [.int .i64 kd,.int .u64 k,.bs bd],[]=>chk (decide (0≤k)&&decide (k<18446744073709551616)) (some (.tup [.bs (Kerb.makeBox kd k bd).val,.int .i64 (Kerb.makeBox kd k bd).err],[]))
 | _,_=>none
def sp74:Abs.Spec:=fun xs bl=>match xs,bl with
 | [.bs b],[]=>chk (decide (b.length≤140737488355328)) (some (.tup [.agg [.int .i64 (Kerb.readBox b).box.kind,.int .u64 (Kerb.readBox b).box.key,.bs (Kerb.readBox b).box.body],.int .i64 (Kerb.readBox b).n,.int .i64 (Kerb.readBox b).err],[]))
 | _,_=>none
def sp75:Abs.Spec:=fun xs bl=>match xs,bl with
 | [.ptr 0 0],[(0,[.bs B,.int .i64 at_,.bool li,.bool bad])]=>chk (decide (B.length≤140737488355328)) (some (.int .i64 (Zu B at_ 1 false).val,[[.bs B,.int .i64 (cond (bad || !((Zu B at_ 1 false).err==0)) at_ (Zu B at_ 1 false).next),.bool li,.bool (bad || !((Zu B at_ 1 false).err==0))]]))
 | _,_=>none
def sp93:Abs.Spec:=fun xs bl=>match xs,bl with
 | [.bs b,.agg [.str x,.str y,.str z]],[]=>chk (decide (b.length+x.length+y.length+z.length≤70368744170000)) (some (.bs (Kerb.putPrin b ⟨x,y,z⟩),[]))
 | _,_=>none
def sp94:Abs.Spec:=fun xs bl=>match xs,bl with
 | [.bs b,.int .i64 n,.bool little],[]=>chk (decide (b.length≤70368744177664)) (some (.ownB (b++Kerb.putN n 4 little),[]))
 | _,_=>none
def sp95:Abs.Spec:=fun xs bl=>match xs,bl with
 | [.bs b,.int .i64 n],[]=>chk (decide (b.length≤70368744177664)) (some (.ownB (b++Kerb.putN n 1 false),[]))
 | _,_=>none
def sp111:Abs.Spec:=fun xs bl=>match xs,bl with
 | [.bs b,.int .i64 n,.bool little],[]=>chk (decide (b.length≤70368744177664)) (some (.ownB (b++Kerb.putN n 2 little),[]))
 | _,_=>none
def sp115:Abs.Spec:=fun xs bl=>match xs,bl with
 | [.agg [.bool li,.str x,.str y,.str z,.int .i64 ad,.int .u64 k,.int .i64 lf,.int .i64 iss,.str sv,.str ins]],[]=>chk (decide (x.length≤9223372036854775807)&&decide (y.length≤9223372036854775807)&&decide (z.length≤9223372036854775807)&&decide (sv.length≤9223372036854775807)&&decide (ins.length≤9223372036854775807)&&decide (0≤k)&&decide (k<18446744073709551616)) (some (.int .i64 (Zd li ⟨x,y,z⟩ ad k lf iss sv ins).err,[]))
 | _,_=>none
def sp121:Abs.Spec:=fun xs bl=>match xs,bl with
 | [.str s,.str bad],[]=>chk (decide (s.length≤9223372036854775807)) (some (.bool (Kerb.printable s bad),[]))
 | _,_=>none
def sp14:Abs.Spec:=fun xs bl=>match xs,bl with
 | [.bs b],[]=>chk (decide (b.length≤140737488355328)) (some (.tup [.agg [.bool ((Zp b).val).little,.str ((Zp b).val).client.name,.str ((Zp b).val).client.inst,.str ((Zp b).val).client.realm,.int .i64 ((Zp b).val).time,.int .i64 ((Zp b).val).code,.str ((Zp b).val).text],.int .i64 (Zp b).err],[]))
 | _,_=>none
def sp32:Abs.Spec:=fun xs bl=>match xs,bl with
 | [.agg [.str rl,.sl 9 els],.str n,.str i,.int .i64 now],[]=>chk (els.all Zb&&decide (els.length≤1000000)) (some (.tup [.int .i64 (Kerb.clientEnt (Zx rl (els.map Zz)) n i now).1,.int .i64 (Kerb.clientEnt (Zx rl (els.map Zz)) n i now).2],[]))
 | _,_=>none
def sp38:Abs.Spec:=fun xs bl=>match xs,bl with
 | [.bs b,.int .i64 kd,.int .u64 k],[]=>chk (decide (b.length≤140737488355328)) (some (.tup [.bs (Kerb.openBox b kd k).1,.bool (Kerb.openBox b kd k).2],[]))
 | _,_=>none
def sp65:Abs.Spec:=fun xs bl=>match xs,bl with
 | [.agg [.str rl,.sl 9 els],.str n,.str i,.int .i64 now],[]=>chk (els.all Zb&&decide (els.length≤1000000)) (some (.tup [.int .i64 (Kerb.serviceEnt (Zx rl (els.map Zz)) n i now).1,.int .i64 (Kerb.serviceEnt (Zx rl (els.map Zz)) n i now).2],[]))
 | _,_=>none
def sp78:Abs.Spec:=fun xs bl=>match xs,bl with
 | [.agg [.bool li,.str x,.str y,.str z,.int .i64 ad,.int .u64 k,.int .i64 lf,.int .i64 iss,.str sv,.str ins]],[]=>chk (decide (x.length≤9223372036854775807)&&decide (y.length≤9223372036854775807)&&decide (z.length≤9223372036854775807)&&decide (sv.length≤9223372036854775807)&&decide (ins.length≤9223372036854775807)&&decide (0≤k)&&decide (k<18446744073709551616)) (some (.tup [.bs (Yz (Zd li ⟨x,y,z⟩ ad k lf iss sv ins)).val,.int .i64 (Yz (Zd li ⟨x,y,z⟩ ad k lf iss sv ins)).err],[]))
 | _,_=>none
def sp89:Abs.Spec:=fun xs bl=>match xs,bl with
 | [.str s],[]=>chk (decide (s.length≤9223372036854775807)) (some (.bool (Kerb.validName s),[]))
 | _,_=>none
def sp90:Abs.Spec:=fun xs bl=>match xs,bl with
 | [.str s],[]=>chk (decide (s.length≤9223372036854775807)) (some (.bool (Kerb.validInst s),[]))
 | _,_=>none
def sp39:Abs.Spec:=fun xs bl=>match xs,bl with
 | [.bs b],[]=>chk (decide (b.length≤140737488355328)) (some (.tup [.agg [.bool ((Zq b).val).little,.str ((Zq b).val).client.name,.str ((Zq b).val).client.inst,.str ((Zq b).val).client.realm,.int .i64 ((Zq b).val).address,.int .u64 ((Zq b).val).session,.int .i64 ((Zq b).val).life,.int .i64 ((Zq b).val).issued,.str ((Zq b).val).service,.str ((Zq b).val).inst],.int .i64 (Zq b).err],[]))
 | _,_=>none
def sp63:Abs.Spec:=fun xs bl=>match xs,bl with
 | [.str s],[]=>chk (decide (s.length≤9223372036854775807)) (some (.bool (Kerb.validRealm s),[]))
 | _,_=>none
def sp13:Abs.Spec:=fun xs bl=>match xs,bl with
 | [.bs b,.int .u64 k],[]=>chk (decide (b.length≤140737488355328)) (some (.tup [.agg [.bool ((Zj b k).val).little,.str ((Zj b k).val).client.name,.str ((Zj b k).val).client.inst,.str ((Zj b k).val).client.realm,.int .i64 ((Zj b k).val).address,.int .u64 ((Zj b k).val).session,.int .i64 ((Zj b k).val).life,.int .i64 ((Zj b k).val).issued,.str ((Zj b k).val).service,.str ((Zj b k).val).inst],.int .i64 (Zj b k).err],[]))
 | _,_=>none
def sp33:Abs.Spec:=fun xs bl=>match xs,bl with
 | [.agg [.str rl,.sl 9 els],.sl 4 xls,.str n,.str i,.int .i64 now],[]=>chk (els.all Zb&&decide (els.length≤1000000)&&xls.all Kerb.isCross&&decide (xls.length≤1000000)&&decide (i.length≤9223372036854775807)) (some (.tup [.int .u64 (Kerb.svc (Zx rl (els.map Zz)) (xls.map Zy) n i now).key,.int .i64 (Kerb.svc (Zx rl (els.map Zz)) (xls.map Zy) n i now).kvno,.int .i64 (Kerb.svc (Zx rl (els.map Zz)) (xls.map Zy) n i now).life,.int .i64 (Kerb.svc (Zx rl (els.map Zz)) (xls.map Zy) n i now).expires,.int .i64 (Kerb.svc (Zx rl (els.map Zz)) (xls.map Zy) n i now).err],[]))
 | _,_=>none
def sp85:Abs.Spec:=fun xs bl=>match xs,bl with
 | [.agg [.str a,.str b,.str c]],[]=>chk (decide (a.length≤9223372036854775807)&&decide (b.length≤9223372036854775807)&&decide (c.length≤9223372036854775807)) (some (.bool (Kerb.Prin.valid ⟨a,b,c⟩),[]))
 | _,_=>none
def sp52:Abs.Spec:=fun xs bl=>match xs,bl with
 | [.bs b,.int .i64 pos],[]=>chk (decide (b.length≤4611686018427387904)) (some (.tup [.agg [.str (Kerb.prin b pos).val.name,.str (Kerb.prin b pos).val.inst,.str (Kerb.prin b pos).val.realm],.int .i64 (Kerb.prin b pos).next,.int .i64 (Kerb.prin b pos).err],[]))
 | _,_=>none
def sp56:Abs.Spec:=fun xs bl=>match xs,bl with
 | [.agg [.bool li,.str x,.str y,.str z,.int .i64 t,.int .i64 lf,.str sv,.str ins]],[]=>chk (decide (x.length≤9223372036854775807)&&decide (y.length≤9223372036854775807)&&decide (z.length≤9223372036854775807)&&decide (sv.length≤9223372036854775807)&&decide (ins.length≤9223372036854775807)) (some (.tup [.bs (Zn ⟨li,⟨x,y,z⟩,t,lf,sv,ins⟩).val,.int .i64 (Zn ⟨li,⟨x,y,z⟩,t,lf,sv,ins⟩).err],[]))
 | _,_=>none
def sp60:Abs.Spec:=fun xs bl=>match xs,bl with
 | [.agg [.bool li,.str x,.str y,.str z,.int .i64 t,.int .i64 cd,.str tx]],[]=>chk (decide (x.length≤9223372036854775807)&&decide (y.length≤9223372036854775807)&&decide (z.length≤9223372036854775807)&&decide (tx.length≤9223372036854775807)) (some (.tup [.bs (Kerb.encodeError ⟨li,⟨x,y,z⟩,t,cd,tx⟩).val,.int .i64 (Kerb.encodeError ⟨li,⟨x,y,z⟩,t,cd,tx⟩).err],[]))
 | _,_=>none
def sp69:Abs.Spec:=fun xs bl=>match xs,bl with
 | [.agg [.int .u64 k,.str x,.str y,.str z,.int .i64 lf,.int .i64 kv,.bs tk,.int .i64 t],.bool little],[]=>chk (decide (x.length≤9223372036854775807)&&decide (y.length≤9223372036854775807)&&decide (z.length≤9223372036854775807)&&decide (0≤k)&&decide (k<18446744073709551616)) (some (.tup [.bs (Kerb.encodePart ⟨k,⟨x,y,z⟩,lf,kv,tk,t⟩ little).val,.int .i64 (Kerb.encodePart ⟨k,⟨x,y,z⟩,lf,kv,tk,t⟩ little).err],[]))
 | _,_=>none
def sp73:Abs.Spec:=fun xs bl=>match xs,bl with
 | [.agg [.bool li,.str x,.str y,.str z,.int .i64 t,.int .i64 ex,.int .i64 kv,.bs sd]],[]=>chk (decide (x.length≤9223372036854775807)&&decide (y.length≤9223372036854775807)&&decide (z.length≤9223372036854775807)) (some (.tup [.bs (Kerb.encodeReply ⟨li,⟨x,y,z⟩,t,ex,kv,sd⟩).val,.int .i64 (Kerb.encodeReply ⟨li,⟨x,y,z⟩,t,ex,kv,sd⟩).err],[]))
 | _,_=>none
def sp124:Abs.Spec:=fun xs bl=>match xs,bl with
 | [.agg [.bool li,.str x,.str y,.str z,.int .i64 ad,.int .u64 k,.int .i64 lf,.int .i64 iss,.str sv,.str ins]],[]=>chk (decide (x.length≤9223372036854775807)&&decide (y.length≤9223372036854775807)&&decide (z.length≤9223372036854775807)&&decide (sv.length≤9223372036854775807)&&decide (ins.length≤9223372036854775807)&&decide (0≤k)&&decide (k<18446744073709551616)) (some (.int .i64 (Zd li ⟨x,y,z⟩ ad k lf iss sv ins).err,[]))
 | _,_=>none
def sp28:Abs.Spec:=fun xs bl=>match xs,bl with
 | [.bs b],[]=>chk (decide (b.length≤4611686018427387904)) (some (.tup [.agg [.bool ((Zk b).val).little,.str ((Zk b).val).client.name,.str ((Zk b).val).client.inst,.str ((Zk b).val).client.realm,.int .i64 ((Zk b).val).time,.int .i64 ((Zk b).val).life,.str ((Zk b).val).service,.str ((Zk b).val).inst],.int .i64 (Zk b).err],[]))
 | _,_=>none
def sp31:Abs.Spec:=fun xs bl=>match xs,bl with
 | [.agg [.str x,.str y,.str z],.int .i64 cd,.int .i64 now,.bool li],[]=>chk (decide (x.length≤9223372036854775807)&&decide (y.length≤9223372036854775807)&&decide (z.length≤9223372036854775807)) (some (.bs (Kerb.refuse ⟨x,y,z⟩ cd now li),[]))
 | _,_=>none
def sp37:Abs.Spec:=fun xs bl=>match xs,bl with
 | [.agg [.bool rl_,.str x,.str y,.str z,.int .i64 rt_,.int .i64 rx,.int .i64 rkv,.bs rsd],.agg [.int .u64 pk,.str p1,.str p2,.str p3,.int .i64 pl,.int .i64 pv,.bs pt,.int .i64 pm],.int .u64 k],[]=>chk (decide (x.length≤9223372036854775807)&&decide (y.length≤9223372036854775807)&&decide (z.length≤9223372036854775807)&&decide (p1.length≤9223372036854775807)&&decide (p2.length≤9223372036854775807)&&decide (p3.length≤9223372036854775807)&&Kerb.isU64 pk&&Kerb.isU64 k) (some (.tup [.bs (Kerb.sealReply (Kerb.KdcReply.mk rl_ ⟨x,y,z⟩ rt_ rx rkv rsd) (Kerb.ReplyPart.mk pk ⟨p1,p2,p3⟩ pl pv pt pm) k).val,.int .i64 (Kerb.sealReply (Kerb.KdcReply.mk rl_ ⟨x,y,z⟩ rt_ rx rkv rsd) (Kerb.ReplyPart.mk pk ⟨p1,p2,p3⟩ pl pv pt pm) k).err],[]))
 | _,_=>none
def sp105:Abs.Spec:=fun xs bl=>match xs,bl with
 | [.agg [.bool li,.str x,.str y,.str z,.int .i64 ad,.int .u64 k,.int .i64 lf,.int .i64 iss,.str sv,.str ins]],[]=>chk (decide (x.length≤9223372036854775807)&&decide (y.length≤9223372036854775807)&&decide (z.length≤9223372036854775807)&&decide (sv.length≤9223372036854775807)&&decide (ins.length≤9223372036854775807)&&decide (0≤k)&&decide (k<18446744073709551616)) (some (.tup [.bs (Yz (Zd li ⟨x,y,z⟩ ad k lf iss sv ins)).val,.int .i64 (Yz (Zd li ⟨x,y,z⟩ ad k lf iss sv ins)).err],[]))
 | _,_=>none
def sp29:Abs.Spec:=fun xs bl=>match xs,bl with
 | [.bs msg,.int .i64 now,.bool li],[]=>chk (decide (msg.length≤1000000)) (some (.bs (Kerb.refuseVer msg now li),[]))
 | _,_=>none
def sp68:Abs.Spec:=fun xs bl=>match xs,bl with
 | [.agg [.bool li,.str x,.str y,.str z,.int .i64 ad,.int .u64 k,.int .i64 lf,.int .i64 iss,.str sv,.str ins],.int .u64 key],[]=>chk (decide (x.length≤9223372036854775807)&&decide (y.length≤9223372036854775807)&&decide (z.length≤9223372036854775807)&&decide (sv.length≤9223372036854775807)&&decide (ins.length≤9223372036854775807)&&decide (0≤k)&&decide (k<18446744073709551616)&&decide (0≤key)&&decide (key<18446744073709551616)) (some (.tup [.bs (Kerb.sealTicket (Zd li ⟨x,y,z⟩ ad k lf iss sv ins) key).val,.int .i64 (Kerb.sealTicket (Zd li ⟨x,y,z⟩ ad k lf iss sv ins) key).err],[]))
 | _,_=>none
def sp36:Abs.Spec:=fun xs bl=>match xs,bl with
 | [.agg [.str rl,.sl 9 els],.agg [.str x,.str y,.str z],.agg [.str u,.str v,.str w],.int .i64 ad,.bool li,.int .i64 now,.int .i64 lf,.int .u64 se,.int .u64 sl,.int .u64 tg,.int .i64 kv],[]=>chk (decide (x.length≤9223372036854775807)&&decide (y.length≤9223372036854775807)&&decide (z.length≤9223372036854775807)&&decide (u.length≤9223372036854775807)&&decide (v.length≤9223372036854775807)&&decide (w.length≤9223372036854775807)&&Kerb.isU64 se&&Kerb.isU64 tg) (some (.tup [.agg [.int .i64 ((Zv rl ⟨x,y,z⟩ ⟨u,v,w⟩ ad li now lf se sl tg kv).issue).kind,.str ((Zv rl ⟨x,y,z⟩ ⟨u,v,w⟩ ad li now lf se sl tg kv).issue).server.name,.str ((Zv rl ⟨x,y,z⟩ ⟨u,v,w⟩ ad li now lf se sl tg kv).issue).server.inst,.str ((Zv rl ⟨x,y,z⟩ ⟨u,v,w⟩ ad li now lf se sl tg kv).issue).server.realm,.str ((Zv rl ⟨x,y,z⟩ ⟨u,v,w⟩ ad li now lf se sl tg kv).issue).client.name,.str ((Zv rl ⟨x,y,z⟩ ⟨u,v,w⟩ ad li now lf se sl tg kv).issue).client.inst,.str ((Zv rl ⟨x,y,z⟩ ⟨u,v,w⟩ ad li now lf se sl tg kv).issue).client.realm,.str ((Zv rl ⟨x,y,z⟩ ⟨u,v,w⟩ ad li now lf se sl tg kv).issue).service.name,.str ((Zv rl ⟨x,y,z⟩ ⟨u,v,w⟩ ad li now lf se sl tg kv).issue).service.inst,.str ((Zv rl ⟨x,y,z⟩ ⟨u,v,w⟩ ad li now lf se sl tg kv).issue).service.realm,.int .u64 ((Zv rl ⟨x,y,z⟩ ⟨u,v,w⟩ ad li now lf se sl tg kv).issue).session,.int .u64 ((Zv rl ⟨x,y,z⟩ ⟨u,v,w⟩ ad li now lf se sl tg kv).issue).sealer,.int .u64 ((Zv rl ⟨x,y,z⟩ ⟨u,v,w⟩ ad li now lf se sl tg kv).issue).granter,.bs ((Zv rl ⟨x,y,z⟩ ⟨u,v,w⟩ ad li now lf se sl tg kv).issue).text,.int .i64 ((Zv rl ⟨x,y,z⟩ ⟨u,v,w⟩ ad li now lf se sl tg kv).issue).issued,.int .i64 ((Zv rl ⟨x,y,z⟩ ⟨u,v,w⟩ ad li now lf se sl tg kv).issue).stop],.agg [.int .u64 (Zv rl ⟨x,y,z⟩ ⟨u,v,w⟩ ad li now lf se sl tg kv).part.session,.str (Zv rl ⟨x,y,z⟩ ⟨u,v,w⟩ ad li now lf se sl tg kv).part.service.name,.str (Zv rl ⟨x,y,z⟩ ⟨u,v,w⟩ ad li now lf se sl tg kv).part.service.inst,.str (Zv rl ⟨x,y,z⟩ ⟨u,v,w⟩ ad li now lf se sl tg kv).part.service.realm,.int .i64 (Zv rl ⟨x,y,z⟩ ⟨u,v,w⟩ ad li now lf se sl tg kv).part.life,.int .i64 (Zv rl ⟨x,y,z⟩ ⟨u,v,w⟩ ad li now lf se sl tg kv).part.kvno,.bs (Zv rl ⟨x,y,z⟩ ⟨u,v,w⟩ ad li now lf se sl tg kv).part.ticket,.int .i64 (Zv rl ⟨x,y,z⟩ ⟨u,v,w⟩ ad li now lf se sl tg kv).part.time],.int .i64 (Zv rl ⟨x,y,z⟩ ⟨u,v,w⟩ ad li now lf se sl tg kv).err],[]))
 | _,_=>none
def sp10:Abs.Spec:=fun xs bl=>match xs,bl with
 | [.agg [.str rl,.sl 9 els],.sl 4 xls,.int .i64 now,.int .i64 ad,.bool li,.int .u64 se,.bs msg],[]=>chk (els.all Zb&&decide (els.length≤1000000)&&xls.all Kerb.isCross&&decide (xls.length≤1000000)&&decide (rl.length≤9223372036854775807)&&Kerb.isU64 se&&decide (msg.length≤1000000)) (some (.tup [.bs (Zw (Zx rl (els.map Zz)) (xls.map Zy) now ad li se msg).answer,.agg [.int .i64 ((Zw (Zx rl (els.map Zz)) (xls.map Zy) now ad li se msg).issue).kind,.str ((Zw (Zx rl (els.map Zz)) (xls.map Zy) now ad li se msg).issue).server.name,.str ((Zw (Zx rl (els.map Zz)) (xls.map Zy) now ad li se msg).issue).server.inst,.str ((Zw (Zx rl (els.map Zz)) (xls.map Zy) now ad li se msg).issue).server.realm,.str ((Zw (Zx rl (els.map Zz)) (xls.map Zy) now ad li se msg).issue).client.name,.str ((Zw (Zx rl (els.map Zz)) (xls.map Zy) now ad li se msg).issue).client.inst,.str ((Zw (Zx rl (els.map Zz)) (xls.map Zy) now ad li se msg).issue).client.realm,.str ((Zw (Zx rl (els.map Zz)) (xls.map Zy) now ad li se msg).issue).service.name,.str ((Zw (Zx rl (els.map Zz)) (xls.map Zy) now ad li se msg).issue).service.inst,.str ((Zw (Zx rl (els.map Zz)) (xls.map Zy) now ad li se msg).issue).service.realm,.int .u64 ((Zw (Zx rl (els.map Zz)) (xls.map Zy) now ad li se msg).issue).session,.int .u64 ((Zw (Zx rl (els.map Zz)) (xls.map Zy) now ad li se msg).issue).sealer,.int .u64 ((Zw (Zx rl (els.map Zz)) (xls.map Zy) now ad li se msg).issue).granter,.bs ((Zw (Zx rl (els.map Zz)) (xls.map Zy) now ad li se msg).issue).text,.int .i64 ((Zw (Zx rl (els.map Zz)) (xls.map Zy) now ad li se msg).issue).issued,.int .i64 ((Zw (Zx rl (els.map Zz)) (xls.map Zy) now ad li se msg).issue).stop],.bool (Zw (Zx rl (els.map Zz)) (xls.map Zy) now ad li se msg).ok],[]))
 | _,_=>none
def sp4:Abs.Spec:=fun xs bl=>match xs,bl with
 | [],[]=>some (.bool true,[])
 | _,_=>none
def sp3:Abs.Spec:=fun xs bl=>match xs,bl with
 | [.bs cx,.u8 pe,.u8 wh,.u8 lf,.int .u16 now],[]=>chk (decide (0≤now)&&decide (now≤65535)) (some (.bool true,[]))
 | _,_=>none
def tabT:List (Nat×Nat×List CT×Abs.Spec):=[(11,1,[.int .i64],sp11),(12,1,[.sl 4,.str,.str],sp12),(16,1,[.int .i64],sp16),(22,1,[.int .i64,.int .i64],sp22),(24,1,[.int .i64,.bool],sp24),(27,1,[.bsl,.str],sp27),(45,1,[.ptr],sp45),(46,1,[.ptr,.int .i64],sp46),(47,1,[],sp47),(49,1,[.str,.str],sp49),(50,1,[.bsl,.int .i64,.int .i64,.bool],sp50),(57,1,[.bsl,.bsl],sp57),(58,1,[.bsl],sp58),(59,1,[.int .i64],sp59),(62,1,[.other],sp62),(64,1,[.sl 4,.str,.str],sp64),(70,1,[.str,.str],sp70),(79,1,[.bsl],sp79),(81,1,[.ptr,.int .i64,.int .i64],sp81),(82,1,[.bsl,.int .i64],sp82),(84,1,[.int .i64,.sl 1],sp84),(87,1,[.bsl,.int .i64,.int .i64],sp87),(91,1,[.int .i64,.int .i64],sp91),(98,1,[.other,.str,.str],sp98),(100,1,[.int .i64,.sl 1],sp100),(101,1,[.int .i64],sp101),(103,1,[.int .i64],sp103),(104,1,[.int .i64],sp104),(107,1,[.int .u64],sp107),(109,1,[.int .i64],sp109),(110,1,[.int .i64],sp110),(114,1,[.bsl,.int .i64,.int .i64],sp114),(116,1,[.int .u64],sp116),(117,1,[.bsl],sp117),(119,1,[.int .i64],sp119),(120,1,[.bsl,.u8],sp120),(125,1,[.other,.other],sp125),(126,1,[.int .i64,.int .i64],sp126),(128,1,[.int .i64,.int .i64],sp128),(129,1,[.str,.u8],sp129),(130,1,[.int .i64,.int .i64],sp130),(18,2,[.int .i64],sp18),(20,2,[.str],sp20),(21,2,[.str],sp21),(23,2,[.bsl,.other],sp23),(25,2,[.bsl,.int .i64],sp25),(26,2,[.bsl,.int .i64,.bool],sp26),(40,2,[.bsl,.sl 1],sp40),(43,2,[.ptr],sp43),(48,2,[.str],sp48),(67,2,[.int .u64],sp67),(71,2,[.int .i64,.int .i64],sp71),(77,2,[.ptr,.int .i64],sp77),(83,2,[.bsl],sp83),(86,2,[.bsl,.int .i64,.int .i64,.bool],sp86),(88,2,[.bsl,.u8],sp88),(92,2,[.int .i64,.bool],sp92),(102,2,[.int .i64],sp102),(106,2,[.sl 1],sp106),(113,2,[.int .u64],sp113),(118,2,[.bsl,.int .i64,.int .i64,.bool],sp118),(123,2,[.str,.u8],sp123),(7,3,[.int .i64,.int .i64],sp7),(9,3,[.int .i64],sp9),(15,3,[.int .i64],sp15),(17,3,[.bsl],sp17),(19,3,[.other],sp19),(35,3,[.int .u64],sp35),(41,3,[.ptr],sp41),(51,3,[.bsl,.sl 1],sp51),(53,3,[.bsl,.int .i64,.bool],sp53),(54,3,[.bsl,.int .i64],sp54),(55,3,[.bsl,.int .i64],sp55),(66,3,[.int .i64,.int .i64,.sl 1],sp66),(76,3,[.bsl],sp76),(80,3,[.bsl,.int .i64,.bool],sp80),(96,3,[.bsl,.str],sp96),(97,3,[.str,.u8],sp97),(99,3,[.int .u64],sp99),(108,3,[.bsl],sp108),(112,3,[.bsl,.int .i64],sp112),(122,3,[.bsl,.int .i64,.int .i64,.bool],sp122),(127,3,[.int .u64],sp127),(5,4,[.u8,.u8,.u8],sp5),(6,4,[.bsl],sp6),(8,4,[.other],sp8),(34,4,[.int .i64,.int .i64,.sl 1],sp34),(42,4,[.ptr],sp42),(44,4,[.other],sp44),(61,4,[.other,.str,.str,.int .i64,.int .i64,.int .i64,.int .i64],sp61),(72,4,[.int .i64,.int .u64,.bsl],sp72),(74,4,[.bsl],sp74),(75,4,[.ptr],sp75),(93,4,[.bsl,.other],sp93),(94,4,[.bsl,.int .i64,.bool],sp94),(95,4,[.bsl,.int .i64],sp95),(111,4,[.bsl,.int .i64,.bool],sp111),(115,4,[.other],sp115),(121,4,[.str,.str],sp121),(14,5,[.bsl],sp14),(32,5,[.other,.str,.str,.int .i64],sp32),(38,5,[.bsl,.int .i64,.int .u64],sp38),(65,5,[.other,.str,.str,.int .i64],sp65),(78,5,[.other],sp78),(89,5,[.str],sp89),(90,5,[.str],sp90),(39,6,[.bsl],sp39),(63,6,[.str],sp63),(13,7,[.bsl,.int .u64],sp13),(33,7,[.other,.sl 4,.str,.str,.int .i64],sp33),(85,7,[.other],sp85),(52,8,[.bsl,.int .i64],sp52),(56,8,[.other],sp56),(60,8,[.other],sp60),(69,8,[.other,.bool],sp69),(73,8,[.other],sp73),(124,8,[.other],sp124),(28,9,[.bsl],sp28),(31,9,[.other,.int .i64,.int .i64,.bool],sp31),(37,9,[.other,.other,.int .u64],sp37),(105,9,[.other],sp105),(29,10,[.bsl,.int .i64,.bool],sp29),(68,10,[.other,.int .u64],sp68),(36,11,[.other,.other,.other,.int .i64,.bool,.int .i64,.int .i64,.int .u64,.int .u64,.int .u64,.int .i64],sp36),(10,12,[.other,.sl 4,.int .i64,.int .i64,.bool,.int .u64,.bsl],sp10),(4,13,[],sp4),(3,14,[.bsl,.u8,.u8,.u8,.int .u16],sp3)]
def globT:List (Nat×List AV):=[(0,[.str [99,108,105,101,110,116,32,101,120,112,105,114,101,100],.str [115,101,114,118,105,99,101,32,101,120,112,105,114,101,100],.str [110,111,32,108,105,102,101,116,105,109,101,32,108,101,102,116],.str [112,114,111,116,111,99,111,108,32,118,101,114,115,105,111,110],.str [110,111,116,32,97,32,99,108,105,101,110,116],.str [110,111,116,32,97,32,115,101,114,118,105,99,101],.str [98,121,116,101,32,111,114,100,101,114],.str [112,114,105,110,99,105,112,97,108,32,117,110,107,110,111,119,110],.str [112,114,105,110,99,105,112,97,108,32,110,111,116,32,117,110,105,113,117,101],.str [110,111,32,107,101,121]])]
noncomputable def inlT:List (Nat×Func):=[(30,Tryz.f30)]
def look {α:Type} (k:Nat):List (Nat×α)→Option α
 | []=>none
 | (j,x)::r=>cond (Nat.beq j k) (some x) (look k r)
def look2 {α:Type} (k m:Nat):List (Nat×Nat×List α)→List α
 | []=>[]
 | (j,i,x)::r=>cond (Nat.beq j k) (cond (Nat.beq i m) x (look2 k m r)) (look2 k m r)
noncomputable def G:Cfg2:={ ty:=fun t=>(tbl[t]?).join,keep:=fun f r=>look2 f r keepT,own:=fun f=>ownT.contains f,glob:=fun q=>look q globT,rts:=fun f=>look f rtsT,tab:=fun f=>look f tabT,inl:=fun f=>look f inlT }
end Go.Proofs.YtkdmekflbaekpaaGreatDoor
