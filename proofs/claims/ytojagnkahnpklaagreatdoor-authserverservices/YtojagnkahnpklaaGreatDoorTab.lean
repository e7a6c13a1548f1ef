/- The table of functions of this seat. -/
import Derived.Test.YtojagnkahnpklaaGreatDoorAbsSpec
import Derived.Test.YtojagnkahnpklaaGreatDoorKerbDefs
import Derived.Test.YtojagnkahnpklaaGreatDoorAbsPlain
import Derived.Test.YtojagnkahnpklaaGreatDoorKerbKaRef
import Derived.Test.YtojagnkahnpklaaGreatDoorKerbCli2
import Derived.Test.YtojagnkahnpklaaGreatDoorKerbTkt
import Derived.Test.YtojagnkahnpklaaGreatDoorKerbDb
import Derived.Test.YtojagnkahnpklaaGreatDoorKerbKac
import Derived.Test.YtojagnkahnpklaaGreatDoorKerbSrv
import Derived.Test.YtojagnkahnpklaaGreatDoorKerbSrvD
import Derived.Test.YtojagnkahnpklaaGreatDoorKerbAuth
import Derived.Test.YtojagnkahnpklaaGreatDoorProg
import Derived.KernelRfl
open Kerb renaming toEntry→Zz,toCross→Zy,authAnswer→Zw,grant→Zv,decodeRequest→Zu,get→Zq,decodeError→Zj,isEntry→Zk,dataEnt→Zp,text→Zd,readHead→Zf,svc→Zb,encodeRequest→Zn,keyValid→Zm
open Kerb.Db renaming mk→Zx
open Kerb.Ticket renaming mk→Zg
namespace Go.Proofs.YtojagnkahnpklaaGreatDoor
open Go Go.Abs
set_option linter.unusedVariables false
def tbl:List (Option TI):=[
 none,
 none,
 some ⟨1,8,.int .i64,[.int .i64 0],[.int .i64],[.int .i64]⟩,
 some ⟨1,8,.int .i64,[.int .i64 0],[.int .i64],[.int .i64]⟩,
 some ⟨1,1,.bool,[.bool false],[.bool],[.bool]⟩,
 some ⟨1,1,.u8,[.u8 0],[.u8],[.u8]⟩,
 some ⟨1,1,.u8,[.u8 0],[.u8],[.u8]⟩,
 some ⟨4,24,.struct [(0,2),(1,3),(2,4),(3,6)],[.int .i64 0,.int .i64 0,.bool false,.u8 0],[.int .i64,.int .i64,.bool,.u8],[.int .i64,.int .i64,.bool,.u8]⟩,
 none,
 some ⟨1,16,.str,[.str []],[.str],[.str]⟩,
 none,
 none,
 some ⟨1,8,.int .u64,[.int .u64 0],[.int .u64],[.int .u64]⟩,
 none,
 none,
 some ⟨1,8,.ptr 155,[.nilp],[.ptr],[]⟩,
 some ⟨1,8,.ptr 158,[.nilp],[.ptr],[]⟩,
 some ⟨1,8,.ptr 167,[.nilp],[.ptr],[]⟩,
 some ⟨1,8,.struct [(0,17)],[.nilp],[.ptr],[]⟩,
 some ⟨1,8,.struct [(0,17)],[.nilp],[.ptr],[]⟩,
 none,
 some ⟨1,4,.int .i32,[.int .i32 0],[.int .i32],[.int .i32]⟩,
 some ⟨1,24,.slice 5 true,[.nils],[.bsl],[]⟩,
 some ⟨1,2,.int .u16,[.int .u16 0],[.int .u16],[.int .u16]⟩,
 none,
 some ⟨1,24,.slice 59 false,[.nils],[.sl 4],[]⟩,
 none,
 some ⟨3,48,.struct [(0,9),(1,9),(2,9)],[.str [],.str [],.str []],[.str,.str,.str],[.str,.str,.str]⟩,
 some ⟨3,48,.struct [(0,9),(1,9),(2,9)],[.str [],.str [],.str []],[.str,.str,.str],[.str,.str,.str]⟩,
 none,
 none,
 some ⟨1,24,.slice 28 false,[.nils],[.sl 3],[]⟩,
 some ⟨1,24,.slice 62 false,[.nils],[.sl 9],[]⟩,
 some ⟨2,40,.struct [(0,9),(1,32)],[.str [],.nils],[.str,.sl 9],[]⟩,
 some ⟨2,40,.struct [(0,9),(1,32)],[.str [],.nils],[.str,.sl 9],[]⟩,
 none,
 none,
 some ⟨1,24,.slice 34 false,[.nils],[.sl 2],[]⟩,
 some ⟨1,24,.slice 3 false,[.nils],[.sl 1],[]⟩,
 some ⟨1,8,.int .u64,[.int .u64 0],[.int .u64],[.int .u64]⟩,
 some ⟨1,8,.int .u64,[.int .u64 0],[.int .u64],[.int .u64]⟩,
 some ⟨1,8,.int .i64,[.int .i64 0],[.int .i64],[.int .i64]⟩,
 none,
 none,
 none,
 none,
 none,
 some ⟨8,104,.struct [(0,4),(1,28),(4,3),(5,3),(6,9),(7,9)],[.bool false,.str [],.str [],.str [],.int .i64 0,.int .i64 0,.str [],.str []],[.bool,.str,.str,.str,.int .i64,.int .i64,.str,.str],[.bool,.str,.str,.str,.int .i64,.int .i64,.str,.str]⟩,
 some ⟨8,104,.struct [(0,4),(1,28),(4,3),(5,3),(6,9),(7,9)],[.bool false,.str [],.str [],.str [],.int .i64 0,.int .i64 0,.str [],.str []],[.bool,.str,.str,.str,.int .i64,.int .i64,.str,.str],[.bool,.str,.str,.str,.int .i64,.int .i64,.str,.str]⟩,
 some ⟨16,216,.struct [(0,3),(1,28),(4,28),(7,28),(10,40),(11,40),(12,40),(13,22),(14,3),(15,3)],[.int .i64 0,.str [],.str [],.str [],.str [],.str [],.str [],.str [],.str [],.str [],.int .u64 0,.int .u64 0,.int .u64 0,.nils,.int .i64 0,.int .i64 0],[.int .i64,.str,.str,.str,.str,.str,.str,.str,.str,.str,.int .u64,.int .u64,.int .u64,.bsl,.int .i64,.int .i64],[]⟩,
 some ⟨16,216,.struct [(0,3),(1,28),(4,28),(7,28),(10,40),(11,40),(12,40),(13,22),(14,3),(15,3)],[.int .i64 0,.str [],.str [],.str [],.str [],.str [],.str [],.str [],.str [],.str [],.int .u64 0,.int .u64 0,.int .u64 0,.nils,.int .i64 0,.int .i64 0],[.int .i64,.str,.str,.str,.str,.str,.str,.str,.str,.str,.int .u64,.int .u64,.int .u64,.bsl,.int .i64,.int .i64],[]⟩,
 none,
 none,
 none,
 some ⟨7,88,.struct [(0,4),(1,28),(4,3),(5,41),(6,9)],[.bool false,.str [],.str [],.str [],.int .i64 0,.int .i64 0,.str []],[.bool,.str,.str,.str,.int .i64,.int .i64,.str],[.bool,.str,.str,.str,.int .i64,.int .i64,.str]⟩,
 some ⟨7,88,.struct [(0,4),(1,28),(4,3),(5,41),(6,9)],[.bool false,.str [],.str [],.str [],.int .i64 0,.int .i64 0,.str []],[.bool,.str,.str,.str,.int .i64,.int .i64,.str],[.bool,.str,.str,.str,.int .i64,.int .i64,.str]⟩,
 none,
 none,
 some ⟨4,48,.struct [(0,9),(1,9),(2,3),(3,40)],[.str [],.str [],.int .i64 0,.int .u64 0],[.str,.str,.int .i64,.int .u64],[.str,.str,.int .i64,.int .u64]⟩,
 some ⟨4,48,.struct [(0,9),(1,9),(2,3),(3,40)],[.str [],.str [],.int .i64 0,.int .u64 0],[.str,.str,.int .i64,.int .u64],[.str,.str,.int .i64,.int .u64]⟩,
 none,
 some ⟨9,88,.struct [(0,9),(1,9),(2,40),(3,3),(4,3),(5,3),(6,3),(7,3),(8,3)],[.str [],.str [],.int .u64 0,.int .i64 0,.int .i64 0,.int .i64 0,.int .i64 0,.int .i64 0,.int .i64 0],[.str,.str,.int .u64,.int .i64,.int .i64,.int .i64,.int .i64,.int .i64,.int .i64],[.str,.str,.int .u64,.int .i64,.int .i64,.int .i64,.int .i64,.int .i64,.int .i64]⟩,
 some ⟨9,88,.struct [(0,9),(1,9),(2,40),(3,3),(4,3),(5,3),(6,3),(7,3),(8,3)],[.str [],.str [],.int .u64 0,.int .i64 0,.int .i64 0,.int .i64 0,.int .i64 0,.int .i64 0,.int .i64 0],[.str,.str,.int .u64,.int .i64,.int .i64,.int .i64,.int .i64,.int .i64,.int .i64],[.str,.str,.int .u64,.int .i64,.int .i64,.int .i64,.int .i64,.int .i64,.int .i64]⟩,
 some ⟨1,8,.ptr 65,[.nilp],[.ptr],[]⟩,
 some ⟨2,32,.struct [(0,22),(1,3)],[.nils,.int .i64 0],[.bsl,.int .i64],[]⟩,
 some ⟨2,32,.struct [(0,22),(1,3)],[.nils,.int .i64 0],[.bsl,.int .i64],[]⟩,
 none,
 none,
 none,
 none,
 none,
 none,
 none,
 none,
 none,
 none,
 none,
 none,
 none,
 some ⟨1,24,.slice 9 false,[.nils],[.sl 1],[]⟩,
 none,
 none,
 none,
 none,
 none,
 none,
 some ⟨8,104,.struct [(0,40),(1,28),(4,3),(5,3),(6,22),(7,3)],[.int .u64 0,.str [],.str [],.str [],.int .i64 0,.int .i64 0,.nils,.int .i64 0],[.int .u64,.str,.str,.str,.int .i64,.int .i64,.bsl,.int .i64],[]⟩,
 some ⟨8,104,.struct [(0,40),(1,28),(4,3),(5,3),(6,22),(7,3)],[.int .u64 0,.str [],.str [],.str [],.int .i64 0,.int .i64 0,.nils,.int .i64 0],[.int .u64,.str,.str,.str,.int .i64,.int .i64,.bsl,.int .i64],[]⟩,
 none,
 none,
 some ⟨8,104,.struct [(0,4),(1,28),(4,3),(5,3),(6,3),(7,22)],[.bool false,.str [],.str [],.str [],.int .i64 0,.int .i64 0,.int .i64 0,.nils],[.bool,.str,.str,.str,.int .i64,.int .i64,.int .i64,.bsl],[]⟩,
 some ⟨8,104,.struct [(0,4),(1,28),(4,3),(5,3),(6,3),(7,22)],[.bool false,.str [],.str [],.str [],.int .i64 0,.int .i64 0,.int .i64 0,.nils],[.bool,.str,.str,.str,.int .i64,.int .i64,.int .i64,.bsl],[]⟩,
 none,
 none,
 none,
 some ⟨1,8,.ptr 97,[.nilp],[.ptr],[]⟩,
 some ⟨4,40,.struct [(0,22),(1,3),(2,4),(3,4)],[.nils,.int .i64 0,.bool false,.bool false],[.bsl,.int .i64,.bool,.bool],[]⟩,
 some ⟨4,40,.struct [(0,22),(1,3),(2,4),(3,4)],[.nils,.int .i64 0,.bool false,.bool false],[.bsl,.int .i64,.bool,.bool],[]⟩,
 none,
 none,
 none,
 none,
 none,
 none,
 none,
 none,
 none,
 none,
 none,
 none,
 none,
 none,
 none,
 none,
 none,
 none,
 none,
 none,
 none,
 none,
 some ⟨10,120,.struct [(0,4),(1,28),(4,3),(5,40),(6,3),(7,3),(8,9),(9,9)],[.bool false,.str [],.str [],.str [],.int .i64 0,.int .u64 0,.int .i64 0,.int .i64 0,.str [],.str []],[.bool,.str,.str,.str,.int .i64,.int .u64,.int .i64,.int .i64,.str,.str],[.bool,.str,.str,.str,.int .i64,.int .u64,.int .i64,.int .i64,.str,.str]⟩,
 some ⟨10,120,.struct [(0,4),(1,28),(4,3),(5,40),(6,3),(7,3),(8,9),(9,9)],[.bool false,.str [],.str [],.str [],.int .i64 0,.int .u64 0,.int .i64 0,.int .i64 0,.str [],.str []],[.bool,.str,.str,.str,.int .i64,.int .u64,.int .i64,.int .i64,.str,.str],[.bool,.str,.str,.str,.int .i64,.int .u64,.int .i64,.int .i64,.str,.str]⟩,
 none,
 none,
 none,
 none,
 none,
 none,
 none,
 none,
 none,
 none,
 none,
 some ⟨1,8,.int .u64,[.int .u64 0],[.int .u64],[.int .u64]⟩,
 none,
 some ⟨1,8,.ptr 9,[.nilp],[.ptr],[]⟩,
 some ⟨1,24,.slice 135 false,[.nils],[.sl 1],[]⟩,
 none,
 none,
 none,
 some ⟨10,160,.arr 10 9 false,[.str [],.str [],.str [],.str [],.str [],.str [],.str [],.str [],.str [],.str []],[.str,.str,.str,.str,.str,.str,.str,.str,.str,.str],[]⟩,
 none,
 none,
 none,
 none,
 none,
 none,
 none,
 none,
 none,
 some ⟨1,24,.slice 22 false,[.nils],[.sl 1],[]⟩,
 none,
 none,
 some ⟨4,4,.arr 4 5 true,[.u8 0,.u8 0,.u8 0,.u8 0],[.u8,.u8,.u8,.u8],[]⟩,
 some ⟨4,40,.struct [(0,17),(1,17),(2,17),(3,9)],[.nilp,.nilp,.nilp,.str []],[.ptr,.ptr,.ptr,.str],[]⟩,
 none,
 some ⟨0,0,.arr 0 16 false,[],[],[]⟩,
 none,
 none,
 some ⟨1,4,.int .u32,[.int .u32 0],[.int .u32],[.int .u32]⟩,
 some ⟨1,1,.u8,[.u8 0],[.u8],[.u8]⟩,
 some ⟨1,1,.u8,[.u8 0],[.u8],[.u8]⟩,
 none,
 some ⟨1,8,.ptr 5,[.nilp],[.ptr],[]⟩,
 some ⟨1,4,.int .i32,[.int .i32 0],[.int .i32],[.int .i32]⟩,
 some ⟨1,4,.int .i32,[.int .i32 0],[.int .i32],[.int .i32]⟩,
 none,
 none,
 none]
def keepT:List (Nat×Nat×List Keep):=[(3,8,[.val 0 22,.val 4 3,.val 7 23,.val 8 5,.val 9 5,.val 10 5,.val 22 4,.val 23 25,.val 24 31,.val 25 3]),
 (5,4,[.val 3 25,.rowL 4 59 4 false,.val 5 3]),
 (5,8,[.val 3 25,.rowL 4 59 4 false,.val 5 3,.val 6 4,.val 7 3]),
 (8,4,[.val 0 5,.val 1 5,.val 2 5,.cells 6 [.str,.sl 9],.ptr 6 6 0,.cellsR 7 [.imm (.str),.own 20701 62 9 false],.ptr 7 7 0,.val 8 31,.val 9 3]),
 (8,3000008,[.val 0 5,.val 1 5,.val 2 5,.cells 6 [.str,.sl 9],.ptr 6 6 0,.cellsR 7 [.imm (.str),.own 20701 62 9 false],.ptr 7 7 0,.val 8 31,.val 9 3,.cells 10 [.str,.str,.int .u64,.int .i64,.int .i64,.int .i64,.int .i64,.int .i64,.int .i64],.ptr 10 10 0]),
 (8,3000010,[.val 0 5,.val 1 5,.val 2 5,.cells 6 [.str,.sl 9],.ptr 6 6 0,.cellsR 7 [.imm (.str),.own 20701 62 9 false],.ptr 7 7 0,.val 8 31,.val 9 3,.cells 10 [.str,.str,.int .u64,.int .i64,.int .i64,.int .i64,.int .i64,.int .i64,.int .i64],.ptr 10 10 0]),
 (9,3,[.cells 4 [.str,.sl 9],.ptr 4 4 0,.cells 11 [.bsl,.int .i64],.ptr 5 11 0,.cells 6 [.str,.sl 9],.ptr 6 6 0]),
 (9,6,[.cells 4 [.str,.sl 9],.ptr 4 4 0,.cells 11 [.bsl,.int .i64],.ptr 5 11 0,.cells 6 [.str,.sl 9],.ptr 6 6 0,.cells 7 [.str,.str,.int .u64,.int .i64,.int .i64,.int .i64,.int .i64,.int .i64,.int .i64],.ptr 7 7 0,.val 8 3]),
 (9,2000003,[.cells 4 [.str,.sl 9],.ptr 4 4 0,.cells 11 [.bsl,.int .i64],.ptr 5 11 0,.cells 6 [.str,.sl 9],.ptr 6 6 0,.val 22 4]),
 (9,2000006,[.cells 4 [.str,.sl 9],.ptr 4 4 0,.cells 11 [.bsl,.int .i64],.ptr 5 11 0,.cells 6 [.str,.sl 9],.ptr 6 6 0,.cells 7 [.str,.str,.int .u64,.int .i64,.int .i64,.int .i64,.int .i64,.int .i64,.int .i64],.ptr 7 7 0,.val 8 3,.val 62 4]),
 (17,3,[.cells 7 [.bsl,.int .i64],.ptr 3 7 0,.rowL 4 59 4 false]),
 (21,3000003,[.cells 0 [.bsl,.int .i64],.ptr 0 0 0,.cells 2 [.str,.str,.int .u64,.int .i64,.int .i64,.int .i64,.int .i64,.int .i64,.int .i64],.ptr 2 2 0,.cells 3 [.str,.str,.str],.ptr 3 3 0]),
 (21,3000006,[.cells 0 [.bsl,.int .i64],.ptr 0 0 0,.cells 2 [.str,.str,.int .u64,.int .i64,.int .i64,.int .i64,.int .i64,.int .i64,.int .i64],.ptr 2 2 0,.cells 4 [.str,.str,.int .u64,.int .i64,.int .i64,.int .i64,.int .i64,.int .i64,.int .i64],.ptr 4 4 0]),
 (21,3000008,[.cells 0 [.bsl,.int .i64],.ptr 0 0 0,.cells 2 [.str,.str,.int .u64,.int .i64,.int .i64,.int .i64,.int .i64,.int .i64,.int .i64],.ptr 2 2 0,.cells 4 [.str,.str,.int .u64,.int .i64,.int .i64,.int .i64,.int .i64,.int .i64,.int .i64],.ptr 4 4 0]),
 (24,3,[.val 0 25,.val 1 9,.val 2 9,.val 8 3,.val 9 4,.val 12 25,.val 13 3,.val 14 3]),
 (27,3,[.val 0 25,.val 1 9,.val 2 9,.val 8 3,.val 9 3]),
 (43,3,[.val 0 3,.val 1 3,.rowL 8 3 1 false,.val 11 38,.val 12 3,.val 13 3]),
 (47,5,[.val 1 38,.val 4 4,.val 5 41,.val 6 3,.val 7 4,.val 9 3]),
 (51,8,[.cells 1 [.bool,.str,.str,.str,.int .i64,.int .i64,.str],.ptr 1 1 0,.val 2 22,.val 3 41,.val 4 3]),
 (56,2,[.val 0 9,.val 1 9,.val 4 4,.val 5 3]),
 (56,7,[.val 0 9,.val 1 9,.val 4 4,.val 5 3,.val 6 3]),
 (58,3,[.val 1 3,.val 2 3,.val 3 4,.rowB 9 5 false,.val 10 3]),
 (60,4,[.val 0 22,.val 1 3,.cells 4 [.str,.str,.str],.ptr 4 4 0,.val 5 3,.val 6 41,.cells 7 [.str,.str,.str],.ptr 7 7 0,.psl 14 7 [0,1,2],.val 15 3,.val 16 3]),
 (80,4,[.val 0 22,.val 1 3,.val 4 9,.val 5 3,.val 6 41,.val 7 3]),
 (81,2,[.val 0 9,.val 1 9,.val 4 4,.val 7 3,.val 8 3]),
 (82,3,[.val 1 9,.val 2 9,.val 6 3,.val 7 41,.val 8 3,.val 9 4,.val 13 32,.val 14 3,.val 15 3]),
 (84,3,[.val 1 9,.val 2 9,.cells 3 [.str,.sl 9],.ptr 3 3 0,.val 8 3,.val 9 3,.val 10 3]),
 (87,2,[.val 0 3,.val 4 4,.val 7 38,.val 8 3,.val 9 3]),
 (89,6,[.val 0 22,.val 1 3,.val 2 3,.val 3 4,.val 12 3,.val 22 3,.val 23 3]),
 (100,2,[.val 0 3,.val 7 38,.val 8 3,.val 9 3]),
 (106,3,[.val 0 150,.val 3 3,.val 9 150,.val 10 3,.val 11 3]),
 (106,11,[.rowB 6 5 false,.val 25 150,.val 26 3,.val 27 3]),
 (107,3,[.val 0 40,.rowB 3 5 false,.val 7 3,.val 8 3]),
 (112,6,[.val 2 3,.val 3 4,.val 11 22,.val 12 3,.val 14 3,.val 15 3]),
 (116,3,[.val 0 22,.val 1 3,.val 2 3,.val 3 4,.barr 9 false,.ptr 9 9 0,.val 12 3,.val 13 3])]
def ownT:List Nat:=[58,66,119,35,36,106,116,96,97,111]
def rtsT:List (Nat×List Nat):=[(15,[40]),(19,[40]),(20,[4]),(22,[4]),(24,[3,4]),(27,[3,4]),(32,[4]),(34,[22]),(37,[22]),(52,[3]),(53,[79]),(56,[4]),(58,[22]),(65,[4]),(66,[22]),(67,[9]),(73,[28]),(77,[3,4,41]),(79,[]),(80,[9,3,41]),(82,[3,41]),(84,[3,41]),(87,[4]),(90,[41]),(93,[4]),(100,[3]),(101,[4]),(103,[4]),(104,[4]),(107,[22]),(109,[4]),(110,[4]),(113,[40]),(114,[4]),(115,[3]),(119,[22]),(120,[22,3,41]),(121,[3]),(122,[4]),(18,[9]),(26,[4]),(30,[4]),(31,[4]),(33,[22]),(35,[22]),(36,[22]),(47,[4,41]),(50,[9]),(70,[3,3,4]),(74,[3]),(85,[4]),(86,[3,4,41]),(89,[3,3,41]),(91,[3]),(94,[22]),(102,[3,4]),(106,[22]),(112,[3,3,41]),(117,[3]),(6,[28]),(7,[28]),(13,[28]),(17,[25]),(29,[4]),(44,[3]),(48,[28]),(57,[3,41]),(59,[4,41]),(61,[3,3,41]),(62,[3,3,41]),(63,[9,3,41]),(69,[3,4]),(78,[3,3,41]),(83,[4]),(98,[22]),(99,[3]),(108,[22]),(116,[22]),(5,[25]),(8,[34]),(12,[22,41]),(21,[62]),(28,[3,41]),(43,[3,4]),(49,[3]),(51,[22,41]),(55,[3,41]),(75,[22,41]),(81,[4]),(95,[22]),(96,[22]),(97,[22]),(111,[22]),(9,[34]),(11,[40,3,3,3,41]),(16,[55,41]),(25,[3,41]),(42,[3,41]),(54,[4]),(92,[4]),(23,[4]),(10,[40,3,3,3,41]),(88,[4]),(60,[28,3,41]),(64,[22,41]),(68,[22,41]),(72,[22,41]),(76,[22,41]),(118,[41]),(38,[48,41]),(41,[22]),(46,[22,41]),(105,[22,41]),(39,[22]),(71,[22,41]),(45,[50,87,41]),(14,[22,50,4]),(4,[4]),(3,[4])]
def sp15:Abs.Spec:=fun xs bl=>match xs,bl with
 | [.int .i64 n],[]=>chk (decide (0≤n)&&decide (n≤1000)) (some (.int .u64 (Kerb.session n),[]))
 | _,_=>none
def sp19:Abs.Spec:=fun xs bl=>match xs,bl with
 | [.int .i64 n],[]=>chk (decide (0≤n)&&decide (n≤1000)) (some (.int .u64 (Kerb.long n),[]))
 | _,_=>none
def sp20:Abs.Spec:=fun xs bl=>match xs,bl with
 | [.ptr 0 0],[(0,[.bs l,.int .i64 pos])]=>some (.bool (decide (pos<(l.length:Int))),[[.bs l,.int .i64 pos]])
 | _,_=>none
def sp22:Abs.Spec:=fun xs bl=>match xs,bl with
 | [.agg [.str x,.str y,.str z]],[]=>some (.bool (x==Kerb.krbtgt),[])
 | _,_=>none
def sp24:Abs.Spec:=fun xs bl=>match xs,bl with
 | [.sl 4 xls,.str a,.str b],[]=>chk (xls.all Kerb.isCross&&decide (xls.length≤1000000)) (some (.tup [.int .i64 (Kerb.findCross (xls.map Zy) a b).1,.bool (Kerb.findCross (xls.map Zy) a b).2],[]))
 | _,_=>none
def sp27:Abs.Spec:=fun xs bl=>match xs,bl with
 | [.sl 4 xls,.str a,.str b],[]=>chk (xls.all Kerb.isCross&&decide (xls.length≤1000000)) (some (.tup [.int .i64 (Kerb.findCross (xls.map Zy) a b).1,.bool (Kerb.findCross (xls.map Zy) a b).2],[]))
 | _,_=>none
def sp32:Abs.Spec:=fun xs bl=>match xs,bl with
 | [.int .i64 n,.int .i64 m],[]=>some (.bool (Kerb.within n m),[])
 | _,_=>none
def sp34:Abs.Spec:=fun xs bl=>match xs,bl with
 | [.int .i64 k,.bool little],[]=>some (.bs (Kerb.header k little),[])
 | _,_=>none
def sp37:Abs.Spec:=fun xs bl=>match xs,bl with
 | [.bs b,.str s],[]=>chk (decide (b.length+s.length≤70368744177664)) (some (.bs (Kerb.putText b s),[]))
 | _,_=>none
def sp52:Abs.Spec:=fun xs bl=>match xs,bl with
 | [.ptr 0 0,.int .i64 n],[(0,[.bs l,.int .i64 pos])]=>chk (decide (l.length≤4611686018427387904)&&decide (0≤pos)) (some (.int .i64 (Kerb.next l pos n),[[.bs l,.int .i64 (Kerb.nextPos l pos n)]]))
 | _,_=>none
def sp53:Abs.Spec:=fun xs bl=>match xs,bl with
 | [],[]=>some (.sl 1 [.str [65,84,72],.str [66,79,83],.str [67,65,77]],[])
 | _,_=>none
def sp56:Abs.Spec:=fun xs bl=>match xs,bl with
 | [.str s,.str bad],[]=>chk (decide (s.length≤9223372036854775807)&&decide (bad.length≤100)) (some (.bool (Kerb.printable s bad&&decide (s.length≤39)),[]))
 | _,_=>none
def sp58:Abs.Spec:=fun xs bl=>match xs,bl with
 | [.bs b,.int .i64 n,.int .i64 k,.bool little],[]=>chk (decide (k=1∨k=2∨k=4)&&decide (b.length≤70368744177664)) (some (.ownB (b++Kerb.putN n k.toNat little),[]))
 | _,_=>none
def sp65:Abs.Spec:=fun xs bl=>match xs,bl with
 | [.bs a,.bs b],[]=>some (.bool (a==b),[])
 | _,_=>none
def sp66:Abs.Spec:=fun xs bl=>match xs,bl with
 | [.bs b],[]=>chk (decide (b.length≤140737488355328)) (some (.ownB b,[]))
 | _,_=>none
def sp67:Abs.Spec:=fun xs bl=>match xs,bl with
 | [.int .i64 code],[]=>some (.str (Kerb.message code),[])
 | _,_=>none
def sp73:Abs.Spec:=fun xs bl=>match xs,bl with
 | [.str r,.str t],[]=>some (.agg [.str [107,114,98,116,103,116],.str t,.str r],[])
 | _,_=>none
def sp77:Abs.Spec:=fun xs bl=>match xs,bl with
 | [.bs b],[]=>some (.tup [.int .i64 (Zf b).kind,.bool (Zf b).little,.int .i64 (Zf b).err],[])
 | _,_=>none
def sp79:Abs.Spec:=fun xs bl=>match xs,bl with
 | [.ptr 0 0,.int .i64 nx,.int .i64 e],[(0,[.bs B,.int .i64 at_,.bool li,.bool bad])]=>some (.tup [],[[.bs B,.int .i64 (cond (bad || !(e==0)) at_ nx),.bool li,.bool (bad || !(e==0))]])
 | _,_=>none
def sp80:Abs.Spec:=fun xs bl=>match xs,bl with
 | [.bs b,.int .i64 pos],[]=>chk (decide (b.length≤140737488355328)) (some (.tup [.str (Zd b pos).val,.int .i64 (Zd b pos).next,.int .i64 (Zd b pos).err],[]))
 | _,_=>none
def sp82:Abs.Spec:=fun xs bl=>match xs,bl with
 | [.agg [.str rl,.sl 9 els],.str n,.str i],[]=>chk (els.all Zk&&decide (els.length≤1000000)) (some (.tup [.int .i64 (Kerb.findEnt (els.map Zz) n i).1,.int .i64 (Kerb.findEnt (els.map Zz) n i).2],[]))
 | _,_=>none
def sp84:Abs.Spec:=fun xs bl=>match xs,bl with
 | [.agg [.str rl,.sl 9 els],.str n,.str i],[]=>chk (els.all Zk&&decide (els.length≤1000000)) (some (.tup [.int .i64 (Kerb.findEnt (els.map Zz) n i).1,.int .i64 (Kerb.findEnt (els.map Zz) n i).2],[]))
 | _,_=>none
def sp87:Abs.Spec:=fun xs bl=>match xs,bl with
 | [.int .i64 k,.sl 1 els],[]=>chk (allInts els&&decide (els.length≤1000)) (some (.bool ((intsIn els).contains k),[]))
 | _,_=>none
def sp90:Abs.Spec:=fun xs bl=>match xs,bl with
 | [.bs b,.int .i64 pos,.int .i64 n],[]=>chk (decide (b.length≤4611686018427387904)) (some (.int .i64 (Kerb.room b pos n),[]))
 | _,_=>none
def sp93:Abs.Spec:=fun xs bl=>match xs,bl with
 | [.int .i64 n,.int .i64 m],[]=>some (.bool (Kerb.within n m),[])
 | _,_=>none
def sp100:Abs.Spec:=fun xs bl=>match xs,bl with
 | [.int .i64 n,.sl 1 els],[]=>chk (allInts els&&decide (els.length≤1000000)) (some (.int .i64 (Kerb.least n (intsIn els)),[]))
 | _,_=>none
def sp101:Abs.Spec:=fun xs bl=>match xs,bl with
 | [.int .i64 n],[]=>some (.bool (Kerb.within n 4294967295),[])
 | _,_=>none
def sp103:Abs.Spec:=fun xs bl=>match xs,bl with
 | [.int .i64 k],[]=>some (.bool (Kerb.isClass k),[])
 | _,_=>none
def sp104:Abs.Spec:=fun xs bl=>match xs,bl with
 | [.int .i64 k],[]=>some (.bool (Kerb.isSerial k),[])
 | _,_=>none
def sp107:Abs.Spec:=fun xs bl=>match xs,bl with
 | [.int .u64 k],[]=>chk (decide (0≤k)&&decide (k<18446744073709551616)) (some (.bs (Kerb.keyBytes k),[]))
 | _,_=>none
def sp109:Abs.Spec:=fun xs bl=>match xs,bl with
 | [.int .i64 n],[]=>some (.bool (Kerb.within n 255),[])
 | _,_=>none
def sp110:Abs.Spec:=fun xs bl=>match xs,bl with
 | [.int .i64 k],[]=>some (.bool (Kerb.isKind k),[])
 | _,_=>none
def sp113:Abs.Spec:=fun xs bl=>match xs,bl with
 | [.int .i64 c,.int .i64 n],[]=>some (.int .u64 (cond (Kerb.isClass c&&Kerb.isSerial n) (c*72057594037927936+n) 0),[])
 | _,_=>none
def sp114:Abs.Spec:=fun xs bl=>match xs,bl with
 | [.int .i64 k],[]=>some (.bool (Kerb.isKind k),[])
 | _,_=>none
def sp115:Abs.Spec:=fun xs bl=>match xs,bl with
 | [.bs s,.u8 c],[]=>some (.int .i64 (Kerb.indexOf c s),[])
 | _,_=>none
def sp119:Abs.Spec:=fun xs bl=>match xs,bl with
 | [.nils,.int .i64 n],[]=>chk (decide (0≤n)&&decide (n≤140737488355328)) (some (.ownB [],[]))
 | _,_=>none
def sp120:Abs.Spec:=fun xs bl=>match xs,bl with
 | [.bs b,.int .i64 pos,.int .i64 n],[]=>chk (decide (b.length≤140737488355328)) (some (.tup [.bs (Kerb.bytes b pos n).val,.int .i64 (Kerb.bytes b pos n).next,.int .i64 (Kerb.bytes b pos n).err],[]))
 | _,_=>none
def sp121:Abs.Spec:=fun xs bl=>match xs,bl with
 | [.str s,.u8 c],[]=>some (.int .i64 (Kerb.indexOf c s),[])
 | _,_=>none
def sp122:Abs.Spec:=fun xs bl=>match xs,bl with
 | [.int .i64 n,.int .i64 m],[]=>some (.bool (Kerb.within n m),[])
 | _,_=>none
def sp18:Abs.Spec:=fun xs bl=>match xs,bl with
 | [.int .i64 n],[]=>chk (decide (0≤n)) (some (.str (Kerb.realm n),[]))
 | _,_=>none
def sp26:Abs.Spec:=fun xs bl=>match xs,bl with
 | [.str s],[]=>chk (decide (s.length≤9223372036854775807)) (some (.bool (Kerb.validRealm s),[]))
 | _,_=>none
def sp30:Abs.Spec:=fun xs bl=>match xs,bl with
 | [.str s],[]=>chk (decide (s.length≤9223372036854775807)) (some (.bool (Kerb.validName s),[]))
 | _,_=>none
def sp31:Abs.Spec:=fun xs bl=>match xs,bl with
 | [.str s],[]=>chk (decide (s.length≤9223372036854775807)) (some (.bool (Kerb.validInst s),[]))
 | _,_=>none
def sp33:Abs.Spec:=fun xs bl=>match xs,bl with
 | [.bs b,.agg [.str x,.str y,.str z]],[]=>chk (decide (b.length+x.length+y.length+z.length≤70368744170000)) (some (.bs (Kerb.putPrin b ⟨x,y,z⟩),[]))
 | _,_=>none
def sp35:Abs.Spec:=fun xs bl=>match xs,bl with
 | [.bs b,.int .i64 n],[]=>chk (decide (b.length≤70368744177664)) (some (.ownB (b++Kerb.putN n 1 false),[]))
 | _,_=>none
def sp36:Abs.Spec:=fun xs bl=>match xs,bl with
 | [.bs b,.int .i64 n,.bool little],[]=>chk (decide (b.length≤70368744177664)) (some (.ownB (b++Kerb.putN n 4 little),[]))
 | _,_=>none
def sp47:Abs.Spec:=fun xs bl=>match xs,bl with
 | [.bs b,.sl 1 els],[]=>chk (allInts els&&decide (els.length≤1000)) (some (.tup [.bool (Kerb.headIs b (intsIn els)).1,.int .i64 (Kerb.headIs b (intsIn els)).2],[]))
 | _,_=>none
def sp50:Abs.Spec:=fun xs bl=>match xs,bl with
 | [.ptr 0 0],[(0,[.bs B,.int .i64 at_,.bool li,.bool bad])]=>chk (decide (B.length≤140737488355328)) (some (.str (Zd B at_).val,[[.bs B,.int .i64 (cond (bad || !((Zd B at_).err==0)) at_ (Zd B at_).next),.bool li,.bool (bad || !((Zd B at_).err==0))]]))
 | _,_=>none
def sp70:Abs.Spec:=fun xs bl=>match xs,bl with
 | [.int .u64 k],[]=>chk (decide (0≤k)&&decide (k<18446744073709551616)) (some (.tup [.int .i64 (cond (Zm k) (Kerb.keyClass k) 0),.int .i64 (cond (Zm k) (Kerb.keySerial k) 0),.bool (Zm k)],[]))
 | _,_=>none
def sp74:Abs.Spec:=fun xs bl=>match xs,bl with
 | [.int .i64 i,.int .i64 l],[]=>some (.int .i64 (Kerb.tEnd i l),[])
 | _,_=>none
def sp85:Abs.Spec:=fun xs bl=>match xs,bl with
 | [.int .u64 k],[]=>chk (decide (0≤k)&&decide (k<18446744073709551616)) (some (.bool (Zm k),[]))
 | _,_=>none
def sp86:Abs.Spec:=fun xs bl=>match xs,bl with
 | [.bs b],[]=>some (.tup [.int .i64 (Zf b).kind,.bool (Zf b).little,.int .i64 (Zf b).err],[])
 | _,_=>none
def sp89:Abs.Spec:=fun xs bl=>match xs,bl with
 | [.bs b,.int .i64 pos,.int .i64 k,.bool little],[]=>chk (decide (b.length≤4611686018427387904)&&decide (0≤k)&&decide (k≤4)) (some (.tup [.int .i64 (Zq b pos k little).val,.int .i64 (Zq b pos k little).next,.int .i64 (Zq b pos k little).err],[]))
 | _,_=>none
def sp91:Abs.Spec:=fun xs bl=>match xs,bl with
 | [.bs s,.u8 c],[]=>some (.int .i64 (Kerb.indexOf c s),[])
 | _,_=>none
def sp94:Abs.Spec:=fun xs bl=>match xs,bl with
 | [.int .i64 k,.bool little],[]=>some (.bs (Kerb.header k little),[])
 | _,_=>none
def sp102:Abs.Spec:=fun xs bl=>match xs,bl with
 | [.int .i64 n],[]=>chk (decide (-9223372036854775808≤n)&&decide (n≤9223372036854775807)) (some (.tup [.int .i64 (cond (decide (n<300)) 0 (Kerb.fromSec n)),.bool (!decide (n<300))],[]))
 | _,_=>none
def sp106:Abs.Spec:=fun xs bl=>match xs,bl with
 | [.sl 1 els],[]=>chk (allB els&&decide ((catB els).length≤140737488355328)&&decide (els.length≤1000)) (some (.ownB (catB els),[]))
 | _,_=>none
def sp112:Abs.Spec:=fun xs bl=>match xs,bl with
 | [.bs b,.int .i64 pos,.int .i64 k,.bool little],[]=>chk (decide (b.length≤140737488355328)&&decide (0≤k)&&decide (k≤4)) (some (.tup [.int .i64 (Zq b pos k little).val,.int .i64 (Zq b pos k little).next,.int .i64 (Zq b pos k little).err],[]))
 | _,_=>none
def sp117:Abs.Spec:=fun xs bl=>match xs,bl with
 | [.str s,.u8 c],[]=>some (.int .i64 (Kerb.indexOf c s),[])
 | _,_=>none
def sp6:Abs.Spec:=fun xs bl=>match xs,bl with
 | [.int .i64 n],[]=>chk (decide (0≤n)&&decide (n≤4611686018427387904)) (some (.agg [.str (Kerb.service n).name,.str (Kerb.service n).inst,.str (Kerb.service n).realm],[]))
 | _,_=>none
def sp7:Abs.Spec:=fun xs bl=>match xs,bl with
 | [.int .i64 n,.int .i64 m],[]=>chk (decide (0≤n)&&decide (0≤m)) (some (.agg [.str Kerb.krbtgt,.str (Kerb.realm m),.str (Kerb.realm n)],[]))
 | _,_=>none
def sp13:Abs.Spec:=fun xs bl=>match xs,bl with
 | [.int .i64 n],[]=>chk (decide (0≤n)&&decide (n≤4611686018427387904)) (some (.agg [.str (Kerb.user n).name,.str (Kerb.user n).inst,.str (Kerb.user n).realm],[]))
 | _,_=>none
def sp17:Abs.Spec:=fun xs bl=>match xs,bl with
 | [.bs l],[]=>chk (decide (l.length≤100000)) (some (.sl 4 ((Kerb.dataCross l).map Kerb.Cross.av),[]))
 | _,_=>none
def sp29:Abs.Spec:=fun xs bl=>match xs,bl with
 | [.agg [.str a,.str b,.str c]],[]=>chk (decide (a.length≤9223372036854775807)&&decide (b.length≤9223372036854775807)&&decide (c.length≤9223372036854775807)) (some (.bool (Kerb.Prin.valid ⟨a,b,c⟩),[]))
 | _,_=>none
def sp44:Abs.Spec:=fun xs bl=>match xs,bl with
 | [.int .u64 k],[]=>chk (decide (0≤k)&&decide (k<18446744073709551616)) (some (.int .i64 (Kerb.classOf k),[]))
 | _,_=>none
def sp48:Abs.Spec:=fun xs bl=>match xs,bl with
 | [.ptr 0 0],[(0,[.bs B,.int .i64 at_,.bool li,.bool bad])]=>chk (decide (B.length≤140737488355328)) (some (.agg [.str (Kerb.rdPrin B at_ bad).p.name,.str (Kerb.rdPrin B at_ bad).p.inst,.str (Kerb.rdPrin B at_ bad).p.realm],[[.bs B,.int .i64 (Kerb.rdPrin B at_ bad).pos,.bool li,.bool (Kerb.rdPrin B at_ bad).bad]]))
 | _,_=>none
def sp57:Abs.Spec:=fun xs bl=>match xs,bl with
 | [.agg [.str rl,.sl 9 els],.str n,.str i,.int .i64 now,.int .i64 bit,.int .i64 xp,.int .i64 br],[]=>chk (els.all Zk&&decide (els.length≤1000000)) (some (.tup [.int .i64 (Kerb.useEnt (Zx rl (els.map Zz)) n i now bit xp br).1,.int .i64 (Kerb.useEnt (Zx rl (els.map Zz)) n i now bit xp br).2],[]))
 | _,_=>none
def sp59:Abs.Spec:=fun xs bl=>match xs,bl with
 | [.bs b,.sl 1 els],[]=>chk (allInts els&&decide (els.length≤1000)) (some (.tup [.bool (Kerb.headIs b (intsIn els)).1,.int .i64 (Kerb.headIs b (intsIn els)).2],[]))
 | _,_=>none
def sp61:Abs.Spec:=fun xs bl=>match xs,bl with
 | [.bs b,.int .i64 pos,.bool little],[]=>chk (decide (b.length≤4611686018427387904)) (some (.tup [.int .i64 (Zq b pos 4 little).val,.int .i64 (Zq b pos 4 little).next,.int .i64 (Zq b pos 4 little).err],[]))
 | _,_=>none
def sp62:Abs.Spec:=fun xs bl=>match xs,bl with
 | [.bs b,.int .i64 pos],[]=>chk (decide (b.length≤4611686018427387904)) (some (.tup [.int .i64 (Zq b pos 1 false).val,.int .i64 (Zq b pos 1 false).next,.int .i64 (Zq b pos 1 false).err],[]))
 | _,_=>none
def sp63:Abs.Spec:=fun xs bl=>match xs,bl with
 | [.bs b,.int .i64 pos],[]=>chk (decide (b.length≤4611686018427387904)) (some (.tup [.str (Zd b pos).val,.int .i64 (Zd b pos).next,.int .i64 (Zd b pos).err],[]))
 | _,_=>none
def sp69:Abs.Spec:=fun xs bl=>match xs,bl with
 | [.int .i64 n,.int .i64 w,.sl 1 els],[]=>chk (allInts els&&decide (els.length≤1000000)&&(intsIn els).all Kerb.isI64) (some (.tup [.int .i64 (Kerb.grantLife n w (intsIn els)).1,.bool (Kerb.grantLife n w (intsIn els)).2],[]))
 | _,_=>none
def sp78:Abs.Spec:=fun xs bl=>match xs,bl with
 | [.bs b,.int .i64 pos,.bool little],[]=>chk (decide (b.length≤140737488355328)) (some (.tup [.int .i64 (Zq b pos 4 little).val,.int .i64 (Zq b pos 4 little).next,.int .i64 (Zq b pos 4 little).err],[]))
 | _,_=>none
def sp83:Abs.Spec:=fun xs bl=>match xs,bl with
 | [.int .u64 k],[]=>chk (decide (0≤k)&&decide (k<18446744073709551616)) (some (.bool (Zm k),[]))
 | _,_=>none
def sp98:Abs.Spec:=fun xs bl=>match xs,bl with
 | [.bs b,.str s],[]=>chk (decide (b.length+s.length≤70368744177664)) (some (.bs (Kerb.putText b s),[]))
 | _,_=>none
def sp99:Abs.Spec:=fun xs bl=>match xs,bl with
 | [.str s,.u8 c],[]=>some (.int .i64 (Kerb.indexOf c s),[])
 | _,_=>none
def sp108:Abs.Spec:=fun xs bl=>match xs,bl with
 | [.bs b],[]=>chk (decide (b.length≤70368744177664)) (some (.bs (Kerb.pad b),[]))
 | _,_=>none
def sp116:Abs.Spec:=fun xs bl=>match xs,bl with
 | [.bs b,.int .i64 n,.int .i64 k,.bool little],[]=>chk (decide (k=1∨k=2∨k=4)&&decide (b.length≤70368744177664)) (some (.ownB (b++Kerb.putN n k.toNat little),[]))
 | _,_=>none
def sp5:Abs.Spec:=fun xs bl=>match xs,bl with
 | [.bs l],[]=>chk (decide (l.length≤100000)) (some (.sl 4 ((Kerb.goodCross l).map Kerb.Cross.av),[]))
 | _,_=>none
def sp8:Abs.Spec:=fun xs bl=>match xs,bl with
 | [.u8 lf,.u8 xp,.u8 bd],[]=>some (.agg [.str (Kerb.simpleDb lf xp bd).realm,.sl 9 ((Kerb.simpleDb lf xp bd).entries.map Kerb.Entry.av)],[])
 | _,_=>none
def sp12:Abs.Spec:=fun xs bl=>match xs,bl with
 | [.agg [.bool li,.str x,.str y,.str z,.int .i64 t,.int .i64 lf,.str sv,.str ins]],[]=>chk (decide (x.length≤9223372036854775807)&&decide (y.length≤9223372036854775807)&&decide (z.length≤9223372036854775807)&&decide (sv.length≤9223372036854775807)&&decide (ins.length≤9223372036854775807)) (some (.tup [.bs (Zn ⟨li,⟨x,y,z⟩,t,lf,sv,ins⟩).val,.int .i64 (Zn ⟨li,⟨x,y,z⟩,t,lf,sv,ins⟩).err],[]))
 | _,_=>none
def sp21:Abs.Spec:=fun xs bl=>match xs,bl with
 | [.ptr 0 0],[(0,[.bs l,.int .i64 pos])]=>chk (decide (l.length≤100000)&&decide (0≤pos)) (some (.agg [.str (Zp l pos).name,.str (Zp l pos).inst,.int .u64 (Zp l pos).key,.int .i64 (Zp l pos).kvno,.int .i64 (Zp l pos).expires,.int .i64 (Zp l pos).maxLife,.int .i64 (Zp l pos).attr,.int .i64 (Zp l pos).fails,.int .i64 (Zp l pos).till],[[.bs l,.int .i64 (Kerb.dataEntPos l pos)]]))
 | _,_=>none
def sp28:Abs.Spec:=fun xs bl=>match xs,bl with
 | [.agg [.str rl,.sl 9 els],.str n,.str i,.int .i64 now],[]=>chk (els.all Zk&&decide (els.length≤1000000)) (some (.tup [.int .i64 (Kerb.serviceEnt (Zx rl (els.map Zz)) n i now).1,.int .i64 (Kerb.serviceEnt (Zx rl (els.map Zz)) n i now).2],[]))
 | _,_=>none
def sp43:Abs.Spec:=fun xs bl=>match xs,bl with
 | [.int .i64 now,.int .i64 w,.sl 1 els],[]=>chk (allInts els&&decide (els.length≤1000000)&&(intsIn els).all Kerb.isI64) (some (.tup [.int .i64 (Kerb.grantLife now w ((intsIn els).filter fun n => !(n==0))).1,.bool (Kerb.grantLife now w ((intsIn els).filter fun n => !(n==0))).2],[]))
 | _,_=>none
def sp49:Abs.Spec:=fun xs bl=>match xs,bl with
 | [.ptr 0 0],[(0,[.bs B,.int .i64 at_,.bool li,.bool bad])]=>chk (decide (B.length≤140737488355328)) (some (.int .i64 (Zq B at_ 4 li).val,[[.bs B,.int .i64 (cond (bad || !((Zq B at_ 4 li).err==0)) at_ (Zq B at_ 4 li).next),.bool li,.bool (bad || !((Zq B at_ 4 li).err==0))]]))
 | _,_=>none
def sp51:Abs.Spec:=fun xs bl=>match xs,bl with
 | [.agg [.bool li,.str x,.str y,.str z,.int .i64 t,.int .i64 cd,.str tx]],[]=>chk (decide (x.length≤9223372036854775807)&&decide (y.length≤9223372036854775807)&&decide (z.length≤9223372036854775807)&&decide (tx.length≤9223372036854775807)) (some (.tup [.bs (Kerb.encodeError ⟨li,⟨x,y,z⟩,t,cd,tx⟩).val,.int .i64 (Kerb.encodeError ⟨li,⟨x,y,z⟩,t,cd,tx⟩).err],[]))
 | _,_=>none
def sp55:Abs.Spec:=fun xs bl=>match xs,bl with
 | [.agg [.str rl,.sl 9 els],.str n,.str i,.int .i64 now,.int .i64 bit,.int .i64 xp,.int .i64 br],[]=>chk (els.all Zk&&decide (els.length≤1000000)) (some (.tup [.int .i64 (Kerb.useEnt (Zx rl (els.map Zz)) n i now bit xp br).1,.int .i64 (Kerb.useEnt (Zx rl (els.map Zz)) n i now bit xp br).2],[]))
 | _,_=>none
def sp75:Abs.Spec:=fun xs bl=>match xs,bl with
 | [.int .i64 kd,.int .u64 k,.bs bd],[]=>chk (decide (0≤k)&&decide (k<18446744073709551616)) (some (.tup [.bs (Kerb.makeBox kd k bd).val,.int .i64 (Kerb.makeBox kd k bd).err],[]))
 | _,_=>none
def sp81:Abs.Spec:=fun xs bl=>match xs,bl with
 | [.str s,.str bad],[]=>chk (decide (s.length≤9223372036854775807)) (some (.bool (Kerb.printable s bad),[]))
 | _,_=>none
def sp95:Abs.Spec:=fun xs bl=>match xs,bl with
 | [.bs b,.agg [.str x,.str y,.str z]],[]=>chk (decide (b.length+x.length+y.length+z.length≤70368744170000)) (some (.bs (Kerb.putPrin b ⟨x,y,z⟩),[]))
 | _,_=>none
def sp96:Abs.Spec:=fun xs bl=>match xs,bl with
 | [.bs b,.int .i64 n,.bool little],[]=>chk (decide (b.length≤70368744177664)) (some (.ownB (b++Kerb.putN n 4 little),[]))
 | _,_=>none
def sp97:Abs.Spec:=fun xs bl=>match xs,bl with
 | [.bs b,.int .i64 n],[]=>chk (decide (b.length≤70368744177664)) (some (.ownB (b++Kerb.putN n 1 false),[]))
 | _,_=>none
def sp111:Abs.Spec:=fun xs bl=>match xs,bl with
 | [.bs b,.int .i64 n,.bool little],[]=>chk (decide (b.length≤70368744177664)) (some (.ownB (b++Kerb.putN n 2 little),[]))
 | _,_=>none
def sp9:Abs.Spec:=fun xs bl=>match xs,bl with
 | [.bs l,.int .i64 n],[]=>chk (decide (l.length≤100000)&&decide (0≤n)) (some (.agg [.str (Kerb.dataDb l n).realm,.sl 9 ((Kerb.dataDb l n).entries.map Kerb.Entry.av)],[]))
 | _,_=>none
def sp11:Abs.Spec:=fun xs bl=>match xs,bl with
 | [.agg [.str rl,.sl 9 els],.sl 4 xls,.str n,.str i,.int .i64 now],[]=>chk (els.all Zk&&decide (els.length≤1000000)&&xls.all Kerb.isCross&&decide (xls.length≤1000000)&&decide (i.length≤9223372036854775807)) (some (.tup [.int .u64 (Zb (Zx rl (els.map Zz)) (xls.map Zy) n i now).key,.int .i64 (Zb (Zx rl (els.map Zz)) (xls.map Zy) n i now).kvno,.int .i64 (Zb (Zx rl (els.map Zz)) (xls.map Zy) n i now).life,.int .i64 (Zb (Zx rl (els.map Zz)) (xls.map Zy) n i now).expires,.int .i64 (Zb (Zx rl (els.map Zz)) (xls.map Zy) n i now).err],[]))
 | _,_=>none
def sp16:Abs.Spec:=fun xs bl=>match xs,bl with
 | [.bs b],[]=>chk (decide (b.length≤140737488355328)) (some (.tup [.agg [.bool ((Zj b).val).little,.str ((Zj b).val).client.name,.str ((Zj b).val).client.inst,.str ((Zj b).val).client.realm,.int .i64 ((Zj b).val).time,.int .i64 ((Zj b).val).code,.str ((Zj b).val).text],.int .i64 (Zj b).err],[]))
 | _,_=>none
def sp25:Abs.Spec:=fun xs bl=>match xs,bl with
 | [.agg [.str rl,.sl 9 els],.str n,.str i,.int .i64 now],[]=>chk (els.all Zk&&decide (els.length≤1000000)) (some (.tup [.int .i64 (Kerb.serviceEnt (Zx rl (els.map Zz)) n i now).1,.int .i64 (Kerb.serviceEnt (Zx rl (els.map Zz)) n i now).2],[]))
 | _,_=>none
def sp42:Abs.Spec:=fun xs bl=>match xs,bl with
 | [.agg [.str rl,.sl 9 els],.str n,.str i,.int .i64 now],[]=>chk (els.all Zk&&decide (els.length≤1000000)) (some (.tup [.int .i64 (Kerb.clientEnt (Zx rl (els.map Zz)) n i now).1,.int .i64 (Kerb.clientEnt (Zx rl (els.map Zz)) n i now).2],[]))
 | _,_=>none
def sp54:Abs.Spec:=fun xs bl=>match xs,bl with
 | [.str s],[]=>chk (decide (s.length≤9223372036854775807)) (some (.bool (Kerb.validInst s),[]))
 | _,_=>none
def sp92:Abs.Spec:=fun xs bl=>match xs,bl with
 | [.str s],[]=>chk (decide (s.length≤9223372036854775807)) (some (.bool (Kerb.validName s),[]))
 | _,_=>none
def sp23:Abs.Spec:=fun xs bl=>match xs,bl with
 | [.str s],[]=>chk (decide (s.length≤9223372036854775807)) (some (.bool (Kerb.validRealm s),[]))
 | _,_=>none
def sp10:Abs.Spec:=fun xs bl=>match xs,bl with
 | [.agg [.str rl,.sl 9 els],.sl 4 xls,.str n,.str i,.int .i64 now],[]=>chk (els.all Zk&&decide (els.length≤1000000)&&xls.all Kerb.isCross&&decide (xls.length≤1000000)&&decide (i.length≤9223372036854775807)) (some (.tup [.int .u64 (Zb (Zx rl (els.map Zz)) (xls.map Zy) n i now).key,.int .i64 (Zb (Zx rl (els.map Zz)) (xls.map Zy) n i now).kvno,.int .i64 (Zb (Zx rl (els.map Zz)) (xls.map Zy) n i now).life,.int .i64 (Zb (Zx rl (els.map Zz)) (xls.map Zy) n i now).expires,.int .i64 (Zb (Zx rl (els.map Zz)) (xls.map Zy) n i now).err],[]))
 | _,_=>none
def sp88:Abs.Spec:=fun xs bl=>match xs,bl with
 | [.agg [.str a,.str b,.str c]],[]=>chk (decide (a.length≤9223372036854775807)&&decide (b.length≤9223372036854775807)&&decide (c.length≤9223372036854775807)) (some (.bool (Kerb.Prin.valid ⟨a,b,c⟩),[]))
 | _,_=>none
def sp60:Abs.Spec:=fun xs bl=>match xs,bl with
 | [.bs b,.int .i64 pos],[]=>chk (decide (b.length≤4611686018427387904)) (some (.tup [.agg [.str (Kerb.prin b pos).val.name,.str (Kerb.prin b pos).val.inst,.str (Kerb.prin b pos).val.realm],.int .i64 (Kerb.prin b pos).next,.int .i64 (Kerb.prin b pos).err],[]))
 | _,_=>none
def sp64:Abs.Spec:=fun xs bl=>match xs,bl with
 | [.agg [.bool li,.str x,.str y,.str z,.int .i64 t,.int .i64 lf,.str sv,.str ins]],[]=>chk (decide (x.length≤9223372036854775807)&&decide (y.length≤9223372036854775807)&&decide (z.length≤9223372036854775807)&&decide (sv.length≤9223372036854775807)&&decide (ins.length≤9223372036854775807)) (some (.tup [.bs (Zn ⟨li,⟨x,y,z⟩,t,lf,sv,ins⟩).val,.int .i64 (Zn ⟨li,⟨x,y,z⟩,t,lf,sv,ins⟩).err],[]))
 | _,_=>none
def sp68:Abs.Spec:=fun xs bl=>match xs,bl with
 | [.agg [.bool li,.str x,.str y,.str z,.int .i64 t,.int .i64 cd,.str tx]],[]=>chk (decide (x.length≤9223372036854775807)&&decide (y.length≤9223372036854775807)&&decide (z.length≤9223372036854775807)&&decide (tx.length≤9223372036854775807)) (some (.tup [.bs (Kerb.encodeError ⟨li,⟨x,y,z⟩,t,cd,tx⟩).val,.int .i64 (Kerb.encodeError ⟨li,⟨x,y,z⟩,t,cd,tx⟩).err],[]))
 | _,_=>none
def sp72:Abs.Spec:=fun xs bl=>match xs,bl with
 | [.agg [.int .u64 k,.str x,.str y,.str z,.int .i64 lf,.int .i64 kv,.bs tk,.int .i64 t],.bool little],[]=>chk (decide (x.length≤9223372036854775807)&&decide (y.length≤9223372036854775807)&&decide (z.length≤9223372036854775807)&&decide (0≤k)&&decide (k<18446744073709551616)) (some (.tup [.bs (Kerb.encodePart ⟨k,⟨x,y,z⟩,lf,kv,tk,t⟩ little).val,.int .i64 (Kerb.encodePart ⟨k,⟨x,y,z⟩,lf,kv,tk,t⟩ little).err],[]))
 | _,_=>none
def sp76:Abs.Spec:=fun xs bl=>match xs,bl with
 | [.agg [.bool li,.str x,.str y,.str z,.int .i64 t,.int .i64 ex,.int .i64 kv,.bs sd]],[]=>chk (decide (x.length≤9223372036854775807)&&decide (y.length≤9223372036854775807)&&decide (z.length≤9223372036854775807)) (some (.tup [.bs (Kerb.encodeReply ⟨li,⟨x,y,z⟩,t,ex,kv,sd⟩).val,.int .i64 (Kerb.encodeReply ⟨li,⟨x,y,z⟩,t,ex,kv,sd⟩).err],[]))
 | _,_=>none
def sp118:Abs.Spec:=fun xs bl=>match xs,bl with
 | [.agg [.bool li,.str x,.str y,.str z,.int .i64 ad,.int .u64 k,.int .i64 lf,.int .i64 iss,.str sv,.str ins]],[]=>chk (decide (x.length≤9223372036854775807)&&decide (y.length≤9223372036854775807)&&decide (z.length≤9223372036854775807)&&decide (sv.length≤9223372036854775807)&&decide (ins.length≤9223372036854775807)&&decide (0≤k)&&decide (k<18446744073709551616)) (some (.int .i64 (Zg li ⟨x,y,z⟩ ad k lf iss sv ins).err,[]))
 | _,_=>none
def sp38:Abs.Spec:=fun xs bl=>match xs,bl with
 | [.bs b],[]=>chk (decide (b.length≤4611686018427387904)) (some (.tup [.agg [.bool ((Zu b).val).little,.str ((Zu b).val).client.name,.str ((Zu b).val).client.inst,.str ((Zu b).val).client.realm,.int .i64 ((Zu b).val).time,.int .i64 ((Zu b).val).life,.str ((Zu b).val).service,.str ((Zu b).val).inst],.int .i64 (Zu b).err],[]))
 | _,_=>none
def sp41:Abs.Spec:=fun xs bl=>match xs,bl with
 | [.agg [.str x,.str y,.str z],.int .i64 cd,.int .i64 now,.bool li],[]=>chk (decide (x.length≤9223372036854775807)&&decide (y.length≤9223372036854775807)&&decide (z.length≤9223372036854775807)) (some (.bs (Kerb.refuse ⟨x,y,z⟩ cd now li),[]))
 | _,_=>none
def sp46:Abs.Spec:=fun xs bl=>match xs,bl with
 | [.agg [.bool rl_,.str x,.str y,.str z,.int .i64 rt_,.int .i64 rx,.int .i64 rkv,.bs rsd],.agg [.int .u64 pk,.str p1,.str p2,.str p3,.int .i64 pl,.int .i64 pv,.bs pt,.int .i64 pm],.int .u64 k],[]=>chk (decide (x.length≤9223372036854775807)&&decide (y.length≤9223372036854775807)&&decide (z.length≤9223372036854775807)&&decide (p1.length≤9223372036854775807)&&decide (p2.length≤9223372036854775807)&&decide (p3.length≤9223372036854775807)&&Kerb.isU64 pk&&Kerb.isU64 k) (some (.tup [.bs (Kerb.sealReply (Kerb.KdcReply.mk rl_ ⟨x,y,z⟩ rt_ rx rkv rsd) (Kerb.ReplyPart.mk pk ⟨p1,p2,p3⟩ pl pv pt pm) k).val,.int .i64 (Kerb.sealReply (Kerb.KdcReply.mk rl_ ⟨x,y,z⟩ rt_ rx rkv rsd) (Kerb.ReplyPart.mk pk ⟨p1,p2,p3⟩ pl pv pt pm) k).err],[]))
 | _,_=>none
def sp105:Abs.Spec:=fun xs bl=>match xs,bl with
 | [.agg [.bool li,.str x,.str y,.str z,.int .i64 ad,.int .u64 k,.int .i64 lf,.int .i64 iss,.str sv,.str ins]],[]=>chk (decide (x.length≤9223372036854775807)&&decide (y.length≤9223372036854775807)&&decide (z.length≤9223372036854775807)&&decide (sv.length≤9223372036854775807)&&decide (ins.length≤9223372036854775807)&&decide (0≤k)&&decide (k<18446744073709551616)) (some (.tup [.bs (Kerb.encodeTicket (Zg li ⟨x,y,z⟩ ad k lf iss sv ins)).val,.int .i64 (Kerb.encodeTicket (Zg li ⟨x,y,z⟩ ad k lf iss sv ins)).err],[]))
 | _,_=>none
def sp39:Abs.Spec:=fun xs bl=>match xs,bl with
 | [.bs msg,.int .i64 now,.bool li],[]=>chk (decide (msg.length≤1000000)) (some (.bs (Kerb.refuseVer msg now li),[]))
 | _,_=>none
def sp71:Abs.Spec:=fun xs bl=>match xs,bl with
 | [.agg [.bool li,.str x,.str y,.str z,.int .i64 ad,.int .u64 k,.int .i64 lf,.int .i64 iss,.str sv,.str ins],.int .u64 key],[]=>chk (decide (x.length≤9223372036854775807)&&decide (y.length≤9223372036854775807)&&decide (z.length≤9223372036854775807)&&decide (sv.length≤9223372036854775807)&&decide (ins.length≤9223372036854775807)&&decide (0≤k)&&decide (k<18446744073709551616)&&decide (0≤key)&&decide (key<18446744073709551616)) (some (.tup [.bs (Kerb.sealTicket (Zg li ⟨x,y,z⟩ ad k lf iss sv ins) key).val,.int .i64 (Kerb.sealTicket (Zg li ⟨x,y,z⟩ ad k lf iss sv ins) key).err],[]))
 | _,_=>none
def sp45:Abs.Spec:=fun xs bl=>match xs,bl with
 | [.agg [.str rl,.sl 9 els],.agg [.str x,.str y,.str z],.agg [.str u,.str v,.str w],.int .i64 ad,.bool li,.int .i64 now,.int .i64 lf,.int .u64 se,.int .u64 sl,.int .u64 tg,.int .i64 kv],[]=>chk (decide (x.length≤9223372036854775807)&&decide (y.length≤9223372036854775807)&&decide (z.length≤9223372036854775807)&&decide (u.length≤9223372036854775807)&&decide (v.length≤9223372036854775807)&&decide (w.length≤9223372036854775807)&&Kerb.isU64 se&&Kerb.isU64 tg) (some (.tup [.agg [.int .i64 ((Zv rl ⟨x,y,z⟩ ⟨u,v,w⟩ ad li now lf se sl tg kv).issue).kind,.str ((Zv rl ⟨x,y,z⟩ ⟨u,v,w⟩ ad li now lf se sl tg kv).issue).server.name,.str ((Zv rl ⟨x,y,z⟩ ⟨u,v,w⟩ ad li now lf se sl tg kv).issue).server.inst,.str ((Zv rl ⟨x,y,z⟩ ⟨u,v,w⟩ ad li now lf se sl tg kv).issue).server.realm,.str ((Zv rl ⟨x,y,z⟩ ⟨u,v,w⟩ ad li now lf se sl tg kv).issue).client.name,.str ((Zv rl ⟨x,y,z⟩ ⟨u,v,w⟩ ad li now lf se sl tg kv).issue).client.inst,.str ((Zv rl ⟨x,y,z⟩ ⟨u,v,w⟩ ad li now lf se sl tg kv).issue).client.realm,.str ((Zv rl ⟨x,y,z⟩ ⟨u,v,w⟩ ad li now lf se sl tg kv).issue).service.name,.str ((Zv rl ⟨x,y,z⟩ ⟨u,v,w⟩ ad li now lf se sl tg kv).issue).service.inst,.str ((Zv rl ⟨x,y,z⟩ ⟨u,v,w⟩ ad li now lf se sl tg kv).issue).service.realm,.int .u64 ((Zv rl ⟨x,y,z⟩ ⟨u,v,w⟩ ad li now lf se sl tg kv).issue).session,.int .u64 ((Zv rl ⟨x,y,z⟩ ⟨u,v,w⟩ ad li now lf se sl tg kv).issue).sealer,.int .u64 ((Zv rl ⟨x,y,z⟩ ⟨u,v,w⟩ ad li now lf se sl tg kv).issue).granter,.bs ((Zv rl ⟨x,y,z⟩ ⟨u,v,w⟩ ad li now lf se sl tg kv).issue).text,.int .i64 ((Zv rl ⟨x,y,z⟩ ⟨u,v,w⟩ ad li now lf se sl tg kv).issue).issued,.int .i64 ((Zv rl ⟨x,y,z⟩ ⟨u,v,w⟩ ad li now lf se sl tg kv).issue).stop],.agg [.int .u64 (Zv rl ⟨x,y,z⟩ ⟨u,v,w⟩ ad li now lf se sl tg kv).part.session,.str (Zv rl ⟨x,y,z⟩ ⟨u,v,w⟩ ad li now lf se sl tg kv).part.service.name,.str (Zv rl ⟨x,y,z⟩ ⟨u,v,w⟩ ad li now lf se sl tg kv).part.service.inst,.str (Zv rl ⟨x,y,z⟩ ⟨u,v,w⟩ ad li now lf se sl tg kv).part.service.realm,.int .i64 (Zv rl ⟨x,y,z⟩ ⟨u,v,w⟩ ad li now lf se sl tg kv).part.life,.int .i64 (Zv rl ⟨x,y,z⟩ ⟨u,v,w⟩ ad li now lf se sl tg kv).part.kvno,.bs (Zv rl ⟨x,y,z⟩ ⟨u,v,w⟩ ad li now lf se sl tg kv).part.ticket,.int .i64 (Zv rl ⟨x,y,z⟩ ⟨u,v,w⟩ ad li now lf se sl tg kv).part.time],.int .i64 (Zv rl ⟨x,y,z⟩ ⟨u,v,w⟩ ad li now lf se sl tg kv).err],[]))
 | _,_=>none
def sp14:Abs.Spec:=fun xs bl=>match xs,bl with
 | [.agg [.str rl,.sl 9 els],.sl 4 xls,.int .i64 now,.int .i64 ad,.bool li,.int .u64 se,.bs msg],[]=>chk (els.all Zk&&decide (els.length≤1000000)&&xls.all Kerb.isCross&&decide (xls.length≤1000000)&&decide (rl.length≤9223372036854775807)&&Kerb.isU64 se&&decide (msg.length≤1000000)) (some (.tup [.bs (Zw (Zx rl (els.map Zz)) (xls.map Zy) now ad li se msg).answer,.agg [.int .i64 ((Zw (Zx rl (els.map Zz)) (xls.map Zy) now ad li se msg).issue).kind,.str ((Zw (Zx rl (els.map Zz)) (xls.map Zy) now ad li se msg).issue).server.name,.str ((Zw (Zx rl (els.map Zz)) (xls.map Zy) now ad li se msg).issue).server.inst,.str ((Zw (Zx rl (els.map Zz)) (xls.map Zy) now ad li se msg).issue).server.realm,.str ((Zw (Zx rl (els.map Zz)) (xls.map Zy) now ad li se msg).issue).client.name,.str ((Zw (Zx rl (els.map Zz)) (xls.map Zy) now ad li se msg).issue).client.inst,.str ((Zw (Zx rl (els.map Zz)) (xls.map Zy) now ad li se msg).issue).client.realm,.str ((Zw (Zx rl (els.map Zz)) (xls.map Zy) now ad li se msg).issue).service.name,.str ((Zw (Zx rl (els.map Zz)) (xls.map Zy) now ad li se msg).issue).service.inst,.str ((Zw (Zx rl (els.map Zz)) (xls.map Zy) now ad li se msg).issue).service.realm,.int .u64 ((Zw (Zx rl (els.map Zz)) (xls.map Zy) now ad li se msg).issue).session,.int .u64 ((Zw (Zx rl (els.map Zz)) (xls.map Zy) now ad li se msg).issue).sealer,.int .u64 ((Zw (Zx rl (els.map Zz)) (xls.map Zy) now ad li se msg).issue).granter,.bs ((Zw (Zx rl (els.map Zz)) (xls.map Zy) now ad li se msg).issue).text,.int .i64 ((Zw (Zx rl (els.map Zz)) (xls.map Zy) now ad li se msg).issue).issued,.int .i64 ((Zw (Zx rl (els.map Zz)) (xls.map Zy) now ad li se msg).issue).stop],.bool (Zw (Zx rl (els.map Zz)) (xls.map Zy) now ad li se msg).ok],[]))
 | _,_=>none
def sp4:Abs.Spec:=fun xs bl=>match xs,bl with
 | [],[]=>some (.bool true,[])
 | _,_=>none
def sp3:Abs.Spec:=fun xs bl=>match xs,bl with
 | [.bs d,.bs cx,.str nm,.str ins,.int .i64 now,.u8 wh,.u8 pe,.int .u16 sml,.u8 lf,.u8 xp,.u8 bd],[]=>chk (decide (0≤sml)&&decide (sml≤65535)) (some (.bool true,[]))
 | _,_=>none
def tabT:List (Nat×Nat×List CT×Abs.Spec):=[(15,1,[.int .i64],sp15),(19,1,[.int .i64],sp19),(20,1,[.ptr],sp20),(22,1,[.other],sp22),(24,1,[.sl 4,.str,.str],sp24),(27,1,[.sl 4,.str,.str],sp27),(32,1,[.int .i64,.int .i64],sp32),(34,1,[.int .i64,.bool],sp34),(37,1,[.bsl,.str],sp37),(52,1,[.ptr,.int .i64],sp52),(53,1,[],sp53),(56,1,[.str,.str],sp56),(58,1,[.bsl,.int .i64,.int .i64,.bool],sp58),(65,1,[.bsl,.bsl],sp65),(66,1,[.bsl],sp66),(67,1,[.int .i64],sp67),(73,1,[.str,.str],sp73),(77,1,[.bsl],sp77),(79,1,[.ptr,.int .i64,.int .i64],sp79),(80,1,[.bsl,.int .i64],sp80),(82,1,[.other,.str,.str],sp82),(84,1,[.other,.str,.str],sp84),(87,1,[.int .i64,.sl 1],sp87),(90,1,[.bsl,.int .i64,.int .i64],sp90),(93,1,[.int .i64,.int .i64],sp93),(100,1,[.int .i64,.sl 1],sp100),(101,1,[.int .i64],sp101),(103,1,[.int .i64],sp103),(104,1,[.int .i64],sp104),(107,1,[.int .u64],sp107),(109,1,[.int .i64],sp109),(110,1,[.int .i64],sp110),(113,1,[.int .i64,.int .i64],sp113),(114,1,[.int .i64],sp114),(115,1,[.bsl,.u8],sp115),(119,1,[.other,.other],sp119),(120,1,[.bsl,.int .i64,.int .i64],sp120),(121,1,[.str,.u8],sp121),(122,1,[.int .i64,.int .i64],sp122),(18,2,[.int .i64],sp18),(26,2,[.str],sp26),(30,2,[.str],sp30),(31,2,[.str],sp31),(33,2,[.bsl,.other],sp33),(35,2,[.bsl,.int .i64],sp35),(36,2,[.bsl,.int .i64,.bool],sp36),(47,2,[.bsl,.sl 1],sp47),(50,2,[.ptr],sp50),(70,2,[.int .u64],sp70),(74,2,[.int .i64,.int .i64],sp74),(85,2,[.int .u64],sp85),(86,2,[.bsl],sp86),(89,2,[.bsl,.int .i64,.int .i64,.bool],sp89),(91,2,[.bsl,.u8],sp91),(94,2,[.int .i64,.bool],sp94),(102,2,[.int .i64],sp102),(106,2,[.sl 1],sp106),(112,2,[.bsl,.int .i64,.int .i64,.bool],sp112),(117,2,[.str,.u8],sp117),(6,3,[.int .i64],sp6),(7,3,[.int .i64,.int .i64],sp7),(13,3,[.int .i64],sp13),(17,3,[.bsl],sp17),(29,3,[.other],sp29),(44,3,[.int .u64],sp44),(48,3,[.ptr],sp48),(57,3,[.other,.str,.str,.int .i64,.int .i64,.int .i64,.int .i64],sp57),(59,3,[.bsl,.sl 1],sp59),(61,3,[.bsl,.int .i64,.bool],sp61),(62,3,[.bsl,.int .i64],sp62),(63,3,[.bsl,.int .i64],sp63),(69,3,[.int .i64,.int .i64,.sl 1],sp69),(78,3,[.bsl,.int .i64,.bool],sp78),(83,3,[.int .u64],sp83),(98,3,[.bsl,.str],sp98),(99,3,[.str,.u8],sp99),(108,3,[.bsl],sp108),(116,3,[.bsl,.int .i64,.int .i64,.bool],sp116),(5,4,[.bsl],sp5),(8,4,[.u8,.u8,.u8],sp8),(12,4,[.other],sp12),(21,4,[.ptr],sp21),(28,4,[.other,.str,.str,.int .i64],sp28),(43,4,[.int .i64,.int .i64,.sl 1],sp43),(49,4,[.ptr],sp49),(51,4,[.other],sp51),(55,4,[.other,.str,.str,.int .i64,.int .i64,.int .i64,.int .i64],sp55),(75,4,[.int .i64,.int .u64,.bsl],sp75),(81,4,[.str,.str],sp81),(95,4,[.bsl,.other],sp95),(96,4,[.bsl,.int .i64,.bool],sp96),(97,4,[.bsl,.int .i64],sp97),(111,4,[.bsl,.int .i64,.bool],sp111),(9,5,[.bsl,.int .i64],sp9),(11,5,[.other,.sl 4,.str,.str,.int .i64],sp11),(16,5,[.bsl],sp16),(25,5,[.other,.str,.str,.int .i64],sp25),(42,5,[.other,.str,.str,.int .i64],sp42),(54,5,[.str],sp54),(92,5,[.str],sp92),(23,6,[.str],sp23),(10,7,[.other,.sl 4,.str,.str,.int .i64],sp10),(88,7,[.other],sp88),(60,8,[.bsl,.int .i64],sp60),(64,8,[.other],sp64),(68,8,[.other],sp68),(72,8,[.other,.bool],sp72),(76,8,[.other],sp76),(118,8,[.other],sp118),(38,9,[.bsl],sp38),(41,9,[.other,.int .i64,.int .i64,.bool],sp41),(46,9,[.other,.other,.int .u64],sp46),(105,9,[.other],sp105),(39,10,[.bsl,.int .i64,.bool],sp39),(71,10,[.other,.int .u64],sp71),(45,11,[.other,.other,.other,.int .i64,.bool,.int .i64,.int .i64,.int .u64,.int .u64,.int .u64,.int .i64],sp45),(14,12,[.other,.sl 4,.int .i64,.int .i64,.bool,.int .u64,.bsl],sp14),(4,13,[],sp4),(3,14,[.bsl,.bsl,.str,.str,.int .i64,.u8,.u8,.int .u16,.u8,.u8,.u8],sp3)]
def globT:List (Nat×List AV):=[(0,[.str [99,108,105,101,110,116,32,101,120,112,105,114,101,100],.str [115,101,114,118,105,99,101,32,101,120,112,105,114,101,100],.str [110,111,32,108,105,102,101,116,105,109,101,32,108,101,102,116],.str [112,114,111,116,111,99,111,108,32,118,101,114,115,105,111,110],.str [110,111,116,32,97,32,99,108,105,101,110,116],.str [110,111,116,32,97,32,115,101,114,118,105,99,101],.str [98,121,116,101,32,111,114,100,101,114],.str [112,114,105,110,99,105,112,97,108,32,117,110,107,110,111,119,110],.str [112,114,105,110,99,105,112,97,108,32,110,111,116,32,117,110,105,113,117,101],.str [110,111,32,107,101,121]])]
noncomputable def inlT:List (Nat×Func):=[(40,Tryz.f40)]
def look {α:Type} (k:Nat):List (Nat×α)→Option α
 | []=>none
 | (j,x)::r=>cond (Nat.beq j k) (some x) (look k r)
def look2 {α:Type} (k m:Nat):List (Nat×Nat×List α)→List α
 | []=>[]
 | (j,i,x)::r=>cond (Nat.beq j k) (cond (Nat.beq i m) x (look2 k m r)) (look2 k m r)
noncomputable def G:Cfg2:={ ty:=fun t=>(tbl[t]?).join,keep:=fun f r=>look2 f r keepT,own:=fun f=>ownT.contains f,glob:=fun q=>look q globT,rts:=fun f=>look f rtsT,tab:=fun f=>look f tabT,inl:=fun f=>look f inlT }
end Go.Proofs.YtojagnkahnpklaaGreatDoor
