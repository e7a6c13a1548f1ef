/- The table of functions of this seat. -/
import Derived.Test.YtlhambpafcdkbaaGreatDoorAbsSpec
import Derived.Test.YtlhambpafcdkbaaGreatDoorKerbDefs
import Derived.Test.YtlhambpafcdkbaaGreatDoorAbsPlain
import Derived.Test.YtlhambpafcdkbaaGreatDoorKerbKaRef
import Derived.Test.YtlhambpafcdkbaaGreatDoorKerbCli2
import Derived.Test.YtlhambpafcdkbaaGreatDoorKerbTkt
import Derived.Test.YtlhambpafcdkbaaGreatDoorKerbDb
import Derived.Test.YtlhambpafcdkbaaGreatDoorKerbKac
import Derived.Test.YtlhambpafcdkbaaGreatDoorKerbSrv
import Derived.Test.YtlhambpafcdkbaaGreatDoorKerbSrvD
import Derived.Test.YtlhambpafcdkbaaGreatDoorKerbAuthL
import Derived.Test.YtlhambpafcdkbaaGreatDoorProg
import Derived.KernelRfl
open Kerb renaming toEntry→Zz,decodeRequest→Zy,toCross→Zx,authAnswer→Zv,grant→Zu,get→Zq,decodeTicket→Zj,openTicket→Zk,decodeReply→Zp,decodePart→Zd,decodeError→Zf,text→Zb,isEntry→Zn,putN→Zm,readHead→Zh,encodeRequest→Yz,bytes→Yy,within→Yx,encodeTicket→Yw,keyValid→Yv
open Kerb.Db renaming mk→Zw
open Kerb.Ticket renaming mk→Zg
namespace Go.Proofs.YtlhambpafcdkbaaGreatDoor
open Go Go.Abs
set_option linter.unusedVariables false
def tbl:List (Option TI):=[
 none,
 none,
 some ⟨1,8,.int .i64,[.int .i64 0],[.int .i64],[.int .i64]⟩,
 some ⟨1,8,.int .i64,[.int .i64 0],[.int .i64],[.int .i64]⟩,
 some ⟨1,1,.bool,[.bool false],[.bool],[.bool]⟩,
 some ⟨1,1,.u8,[.u8 0],[.u8],[.u8]⟩,
 some ⟨1,1,.u8,[.u8 0],[.u8],[.u8]⟩,
 some ⟨4,24,.struct [(0,2),(1,3),(2,4),(3,6)],[.int .i64 0,.int .i64 0,.bool false,.u8 0],[.int .i64,.int .i64,.bool,.u8],[.int .i64,.int .i64,.bool,.u8]⟩,
 none,
 some ⟨1,16,.str,[.str []],[.str],[.str]⟩,
 none,
 none,
 some ⟨1,8,.int .u64,[.int .u64 0],[.int .u64],[.int .u64]⟩,
 none,
 none,
 some ⟨1,8,.ptr 168,[.nilp],[.ptr],[]⟩,
 some ⟨1,8,.ptr 171,[.nilp],[.ptr],[]⟩,
 some ⟨1,8,.ptr 180,[.nilp],[.ptr],[]⟩,
 some ⟨1,8,.struct [(0,17)],[.nilp],[.ptr],[]⟩,
 some ⟨1,8,.struct [(0,17)],[.nilp],[.ptr],[]⟩,
 none,
 some ⟨1,4,.int .i32,[.int .i32 0],[.int .i32],[.int .i32]⟩,
 some ⟨1,2,.int .u16,[.int .u16 0],[.int .u16],[.int .u16]⟩,
 some ⟨8,10,.struct [(0,5),(1,5),(2,5),(3,5),(4,5),(5,5),(6,4),(7,22)],[.u8 0,.u8 0,.u8 0,.u8 0,.u8 0,.u8 0,.bool false,.int .u16 0],[.u8,.u8,.u8,.u8,.u8,.u8,.bool,.int .u16],[.u8,.u8,.u8,.u8,.u8,.u8,.bool,.int .u16]⟩,
 some ⟨8,10,.struct [(0,5),(1,5),(2,5),(3,5),(4,5),(5,5),(6,4),(7,22)],[.u8 0,.u8 0,.u8 0,.u8 0,.u8 0,.u8 0,.bool false,.int .u16 0],[.u8,.u8,.u8,.u8,.u8,.u8,.bool,.int .u16],[.u8,.u8,.u8,.u8,.u8,.u8,.bool,.int .u16]⟩,
 none,
 some ⟨1,24,.slice 55 false,[.nils],[.sl 9],[]⟩,
 some ⟨2,40,.struct [(0,9),(1,26)],[.str [],.nils],[.str,.sl 9],[]⟩,
 some ⟨2,40,.struct [(0,9),(1,26)],[.str [],.nils],[.str,.sl 9],[]⟩,
 none,
 some ⟨1,8,.int .u64,[.int .u64 0],[.int .u64],[.int .u64]⟩,
 some ⟨1,8,.int .u64,[.int .u64 0],[.int .u64],[.int .u64]⟩,
 none,
 some ⟨1,24,.slice 5 true,[.nils],[.bsl],[]⟩,
 some ⟨3,48,.struct [(0,9),(1,9),(2,9)],[.str [],.str [],.str []],[.str,.str,.str],[.str,.str,.str]⟩,
 some ⟨3,48,.struct [(0,9),(1,9),(2,9)],[.str [],.str [],.str []],[.str,.str,.str],[.str,.str,.str]⟩,
 some ⟨16,216,.struct [(0,3),(1,35),(4,35),(7,35),(10,31),(11,31),(12,31),(13,33),(14,3),(15,3)],[.int .i64 0,.str [],.str [],.str [],.str [],.str [],.str [],.str [],.str [],.str [],.int .u64 0,.int .u64 0,.int .u64 0,.nils,.int .i64 0,.int .i64 0],[.int .i64,.str,.str,.str,.str,.str,.str,.str,.str,.str,.int .u64,.int .u64,.int .u64,.bsl,.int .i64,.int .i64],[]⟩,
 some ⟨16,216,.struct [(0,3),(1,35),(4,35),(7,35),(10,31),(11,31),(12,31),(13,33),(14,3),(15,3)],[.int .i64 0,.str [],.str [],.str [],.str [],.str [],.str [],.str [],.str [],.str [],.int .u64 0,.int .u64 0,.int .u64 0,.nils,.int .i64 0,.int .i64 0],[.int .i64,.str,.str,.str,.str,.str,.str,.str,.str,.str,.int .u64,.int .u64,.int .u64,.bsl,.int .i64,.int .i64],[]⟩,
 none,
 none,
 none,
 some ⟨8,104,.struct [(0,4),(1,35),(4,3),(5,3),(6,9),(7,9)],[.bool false,.str [],.str [],.str [],.int .i64 0,.int .i64 0,.str [],.str []],[.bool,.str,.str,.str,.int .i64,.int .i64,.str,.str],[.bool,.str,.str,.str,.int .i64,.int .i64,.str,.str]⟩,
 some ⟨8,104,.struct [(0,4),(1,35),(4,3),(5,3),(6,9),(7,9)],[.bool false,.str [],.str [],.str [],.int .i64 0,.int .i64 0,.str [],.str []],[.bool,.str,.str,.str,.int .i64,.int .i64,.str,.str],[.bool,.str,.str,.str,.int .i64,.int .i64,.str,.str]⟩,
 some ⟨1,8,.int .i64,[.int .i64 0],[.int .i64],[.int .i64]⟩,
 none,
 none,
 some ⟨8,104,.struct [(0,4),(1,35),(4,3),(5,3),(6,3),(7,33)],[.bool false,.str [],.str [],.str [],.int .i64 0,.int .i64 0,.int .i64 0,.nils],[.bool,.str,.str,.str,.int .i64,.int .i64,.int .i64,.bsl],[]⟩,
 some ⟨8,104,.struct [(0,4),(1,35),(4,3),(5,3),(6,3),(7,33)],[.bool false,.str [],.str [],.str [],.int .i64 0,.int .i64 0,.int .i64 0,.nils],[.bool,.str,.str,.str,.int .i64,.int .i64,.int .i64,.bsl],[]⟩,
 none,
 none,
 none,
 none,
 none,
 none,
 some ⟨9,88,.struct [(0,9),(1,9),(2,31),(3,3),(4,3),(5,3),(6,3),(7,3),(8,3)],[.str [],.str [],.int .u64 0,.int .i64 0,.int .i64 0,.int .i64 0,.int .i64 0,.int .i64 0,.int .i64 0],[.str,.str,.int .u64,.int .i64,.int .i64,.int .i64,.int .i64,.int .i64,.int .i64],[.str,.str,.int .u64,.int .i64,.int .i64,.int .i64,.int .i64,.int .i64,.int .i64]⟩,
 some ⟨9,88,.struct [(0,9),(1,9),(2,31),(3,3),(4,3),(5,3),(6,3),(7,3),(8,3)],[.str [],.str [],.int .u64 0,.int .i64 0,.int .i64 0,.int .i64 0,.int .i64 0,.int .i64 0,.int .i64 0],[.str,.str,.int .u64,.int .i64,.int .i64,.int .i64,.int .i64,.int .i64,.int .i64],[.str,.str,.int .u64,.int .i64,.int .i64,.int .i64,.int .i64,.int .i64,.int .i64]⟩,
 some ⟨8,104,.struct [(0,31),(1,35),(4,3),(5,3),(6,33),(7,3)],[.int .u64 0,.str [],.str [],.str [],.int .i64 0,.int .i64 0,.nils,.int .i64 0],[.int .u64,.str,.str,.str,.int .i64,.int .i64,.bsl,.int .i64],[]⟩,
 some ⟨8,104,.struct [(0,31),(1,35),(4,3),(5,3),(6,33),(7,3)],[.int .u64 0,.str [],.str [],.str [],.int .i64 0,.int .i64 0,.nils,.int .i64 0],[.int .u64,.str,.str,.str,.int .i64,.int .i64,.bsl,.int .i64],[]⟩,
 none,
 none,
 some ⟨10,120,.struct [(0,4),(1,35),(4,3),(5,31),(6,3),(7,3),(8,9),(9,9)],[.bool false,.str [],.str [],.str [],.int .i64 0,.int .u64 0,.int .i64 0,.int .i64 0,.str [],.str []],[.bool,.str,.str,.str,.int .i64,.int .u64,.int .i64,.int .i64,.str,.str],[.bool,.str,.str,.str,.int .i64,.int .u64,.int .i64,.int .i64,.str,.str]⟩,
 some ⟨10,120,.struct [(0,4),(1,35),(4,3),(5,31),(6,3),(7,3),(8,9),(9,9)],[.bool false,.str [],.str [],.str [],.int .i64 0,.int .u64 0,.int .i64 0,.int .i64 0,.str [],.str []],[.bool,.str,.str,.str,.int .i64,.int .u64,.int .i64,.int .i64,.str,.str],[.bool,.str,.str,.str,.int .i64,.int .u64,.int .i64,.int .i64,.str,.str]⟩,
 none,
 none,
 some ⟨1,24,.slice 3 false,[.nils],[.sl 1],[]⟩,
 none,
 none,
 none,
 none,
 some ⟨7,88,.struct [(0,4),(1,35),(4,3),(5,43),(6,9)],[.bool false,.str [],.str [],.str [],.int .i64 0,.int .i64 0,.str []],[.bool,.str,.str,.str,.int .i64,.int .i64,.str],[.bool,.str,.str,.str,.int .i64,.int .i64,.str]⟩,
 some ⟨7,88,.struct [(0,4),(1,35),(4,3),(5,43),(6,9)],[.bool false,.str [],.str [],.str [],.int .i64 0,.int .i64 0,.str []],[.bool,.str,.str,.str,.int .i64,.int .i64,.str],[.bool,.str,.str,.str,.int .i64,.int .i64,.str]⟩,
 none,
 none,
 some ⟨1,24,.slice 35 false,[.nils],[.sl 3],[]⟩,
 some ⟨1,24,.slice 130 false,[.nils],[.sl 4],[]⟩,
 none,
 none,
 none,
 none,
 none,
 none,
 none,
 none,
 none,
 none,
 none,
 none,
 none,
 none,
 none,
 none,
 some ⟨1,8,.ptr 93,[.nilp],[.ptr],[]⟩,
 some ⟨4,40,.struct [(0,33),(1,3),(2,4),(3,4)],[.nils,.int .i64 0,.bool false,.bool false],[.bsl,.int .i64,.bool,.bool],[]⟩,
 some ⟨4,40,.struct [(0,33),(1,3),(2,4),(3,4)],[.nils,.int .i64 0,.bool false,.bool false],[.bsl,.int .i64,.bool,.bool],[]⟩,
 none,
 none,
 none,
 none,
 none,
 some ⟨3,40,.struct [(0,3),(1,31),(2,33)],[.int .i64 0,.int .u64 0,.nils],[.int .i64,.int .u64,.bsl],[]⟩,
 some ⟨3,40,.struct [(0,3),(1,31),(2,33)],[.int .i64 0,.int .u64 0,.nils],[.int .i64,.int .u64,.bsl],[]⟩,
 none,
 none,
 none,
 none,
 none,
 none,
 none,
 none,
 none,
 none,
 none,
 none,
 none,
 some ⟨1,24,.slice 9 false,[.nils],[.sl 1],[]⟩,
 none,
 none,
 none,
 none,
 none,
 none,
 none,
 none,
 none,
 none,
 none,
 none,
 none,
 none,
 some ⟨4,48,.struct [(0,9),(1,9),(2,3),(3,31)],[.str [],.str [],.int .i64 0,.int .u64 0],[.str,.str,.int .i64,.int .u64],[.str,.str,.int .i64,.int .u64]⟩,
 some ⟨4,48,.struct [(0,9),(1,9),(2,3),(3,31)],[.str [],.str [],.int .i64 0,.int .u64 0],[.str,.str,.int .i64,.int .u64],[.str,.str,.int .i64,.int .u64]⟩,
 none,
 none,
 none,
 none,
 none,
 none,
 none,
 some ⟨1,8,.int .u64,[.int .u64 0],[.int .u64],[.int .u64]⟩,
 none,
 none,
 none,
 none,
 none,
 none,
 none,
 none,
 none,
 none,
 none,
 none,
 none,
 some ⟨1,8,.ptr 9,[.nilp],[.ptr],[]⟩,
 some ⟨1,24,.slice 152 false,[.nils],[.sl 1],[]⟩,
 none,
 none,
 none,
 some ⟨10,160,.arr 10 9 false,[.str [],.str [],.str [],.str [],.str [],.str [],.str [],.str [],.str [],.str []],[.str,.str,.str,.str,.str,.str,.str,.str,.str,.str],[]⟩,
 none,
 none,
 none,
 none,
 none,
 none,
 none,
 some ⟨1,24,.slice 33 false,[.nils],[.sl 1],[]⟩,
 some ⟨4,4,.arr 4 5 true,[.u8 0,.u8 0,.u8 0,.u8 0],[.u8,.u8,.u8,.u8],[]⟩,
 some ⟨4,40,.struct [(0,17),(1,17),(2,17),(3,9)],[.nilp,.nilp,.nilp,.str []],[.ptr,.ptr,.ptr,.str],[]⟩,
 none,
 some ⟨0,0,.arr 0 16 false,[],[],[]⟩,
 none,
 none,
 some ⟨1,4,.int .u32,[.int .u32 0],[.int .u32],[.int .u32]⟩,
 some ⟨1,1,.u8,[.u8 0],[.u8],[.u8]⟩,
 some ⟨1,1,.u8,[.u8 0],[.u8],[.u8]⟩,
 none,
 some ⟨1,8,.ptr 5,[.nilp],[.ptr],[]⟩,
 some ⟨1,4,.int .i32,[.int .i32 0],[.int .i32],[.int .i32]⟩,
 some ⟨1,4,.int .i32,[.int .i32 0],[.int .i32],[.int .i32]⟩,
 none,
 none,
 none]
def keepT:List (Nat×Nat×List Keep):=[(3,22,[.val 4 22,.val 14 4,.cells 15 [.str,.sl 9],.ptr 15 15 0,.cells 18 [.int .i64,.str,.str,.str,.str,.str,.str,.str,.str,.str,.int .u64,.int .u64,.int .u64,.bsl,.int .i64,.int .i64],.ptr 18 18 0,.cells 20 [.bool,.str,.str,.str,.int .i64,.int .i64,.str,.str],.ptr 20 20 0,.val 24 3,.val 26 3,.cells 31 [.bool,.str,.str,.str,.int .i64,.int .u64,.int .i64,.int .i64,.str,.str],.ptr 31 31 0,.val 32 3]),
 (5,4,[.val 0 5,.val 1 5,.val 2 5,.cells 6 [.str,.sl 9],.ptr 6 6 0,.cellsR 7 [.imm (.str),.own 20701 55 9 false],.ptr 7 7 0,.val 8 73,.val 9 3]),
 (5,3000008,[.val 0 5,.val 1 5,.val 2 5,.cells 6 [.str,.sl 9],.ptr 6 6 0,.cellsR 7 [.imm (.str),.own 20701 55 9 false],.ptr 7 7 0,.val 8 73,.val 9 3,.cells 10 [.str,.str,.int .u64,.int .i64,.int .i64,.int .i64,.int .i64,.int .i64,.int .i64],.ptr 10 10 0]),
 (5,3000010,[.val 0 5,.val 1 5,.val 2 5,.cells 6 [.str,.sl 9],.ptr 6 6 0,.cellsR 7 [.imm (.str),.own 20701 55 9 false],.ptr 7 7 0,.val 8 73,.val 9 3,.cells 10 [.str,.str,.int .u64,.int .i64,.int .i64,.int .i64,.int .i64,.int .i64,.int .i64],.ptr 10 10 0]),
 (11,3,[.val 1 9,.val 2 9,.cells 3 [.str,.sl 9],.ptr 3 3 0,.val 8 3,.val 9 3,.val 10 3]),
 (26,3,[.val 0 3,.val 1 3,.rowL 8 3 1 false,.val 11 64,.val 12 3,.val 13 3]),
 (31,1000038,[.val 0 3]),
 (31,1000042,[.val 0 3]),
 (32,5,[.val 1 64,.val 4 4,.val 5 43,.val 6 3,.val 7 4,.val 9 3]),
 (41,5,[.val 0 33,.val 4 31,.val 5 3]),
 (54,8,[.cells 1 [.bool,.str,.str,.str,.int .i64,.int .i64,.str],.ptr 1 1 0,.val 2 33,.val 3 43,.val 4 3]),
 (56,4,[.val 0 33,.val 1 3,.cells 4 [.str,.str,.str],.ptr 4 4 0,.val 5 3,.val 6 43,.cells 7 [.str,.str,.str],.ptr 7 7 0,.psl 14 7 [0,1,2],.val 15 3,.val 16 3]),
 (68,3,[.val 0 74,.val 1 9,.val 2 9,.val 8 3,.val 9 4,.val 12 74,.val 13 3,.val 14 3]),
 (82,4,[.val 0 33,.val 1 3,.val 4 9,.val 5 3,.val 6 43,.val 7 3]),
 (88,3,[.val 0 31,.rowB 3 5 false,.val 4 3]),
 (89,2,[.rowB 3 5 false]),
 (92,2,[.val 0 9,.val 1 9,.val 4 4,.val 5 3]),
 (92,7,[.val 0 9,.val 1 9,.val 4 4,.val 5 3,.val 6 3]),
 (93,3,[.val 1 3,.val 2 3,.val 3 4,.rowB 9 5 false,.val 10 3]),
 (96,2,[.val 0 3,.val 4 4,.val 7 64,.val 8 3,.val 9 3]),
 (98,6,[.val 0 33,.val 1 3,.val 2 3,.val 3 4,.val 12 3,.val 22 3,.val 23 3]),
 (110,3,[.val 1 9,.val 2 9,.val 6 3,.val 7 43,.val 8 3,.val 9 4,.val 13 26,.val 14 3,.val 15 3]),
 (112,2,[.val 0 3,.val 7 64,.val 8 3,.val 9 3]),
 (118,3,[.val 0 165,.val 3 3,.val 9 165,.val 10 3,.val 11 3]),
 (118,11,[.rowB 6 5 false,.val 25 165,.val 26 3,.val 27 3]),
 (119,3,[.val 0 31,.rowB 3 5 false,.val 7 3,.val 8 3]),
 (124,6,[.val 2 3,.val 3 4,.val 11 33,.val 12 3,.val 14 3,.val 15 3]),
 (129,2,[.val 0 9,.val 1 9,.val 4 4,.val 7 3,.val 8 3]),
 (130,3,[.val 0 33,.val 1 3,.val 2 3,.val 3 4,.barr 9 false,.ptr 9 9 0,.val 12 3,.val 13 3])]
def ownT:List Nat:=[52,62,89,93,133,50,51,85,118,87,130,15,106,107,123]
def rtsT:List (Nat×List Nat):=[(6,[31]),(11,[3,43]),(19,[31]),(31,[33]),(47,[4]),(49,[33]),(52,[33]),(61,[4]),(62,[33]),(63,[9]),(66,[4]),(68,[3,4]),(74,[35]),(78,[3,4,43]),(80,[]),(82,[9,3,43]),(84,[33,3,43]),(88,[33]),(89,[33]),(92,[4]),(93,[33]),(94,[114]),(96,[4]),(99,[43]),(103,[4]),(110,[3,43]),(112,[3]),(113,[4]),(115,[4]),(116,[4]),(119,[33]),(121,[4]),(122,[4]),(125,[31]),(127,[4]),(128,[3]),(133,[33]),(135,[4]),(136,[3]),(137,[4]),(32,[4,43]),(36,[9]),(38,[33]),(45,[4]),(46,[4]),(48,[33]),(50,[33]),(51,[33]),(53,[9]),(71,[3,3,4]),(75,[3]),(85,[33]),(86,[4]),(91,[4]),(95,[3,4,43]),(98,[3,3,43]),(100,[3]),(104,[33]),(114,[3,4]),(118,[33]),(124,[3,3,43]),(131,[3]),(16,[35]),(18,[35]),(27,[3]),(30,[35]),(33,[35]),(41,[31,4]),(44,[4]),(55,[4,43]),(57,[3,3,43]),(58,[3,3,43]),(59,[9,3,43]),(70,[3,4]),(79,[3,3,43]),(81,[3,3,43]),(83,[3,3,43]),(87,[33]),(108,[33]),(109,[3]),(111,[4]),(120,[33]),(130,[33]),(134,[3]),(5,[28]),(15,[33,43]),(26,[3,4]),(34,[3]),(35,[3]),(37,[3]),(39,[33,43]),(40,[100,3,43]),(42,[33,43]),(54,[33,43]),(65,[3,43]),(76,[33,43]),(105,[33]),(106,[33]),(107,[33]),(123,[33]),(126,[43]),(129,[4]),(8,[33]),(9,[42,43]),(10,[47,43]),(12,[33,4]),(13,[57,43]),(17,[70,43]),(24,[3,43]),(69,[3,43]),(90,[33,43]),(101,[4]),(102,[4]),(43,[61,43]),(67,[4]),(14,[61,43]),(25,[31,3,3,3,43]),(97,[4]),(56,[35,3,43]),(60,[33,43]),(64,[33,43]),(73,[33,43]),(77,[33,43]),(132,[43]),(20,[42,43]),(23,[33]),(29,[33,43]),(117,[33,43]),(21,[33]),(72,[33,43]),(28,[37,57,43]),(7,[33,37,4]),(4,[4]),(3,[4])]
def sp6:Abs.Spec:=fun xs bl=>match xs,bl with
 | [.int .i64 n],[]=>chk (decide (0≤n)&&decide (n≤1000)) (some (.int .u64 (Kerb.session n),[]))
 | _,_=>none
def sp11:Abs.Spec:=fun xs bl=>match xs,bl with
 | [.agg [.str rl,.sl 9 els],.str n,.str i],[]=>chk (els.all Zn&&decide (els.length≤1000000)) (some (.tup [.int .i64 (Kerb.findEnt (els.map Zz) n i).1,.int .i64 (Kerb.findEnt (els.map Zz) n i).2],[]))
 | _,_=>none
def sp19:Abs.Spec:=fun xs bl=>match xs,bl with
 | [.int .i64 n],[]=>chk (decide (0≤n)&&decide (n≤1000)) (some (.int .u64 (Kerb.long n),[]))
 | _,_=>none
def sp31:Abs.Spec:=fun xs bl=>match xs,bl with
 | [.bs b,.int .u16 how],[]=>chk (decide (b.length≤1000000)&&decide (0≤how)&&decide (how≤65535)) (some (.bs (Kerb.spoil b how),[]))
 | _,_=>none
def sp47:Abs.Spec:=fun xs bl=>match xs,bl with
 | [.int .i64 n,.int .i64 m],[]=>some (.bool (Yx n m),[])
 | _,_=>none
def sp49:Abs.Spec:=fun xs bl=>match xs,bl with
 | [.int .i64 k,.bool little],[]=>some (.bs (Kerb.header k little),[])
 | _,_=>none
def sp52:Abs.Spec:=fun xs bl=>match xs,bl with
 | [.bs b,.str s],[]=>chk (decide (b.length+s.length≤70368744177664)) (some (.ownB (Kerb.putText b s),[]))
 | _,_=>none
def sp61:Abs.Spec:=fun xs bl=>match xs,bl with
 | [.bs a,.bs b],[]=>some (.bool (a==b),[])
 | _,_=>none
def sp62:Abs.Spec:=fun xs bl=>match xs,bl with
 | [.bs b],[]=>chk (decide (b.length≤140737488355328)) (some (.ownB b,[]))
 | _,_=>none
def sp63:Abs.Spec:=fun xs bl=>match xs,bl with
 | [.int .i64 code],[]=>some (.str (Kerb.message code),[])
 | _,_=>none
def sp66:Abs.Spec:=fun xs bl=>match xs,bl with
 | [.agg [.str x,.str y,.str z]],[]=>some (.bool (x==Kerb.krbtgt),[])
 | _,_=>none
def sp68:Abs.Spec:=fun xs bl=>match xs,bl with
 | [.sl 4 xls,.str a,.str b],[]=>chk (xls.all Kerb.isCross&&decide (xls.length≤1000000)) (some (.tup [.int .i64 (Kerb.findCross (xls.map Zx) a b).1,.bool (Kerb.findCross (xls.map Zx) a b).2],[]))
 | _,_=>none
def sp74:Abs.Spec:=fun xs bl=>match xs,bl with
 | [.str r,.str t],[]=>some (.agg [.str [107,114,98,116,103,116],.str t,.str r],[])
 | _,_=>none
def sp78:Abs.Spec:=fun xs bl=>match xs,bl with
 | [.bs b],[]=>some (.tup [.int .i64 (Zh b).kind,.bool (Zh b).little,.int .i64 (Zh b).err],[])
 | _,_=>none
def sp80:Abs.Spec:=fun xs bl=>match xs,bl with
 | [.ptr 0 0,.int .i64 nx,.int .i64 e],[(0,[.bs B,.int .i64 at_,.bool li,.bool bad])]=>some (.tup [],[[.bs B,.int .i64 (cond (bad || !(e==0)) at_ nx),.bool li,.bool (bad || !(e==0))]])
 | _,_=>none
def sp82:Abs.Spec:=fun xs bl=>match xs,bl with
 | [.bs b,.int .i64 pos],[]=>chk (decide (b.length≤140737488355328)) (some (.tup [.str (Zb b pos).val,.int .i64 (Zb b pos).next,.int .i64 (Zb b pos).err],[]))
 | _,_=>none
def sp84:Abs.Spec:=fun xs bl=>match xs,bl with
 | [.bs b,.int .i64 pos,.int .i64 n],[]=>chk (decide (b.length≤140737488355328)) (some (.tup [.bs (Yy b pos n).val,.int .i64 (Yy b pos n).next,.int .i64 (Yy b pos n).err],[]))
 | _,_=>none
def sp88:Abs.Spec:=fun xs bl=>match xs,bl with
 | [.int .u64 k],[]=>chk (decide (0≤k)&&decide (k<18446744073709551616)) (some (.bs (Kerb.keyBytes k),[]))
 | _,_=>none
def sp89:Abs.Spec:=fun xs bl=>match xs,bl with
 | [.bs b],[]=>chk (decide (b.length≤70368744177664)) (some (.ownB (Kerb.pad b),[]))
 | _,_=>none
def sp92:Abs.Spec:=fun xs bl=>match xs,bl with
 | [.str s,.str bad],[]=>chk (decide (s.length≤9223372036854775807)&&decide (bad.length≤100)) (some (.bool (Kerb.printable s bad&&decide (s.length≤39)),[]))
 | _,_=>none
def sp93:Abs.Spec:=fun xs bl=>match xs,bl with
 | [.bs b,.int .i64 n,.int .i64 k,.bool little],[]=>chk (decide (k=1∨k=2∨k=4)&&decide (b.length≤70368744177664)) (some (.ownB (b++Zm n k.toNat little),[]))
 | _,_=>none
def sp94:Abs.Spec:=fun xs bl=>match xs,bl with
 | [],[]=>some (.sl 1 [.str [65,84,72],.str [66,79,83],.str [67,65,77]],[])
 | _,_=>none
def sp96:Abs.Spec:=fun xs bl=>match xs,bl with
 | [.int .i64 k,.sl 1 els],[]=>chk (allInts els&&decide (els.length≤1000)) (some (.bool ((intsIn els).contains k),[]))
 | _,_=>none
def sp99:Abs.Spec:=fun xs bl=>match xs,bl with
 | [.bs b,.int .i64 pos,.int .i64 n],[]=>chk (decide (b.length≤4611686018427387904)) (some (.int .i64 (Kerb.room b pos n),[]))
 | _,_=>none
def sp103:Abs.Spec:=fun xs bl=>match xs,bl with
 | [.int .i64 n,.int .i64 m],[]=>some (.bool (Yx n m),[])
 | _,_=>none
def sp110:Abs.Spec:=fun xs bl=>match xs,bl with
 | [.agg [.str rl,.sl 9 els],.str n,.str i],[]=>chk (els.all Zn&&decide (els.length≤1000000)) (some (.tup [.int .i64 (Kerb.findEnt (els.map Zz) n i).1,.int .i64 (Kerb.findEnt (els.map Zz) n i).2],[]))
 | _,_=>none
def sp112:Abs.Spec:=fun xs bl=>match xs,bl with
 | [.int .i64 n,.sl 1 els],[]=>chk (allInts els&&decide (els.length≤1000000)) (some (.int .i64 (Kerb.least n (intsIn els)),[]))
 | _,_=>none
def sp113:Abs.Spec:=fun xs bl=>match xs,bl with
 | [.int .i64 n],[]=>some (.bool (Yx n 4294967295),[])
 | _,_=>none
def sp115:Abs.Spec:=fun xs bl=>match xs,bl with
 | [.int .i64 k],[]=>some (.bool (Kerb.isClass k),[])
 | _,_=>none
def sp116:Abs.Spec:=fun xs bl=>match xs,bl with
 | [.int .i64 k],[]=>some (.bool (Kerb.isSerial k),[])
 | _,_=>none
def sp119:Abs.Spec:=fun xs bl=>match xs,bl with
 | [.int .u64 k],[]=>chk (decide (0≤k)&&decide (k<18446744073709551616)) (some (.bs (Kerb.keyBytes k),[]))
 | _,_=>none
def sp121:Abs.Spec:=fun xs bl=>match xs,bl with
 | [.int .i64 n],[]=>some (.bool (Yx n 255),[])
 | _,_=>none
def sp122:Abs.Spec:=fun xs bl=>match xs,bl with
 | [.int .i64 k],[]=>some (.bool (Kerb.isKind k),[])
 | _,_=>none
def sp125:Abs.Spec:=fun xs bl=>match xs,bl with
 | [.int .i64 c,.int .i64 n],[]=>some (.int .u64 (cond (Kerb.isClass c&&Kerb.isSerial n) (c*72057594037927936+n) 0),[])
 | _,_=>none
def sp127:Abs.Spec:=fun xs bl=>match xs,bl with
 | [.int .i64 k],[]=>some (.bool (Kerb.isKind k),[])
 | _,_=>none
def sp128:Abs.Spec:=fun xs bl=>match xs,bl with
 | [.bs s,.u8 c],[]=>some (.int .i64 (Kerb.indexOf c s),[])
 | _,_=>none
def sp133:Abs.Spec:=fun xs bl=>match xs,bl with
 | [.nils,.int .i64 n],[]=>chk (decide (0≤n)&&decide (n≤140737488355328)) (some (.ownB [],[]))
 | _,_=>none
def sp135:Abs.Spec:=fun xs bl=>match xs,bl with
 | [.int .i64 n,.int .i64 m],[]=>some (.bool (Yx n m),[])
 | _,_=>none
def sp136:Abs.Spec:=fun xs bl=>match xs,bl with
 | [.str s,.u8 c],[]=>some (.int .i64 (Kerb.indexOf c s),[])
 | _,_=>none
def sp137:Abs.Spec:=fun xs bl=>match xs,bl with
 | [.int .i64 n,.int .i64 m],[]=>some (.bool (Yx n m),[])
 | _,_=>none
def sp32:Abs.Spec:=fun xs bl=>match xs,bl with
 | [.bs b,.sl 1 els],[]=>chk (allInts els&&decide (els.length≤1000)) (some (.tup [.bool (Kerb.headIs b (intsIn els)).1,.int .i64 (Kerb.headIs b (intsIn els)).2],[]))
 | _,_=>none
def sp36:Abs.Spec:=fun xs bl=>match xs,bl with
 | [.ptr 0 0],[(0,[.bs B,.int .i64 at_,.bool li,.bool bad])]=>chk (decide (B.length≤140737488355328)) (some (.str (Zb B at_).val,[[.bs B,.int .i64 (cond (bad || !((Zb B at_).err==0)) at_ (Zb B at_).next),.bool li,.bool (bad || !((Zb B at_).err==0))]]))
 | _,_=>none
def sp38:Abs.Spec:=fun xs bl=>match xs,bl with
 | [.ptr 0 0,.int .i64 n],[(0,[.bs B,.int .i64 at_,.bool li,.bool bad])]=>chk (decide (B.length≤140737488355328)) (some (.bs (Yy B at_ n).val,[[.bs B,.int .i64 (cond (bad || !((Yy B at_ n).err==0)) at_ (Yy B at_ n).next),.bool li,.bool (bad || !((Yy B at_ n).err==0))]]))
 | _,_=>none
def sp45:Abs.Spec:=fun xs bl=>match xs,bl with
 | [.str s],[]=>chk (decide (s.length≤9223372036854775807)) (some (.bool (Kerb.validName s),[]))
 | _,_=>none
def sp46:Abs.Spec:=fun xs bl=>match xs,bl with
 | [.str s],[]=>chk (decide (s.length≤9223372036854775807)) (some (.bool (Kerb.validInst s),[]))
 | _,_=>none
def sp48:Abs.Spec:=fun xs bl=>match xs,bl with
 | [.bs b,.agg [.str x,.str y,.str z]],[]=>chk (decide (b.length+x.length+y.length+z.length≤70368744170000)) (some (.bs (Kerb.putPrin b ⟨x,y,z⟩),[]))
 | _,_=>none
def sp50:Abs.Spec:=fun xs bl=>match xs,bl with
 | [.bs b,.int .i64 n],[]=>chk (decide (b.length≤70368744177664)) (some (.ownB (b++Zm n 1 false),[]))
 | _,_=>none
def sp51:Abs.Spec:=fun xs bl=>match xs,bl with
 | [.bs b,.int .i64 n,.bool little],[]=>chk (decide (b.length≤70368744177664)) (some (.ownB (b++Zm n 4 little),[]))
 | _,_=>none
def sp53:Abs.Spec:=fun xs bl=>match xs,bl with
 | [.int .i64 n],[]=>chk (decide (0≤n)) (some (.str (Kerb.realm n),[]))
 | _,_=>none
def sp71:Abs.Spec:=fun xs bl=>match xs,bl with
 | [.int .u64 k],[]=>chk (decide (0≤k)&&decide (k<18446744073709551616)) (some (.tup [.int .i64 (cond (Yv k) (Kerb.keyClass k) 0),.int .i64 (cond (Yv k) (Kerb.keySerial k) 0),.bool (Yv k)],[]))
 | _,_=>none
def sp75:Abs.Spec:=fun xs bl=>match xs,bl with
 | [.int .i64 i,.int .i64 l],[]=>some (.int .i64 (Kerb.tEnd i l),[])
 | _,_=>none
def sp85:Abs.Spec:=fun xs bl=>match xs,bl with
 | [.bs b,.int .i64 n,.bool little],[]=>chk (decide (b.length≤70368744177664)) (some (.ownB (b++Zm n 2 little),[]))
 | _,_=>none
def sp86:Abs.Spec:=fun xs bl=>match xs,bl with
 | [.int .u64 k],[]=>chk (decide (0≤k)&&decide (k<18446744073709551616)) (some (.bool (Yv k),[]))
 | _,_=>none
def sp91:Abs.Spec:=fun xs bl=>match xs,bl with
 | [.str s],[]=>chk (decide (s.length≤9223372036854775807)) (some (.bool (Kerb.validRealm s),[]))
 | _,_=>none
def sp95:Abs.Spec:=fun xs bl=>match xs,bl with
 | [.bs b],[]=>some (.tup [.int .i64 (Zh b).kind,.bool (Zh b).little,.int .i64 (Zh b).err],[])
 | _,_=>none
def sp98:Abs.Spec:=fun xs bl=>match xs,bl with
 | [.bs b,.int .i64 pos,.int .i64 k,.bool little],[]=>chk (decide (b.length≤4611686018427387904)&&decide (0≤k)&&decide (k≤4)) (some (.tup [.int .i64 (Zq b pos k little).val,.int .i64 (Zq b pos k little).next,.int .i64 (Zq b pos k little).err],[]))
 | _,_=>none
def sp100:Abs.Spec:=fun xs bl=>match xs,bl with
 | [.bs s,.u8 c],[]=>some (.int .i64 (Kerb.indexOf c s),[])
 | _,_=>none
def sp104:Abs.Spec:=fun xs bl=>match xs,bl with
 | [.int .i64 k,.bool little],[]=>some (.bs (Kerb.header k little),[])
 | _,_=>none
def sp114:Abs.Spec:=fun xs bl=>match xs,bl with
 | [.int .i64 n],[]=>chk (decide (-9223372036854775808≤n)&&decide (n≤9223372036854775807)) (some (.tup [.int .i64 (cond (decide (n<300)) 0 (Kerb.fromSec n)),.bool (!decide (n<300))],[]))
 | _,_=>none
def sp118:Abs.Spec:=fun xs bl=>match xs,bl with
 | [.sl 1 els],[]=>chk (allB els&&decide ((catB els).length≤140737488355328)&&decide (els.length≤1000)) (some (.ownB (catB els),[]))
 | _,_=>none
def sp124:Abs.Spec:=fun xs bl=>match xs,bl with
 | [.bs b,.int .i64 pos,.int .i64 k,.bool little],[]=>chk (decide (b.length≤140737488355328)&&decide (0≤k)&&decide (k≤4)) (some (.tup [.int .i64 (Zq b pos k little).val,.int .i64 (Zq b pos k little).next,.int .i64 (Zq b pos k little).err],[]))
 | _,_=>none
def sp131:Abs.Spec:=fun xs bl=>match xs,bl with
 | [.str s,.u8 c],[]=>some (.int .i64 (Kerb.indexOf c s),[])
 | _,_=>none
def sp16:Abs.Spec:=fun xs bl=>match xs,bl with
 | [.int .i64 n],[]=>chk (decide (0≤n)&&decide (n≤4611686018427387904)) (some (.agg [.str (Kerb.user n).name,.str (Kerb.user n).inst,.str (Kerb.user n).realm],[]))
 | _,_=>none
def sp18:Abs.Spec:=fun xs bl=>match xs,bl with
 | [.int .i64 n],[]=>chk (decide (0≤n)&&decide (n≤4611686018427387904)) (some (.agg [.str (Kerb.service n).name,.str (Kerb.service n).inst,.str (Kerb.service n).realm],[]))
 | _,_=>none
def sp27:Abs.Spec:=fun xs bl=>match xs,bl with
 | [.int .u64 k],[]=>chk (decide (0≤k)&&decide (k<18446744073709551616)) (some (.int .i64 (Kerb.classOf k),[]))
 | _,_=>none
def sp30:Abs.Spec:=fun xs bl=>match xs,bl with
 | [.int .i64 n,.int .i64 m],[]=>chk (decide (0≤n)&&decide (0≤m)) (some (.agg [.str Kerb.krbtgt,.str (Kerb.realm m),.str (Kerb.realm n)],[]))
 | _,_=>none
def sp33:Abs.Spec:=fun xs bl=>match xs,bl with
 | [.ptr 0 0],[(0,[.bs B,.int .i64 at_,.bool li,.bool bad])]=>chk (decide (B.length≤140737488355328)) (some (.agg [.str (Kerb.rdPrin B at_ bad).p.name,.str (Kerb.rdPrin B at_ bad).p.inst,.str (Kerb.rdPrin B at_ bad).p.realm],[[.bs B,.int .i64 (Kerb.rdPrin B at_ bad).pos,.bool li,.bool (Kerb.rdPrin B at_ bad).bad]]))
 | _,_=>none
def sp41:Abs.Spec:=fun xs bl=>match xs,bl with
 | [.bs b],[]=>chk (decide (b.length≤4611686018427387904)) (some (.tup [.int .u64 (Kerb.keyRead b).1,.bool (Kerb.keyRead b).2],[]))
 | _,_=>none
def sp44:Abs.Spec:=fun xs bl=>match xs,bl with
 | [.agg [.str a,.str b,.str c]],[]=>chk (decide (a.length≤9223372036854775807)&&decide (b.length≤9223372036854775807)&&decide (c.length≤9223372036854775807)) (some (.bool (Kerb.Prin.valid ⟨a,b,c⟩),[]))
 | _,_=>none
def sp55:Abs.Spec:=fun xs bl=>match xs,bl with
 | [.bs b,.sl 1 els],[]=>chk (allInts els&&decide (els.length≤1000)) (some (.tup [.bool (Kerb.headIs b (intsIn els)).1,.int .i64 (Kerb.headIs b (intsIn els)).2],[]))
 | _,_=>none
def sp57:Abs.Spec:=fun xs bl=>match xs,bl with
 | [.bs b,.int .i64 pos,.bool little],[]=>chk (decide (b.length≤4611686018427387904)) (some (.tup [.int .i64 (Zq b pos 4 little).val,.int .i64 (Zq b pos 4 little).next,.int .i64 (Zq b pos 4 little).err],[]))
 | _,_=>none
def sp58:Abs.Spec:=fun xs bl=>match xs,bl with
 | [.bs b,.int .i64 pos],[]=>chk (decide (b.length≤4611686018427387904)) (some (.tup [.int .i64 (Zq b pos 1 false).val,.int .i64 (Zq b pos 1 false).next,.int .i64 (Zq b pos 1 false).err],[]))
 | _,_=>none
def sp59:Abs.Spec:=fun xs bl=>match xs,bl with
 | [.bs b,.int .i64 pos],[]=>chk (decide (b.length≤4611686018427387904)) (some (.tup [.str (Zb b pos).val,.int .i64 (Zb b pos).next,.int .i64 (Zb b pos).err],[]))
 | _,_=>none
def sp70:Abs.Spec:=fun xs bl=>match xs,bl with
 | [.int .i64 n,.int .i64 w,.sl 1 els],[]=>chk (allInts els&&decide (els.length≤1000000)&&(intsIn els).all Kerb.isI64) (some (.tup [.int .i64 (Kerb.grantLife n w (intsIn els)).1,.bool (Kerb.grantLife n w (intsIn els)).2],[]))
 | _,_=>none
def sp79:Abs.Spec:=fun xs bl=>match xs,bl with
 | [.bs b,.int .i64 pos,.bool little],[]=>chk (decide (b.length≤140737488355328)) (some (.tup [.int .i64 (Zq b pos 4 little).val,.int .i64 (Zq b pos 4 little).next,.int .i64 (Zq b pos 4 little).err],[]))
 | _,_=>none
def sp81:Abs.Spec:=fun xs bl=>match xs,bl with
 | [.bs b,.int .i64 pos],[]=>chk (decide (b.length≤140737488355328)) (some (.tup [.int .i64 (Zq b pos 1 false).val,.int .i64 (Zq b pos 1 false).next,.int .i64 (Zq b pos 1 false).err],[]))
 | _,_=>none
def sp83:Abs.Spec:=fun xs bl=>match xs,bl with
 | [.bs b,.int .i64 pos,.bool little],[]=>chk (decide (b.length≤140737488355328)) (some (.tup [.int .i64 (Zq b pos 2 little).val,.int .i64 (Zq b pos 2 little).next,.int .i64 (Zq b pos 2 little).err],[]))
 | _,_=>none
def sp87:Abs.Spec:=fun xs bl=>match xs,bl with
 | [.bs b,.bool little],[]=>chk (decide (b.length≤70368744177664)) (some (.ownB (b++Zm (cond little 1 0) 1 false),[]))
 | _,_=>none
def sp108:Abs.Spec:=fun xs bl=>match xs,bl with
 | [.bs b,.str s],[]=>chk (decide (b.length+s.length≤70368744177664)) (some (.bs (Kerb.putText b s),[]))
 | _,_=>none
def sp109:Abs.Spec:=fun xs bl=>match xs,bl with
 | [.str s,.u8 c],[]=>some (.int .i64 (Kerb.indexOf c s),[])
 | _,_=>none
def sp111:Abs.Spec:=fun xs bl=>match xs,bl with
 | [.int .u64 k],[]=>chk (decide (0≤k)&&decide (k<18446744073709551616)) (some (.bool (Yv k),[]))
 | _,_=>none
def sp120:Abs.Spec:=fun xs bl=>match xs,bl with
 | [.bs b],[]=>chk (decide (b.length≤70368744177664)) (some (.bs (Kerb.pad b),[]))
 | _,_=>none
def sp130:Abs.Spec:=fun xs bl=>match xs,bl with
 | [.bs b,.int .i64 n,.int .i64 k,.bool little],[]=>chk (decide (k=1∨k=2∨k=4)&&decide (b.length≤70368744177664)) (some (.ownB (b++Zm n k.toNat little),[]))
 | _,_=>none
def sp134:Abs.Spec:=fun xs bl=>match xs,bl with
 | [.int .u64 k],[]=>chk (decide (0≤k)&&decide (k<18446744073709551616)) (some (.int .i64 (Kerb.classOf k),[]))
 | _,_=>none
def sp5:Abs.Spec:=fun xs bl=>match xs,bl with
 | [.u8 lf,.u8 xp,.u8 bd],[]=>some (.agg [.str (Kerb.simpleDb lf xp bd).realm,.sl 9 ((Kerb.simpleDb lf xp bd).entries.map Kerb.Entry.av)],[])
 | _,_=>none
def sp15:Abs.Spec:=fun xs bl=>match xs,bl with
 | [.agg [.bool li,.str x,.str y,.str z,.int .i64 t,.int .i64 lf,.str sv,.str ins]],[]=>chk (decide (x.length≤9223372036854775807)&&decide (y.length≤9223372036854775807)&&decide (z.length≤9223372036854775807)&&decide (sv.length≤9223372036854775807)&&decide (ins.length≤9223372036854775807)) (some (.tup [.ownB (Yz ⟨li,⟨x,y,z⟩,t,lf,sv,ins⟩).val,.int .i64 (Yz ⟨li,⟨x,y,z⟩,t,lf,sv,ins⟩).err],[]))
 | _,_=>none
def sp26:Abs.Spec:=fun xs bl=>match xs,bl with
 | [.int .i64 now,.int .i64 w,.sl 1 els],[]=>chk (allInts els&&decide (els.length≤1000000)&&(intsIn els).all Kerb.isI64) (some (.tup [.int .i64 (Kerb.grantLife now w ((intsIn els).filter fun n => !(n==0))).1,.bool (Kerb.grantLife now w ((intsIn els).filter fun n => !(n==0))).2],[]))
 | _,_=>none
def sp34:Abs.Spec:=fun xs bl=>match xs,bl with
 | [.ptr 0 0],[(0,[.bs B,.int .i64 at_,.bool li,.bool bad])]=>chk (decide (B.length≤140737488355328)) (some (.int .i64 (Zq B at_ 4 li).val,[[.bs B,.int .i64 (cond (bad || !((Zq B at_ 4 li).err==0)) at_ (Zq B at_ 4 li).next),.bool li,.bool (bad || !((Zq B at_ 4 li).err==0))]]))
 | _,_=>none
def sp35:Abs.Spec:=fun xs bl=>match xs,bl with
 | [.ptr 0 0],[(0,[.bs B,.int .i64 at_,.bool li,.bool bad])]=>chk (decide (B.length≤140737488355328)) (some (.int .i64 (Zq B at_ 1 false).val,[[.bs B,.int .i64 (cond (bad || !((Zq B at_ 1 false).err==0)) at_ (Zq B at_ 1 false).next),.bool li,.bool (bad || !((Zq B at_ 1 false).err==0))]]))
 | _,_=>none
def sp37:Abs.Spec:=fun xs bl=>match xs,bl with
 | [.ptr 0 0],[(0,[.bs B,.int .i64 at_,.bool li,.bool bad])]=>chk (decide (B.length≤140737488355328)) (some (.int .i64 (Zq B at_ 2 li).val,[[.bs B,.int .i64 (cond (bad || !((Zq B at_ 2 li).err==0)) at_ (Zq B at_ 2 li).next),.bool li,.bool (bad || !((Zq B at_ 2 li).err==0))]]))
 | _,_=>none
def sp39:Abs.Spec:=fun xs bl=>match xs,bl with
 | [.agg [.bool li,.str x,.str y,.str z,.int .i64 t,.int .i64 ex,.int .i64 kv,.bs sd]],[]=>chk (decide (x.length≤9223372036854775807)&&decide (y.length≤9223372036854775807)&&decide (z.length≤9223372036854775807)) (some (.tup [.bs (Kerb.encodeReply ⟨li,⟨x,y,z⟩,t,ex,kv,sd⟩).val,.int .i64 (Kerb.encodeReply ⟨li,⟨x,y,z⟩,t,ex,kv,sd⟩).err],[]))
 | _,_=>none
def sp40:Abs.Spec:=fun xs bl=>match xs,bl with
 | [.bs b],[]=>chk (decide (b.length≤140737488355328)) (some (.tup [.agg [.int .i64 (Kerb.readBox b).box.kind,.int .u64 (Kerb.readBox b).box.key,.bs (Kerb.readBox b).box.body],.int .i64 (Kerb.readBox b).n,.int .i64 (Kerb.readBox b).err],[]))
 | _,_=>none
def sp42:Abs.Spec:=fun xs bl=>match xs,bl with
 | [.agg [.int .u64 k,.str x,.str y,.str z,.int .i64 lf,.int .i64 kv,.bs tk,.int .i64 t],.bool little],[]=>chk (decide (x.length≤9223372036854775807)&&decide (y.length≤9223372036854775807)&&decide (z.length≤9223372036854775807)&&decide (0≤k)&&decide (k<18446744073709551616)) (some (.tup [.bs (Kerb.encodePart ⟨k,⟨x,y,z⟩,lf,kv,tk,t⟩ little).val,.int .i64 (Kerb.encodePart ⟨k,⟨x,y,z⟩,lf,kv,tk,t⟩ little).err],[]))
 | _,_=>none
def sp54:Abs.Spec:=fun xs bl=>match xs,bl with
 | [.agg [.bool li,.str x,.str y,.str z,.int .i64 t,.int .i64 cd,.str tx]],[]=>chk (decide (x.length≤9223372036854775807)&&decide (y.length≤9223372036854775807)&&decide (z.length≤9223372036854775807)&&decide (tx.length≤9223372036854775807)) (some (.tup [.bs (Kerb.encodeError ⟨li,⟨x,y,z⟩,t,cd,tx⟩).val,.int .i64 (Kerb.encodeError ⟨li,⟨x,y,z⟩,t,cd,tx⟩).err],[]))
 | _,_=>none
def sp65:Abs.Spec:=fun xs bl=>match xs,bl with
 | [.agg [.str rl,.sl 9 els],.str n,.str i,.int .i64 now,.int .i64 bit,.int .i64 xp,.int .i64 br],[]=>chk (els.all Zn&&decide (els.length≤1000000)) (some (.tup [.int .i64 (Kerb.useEnt (Zw rl (els.map Zz)) n i now bit xp br).1,.int .i64 (Kerb.useEnt (Zw rl (els.map Zz)) n i now bit xp br).2],[]))
 | _,_=>none
def sp76:Abs.Spec:=fun xs bl=>match xs,bl with
 | [.int .i64 kd,.int .u64 k,.bs bd],[]=>chk (decide (0≤k)&&decide (k<18446744073709551616)) (some (.tup [.bs (Kerb.makeBox kd k bd).val,.int .i64 (Kerb.makeBox kd k bd).err],[]))
 | _,_=>none
def sp105:Abs.Spec:=fun xs bl=>match xs,bl with
 | [.bs b,.agg [.str x,.str y,.str z]],[]=>chk (decide (b.length+x.length+y.length+z.length≤70368744170000)) (some (.bs (Kerb.putPrin b ⟨x,y,z⟩),[]))
 | _,_=>none
def sp106:Abs.Spec:=fun xs bl=>match xs,bl with
 | [.bs b,.int .i64 n,.bool little],[]=>chk (decide (b.length≤70368744177664)) (some (.ownB (b++Zm n 4 little),[]))
 | _,_=>none
def sp107:Abs.Spec:=fun xs bl=>match xs,bl with
 | [.bs b,.int .i64 n],[]=>chk (decide (b.length≤70368744177664)) (some (.ownB (b++Zm n 1 false),[]))
 | _,_=>none
def sp123:Abs.Spec:=fun xs bl=>match xs,bl with
 | [.bs b,.int .i64 n,.bool little],[]=>chk (decide (b.length≤70368744177664)) (some (.ownB (b++Zm n 2 little),[]))
 | _,_=>none
def sp126:Abs.Spec:=fun xs bl=>match xs,bl with
 | [.agg [.bool li,.str x,.str y,.str z,.int .i64 ad,.int .u64 k,.int .i64 lf,.int .i64 iss,.str sv,.str ins]],[]=>chk (decide (x.length≤9223372036854775807)&&decide (y.length≤9223372036854775807)&&decide (z.length≤9223372036854775807)&&decide (sv.length≤9223372036854775807)&&decide (ins.length≤9223372036854775807)&&decide (0≤k)&&decide (k<18446744073709551616)) (some (.int .i64 (Zg li ⟨x,y,z⟩ ad k lf iss sv ins).err,[]))
 | _,_=>none
def sp129:Abs.Spec:=fun xs bl=>match xs,bl with
 | [.str s,.str bad],[]=>chk (decide (s.length≤9223372036854775807)) (some (.bool (Kerb.printable s bad),[]))
 | _,_=>none
def sp8:Abs.Spec:=fun xs bl=>match xs,bl with
 | [.agg [.u8 qc,.u8 qs,.u8 qp,.u8 qt_,.u8 ql,.u8 qx,.bool qli,.int .u16 qh]],[]=>chk (decide (0≤qh)&&decide (qh≤65535)) (some (.bs (Kerb.AAsk.mk qc qs qp qt_ ql qx qli qh).msg,[]))
 | _,_=>none
def sp9:Abs.Spec:=fun xs bl=>match xs,bl with
 | [.bs b],[]=>chk (decide (b.length≤140737488355328)) (some (.tup [.agg [.bool ((Zy b).val).little,.str ((Zy b).val).client.name,.str ((Zy b).val).client.inst,.str ((Zy b).val).client.realm,.int .i64 ((Zy b).val).time,.int .i64 ((Zy b).val).life,.str ((Zy b).val).service,.str ((Zy b).val).inst],.int .i64 (Zy b).err],[]))
 | _,_=>none
def sp10:Abs.Spec:=fun xs bl=>match xs,bl with
 | [.bs b],[]=>chk (decide (b.length≤140737488355328)) (some (.tup [.agg [.bool ((Zp b).val).little,.str ((Zp b).val).client.name,.str ((Zp b).val).client.inst,.str ((Zp b).val).client.realm,.int .i64 ((Zp b).val).time,.int .i64 ((Zp b).val).expires,.int .i64 ((Zp b).val).kvno,.bs ((Zp b).val).sealed],.int .i64 (Zp b).err],[]))
 | _,_=>none
def sp12:Abs.Spec:=fun xs bl=>match xs,bl with
 | [.bs b,.int .i64 kd,.int .u64 k],[]=>chk (decide (b.length≤140737488355328)) (some (.tup [.bs (Kerb.openBox b kd k).1,.bool (Kerb.openBox b kd k).2],[]))
 | _,_=>none
def sp13:Abs.Spec:=fun xs bl=>match xs,bl with
 | [.bs b,.bool little],[]=>chk (decide (b.length≤140737488355328)) (some (.tup [.agg [.int .u64 ((Zd b little).val).session,.str ((Zd b little).val).service.name,.str ((Zd b little).val).service.inst,.str ((Zd b little).val).service.realm,.int .i64 ((Zd b little).val).life,.int .i64 ((Zd b little).val).kvno,.bs ((Zd b little).val).ticket,.int .i64 ((Zd b little).val).time],.int .i64 (Zd b little).err],[]))
 | _,_=>none
def sp17:Abs.Spec:=fun xs bl=>match xs,bl with
 | [.bs b],[]=>chk (decide (b.length≤140737488355328)) (some (.tup [.agg [.bool ((Zf b).val).little,.str ((Zf b).val).client.name,.str ((Zf b).val).client.inst,.str ((Zf b).val).client.realm,.int .i64 ((Zf b).val).time,.int .i64 ((Zf b).val).code,.str ((Zf b).val).text],.int .i64 (Zf b).err],[]))
 | _,_=>none
def sp24:Abs.Spec:=fun xs bl=>match xs,bl with
 | [.agg [.str rl,.sl 9 els],.str n,.str i,.int .i64 now],[]=>chk (els.all Zn&&decide (els.length≤1000000)) (some (.tup [.int .i64 (Kerb.clientEnt (Zw rl (els.map Zz)) n i now).1,.int .i64 (Kerb.clientEnt (Zw rl (els.map Zz)) n i now).2],[]))
 | _,_=>none
def sp69:Abs.Spec:=fun xs bl=>match xs,bl with
 | [.agg [.str rl,.sl 9 els],.str n,.str i,.int .i64 now],[]=>chk (els.all Zn&&decide (els.length≤1000000)) (some (.tup [.int .i64 (Kerb.serviceEnt (Zw rl (els.map Zz)) n i now).1,.int .i64 (Kerb.serviceEnt (Zw rl (els.map Zz)) n i now).2],[]))
 | _,_=>none
def sp90:Abs.Spec:=fun xs bl=>match xs,bl with
 | [.agg [.bool li,.str x,.str y,.str z,.int .i64 ad,.int .u64 k,.int .i64 lf,.int .i64 iss,.str sv,.str ins]],[]=>chk (decide (x.length≤9223372036854775807)&&decide (y.length≤9223372036854775807)&&decide (z.length≤9223372036854775807)&&decide (sv.length≤9223372036854775807)&&decide (ins.length≤9223372036854775807)&&decide (0≤k)&&decide (k<18446744073709551616)) (some (.tup [.bs (Yw (Zg li ⟨x,y,z⟩ ad k lf iss sv ins)).val,.int .i64 (Yw (Zg li ⟨x,y,z⟩ ad k lf iss sv ins)).err],[]))
 | _,_=>none
def sp101:Abs.Spec:=fun xs bl=>match xs,bl with
 | [.str s],[]=>chk (decide (s.length≤9223372036854775807)) (some (.bool (Kerb.validName s),[]))
 | _,_=>none
def sp102:Abs.Spec:=fun xs bl=>match xs,bl with
 | [.str s],[]=>chk (decide (s.length≤9223372036854775807)) (some (.bool (Kerb.validInst s),[]))
 | _,_=>none
def sp43:Abs.Spec:=fun xs bl=>match xs,bl with
 | [.bs b],[]=>chk (decide (b.length≤140737488355328)) (some (.tup [.agg [.bool ((Zj b).val).little,.str ((Zj b).val).client.name,.str ((Zj b).val).client.inst,.str ((Zj b).val).client.realm,.int .i64 ((Zj b).val).address,.int .u64 ((Zj b).val).session,.int .i64 ((Zj b).val).life,.int .i64 ((Zj b).val).issued,.str ((Zj b).val).service,.str ((Zj b).val).inst],.int .i64 (Zj b).err],[]))
 | _,_=>none
def sp67:Abs.Spec:=fun xs bl=>match xs,bl with
 | [.str s],[]=>chk (decide (s.length≤9223372036854775807)) (some (.bool (Kerb.validRealm s),[]))
 | _,_=>none
def sp14:Abs.Spec:=fun xs bl=>match xs,bl with
 | [.bs b,.int .u64 k],[]=>chk (decide (b.length≤140737488355328)) (some (.tup [.agg [.bool ((Zk b k).val).little,.str ((Zk b k).val).client.name,.str ((Zk b k).val).client.inst,.str ((Zk b k).val).client.realm,.int .i64 ((Zk b k).val).address,.int .u64 ((Zk b k).val).session,.int .i64 ((Zk b k).val).life,.int .i64 ((Zk b k).val).issued,.str ((Zk b k).val).service,.str ((Zk b k).val).inst],.int .i64 (Zk b k).err],[]))
 | _,_=>none
def sp25:Abs.Spec:=fun xs bl=>match xs,bl with
 | [.agg [.str rl,.sl 9 els],.sl 4 xls,.str n,.str i,.int .i64 now],[]=>chk (els.all Zn&&decide (els.length≤1000000)&&xls.all Kerb.isCross&&decide (xls.length≤1000000)&&decide (i.length≤9223372036854775807)) (some (.tup [.int .u64 (Kerb.svc (Zw rl (els.map Zz)) (xls.map Zx) n i now).key,.int .i64 (Kerb.svc (Zw rl (els.map Zz)) (xls.map Zx) n i now).kvno,.int .i64 (Kerb.svc (Zw rl (els.map Zz)) (xls.map Zx) n i now).life,.int .i64 (Kerb.svc (Zw rl (els.map Zz)) (xls.map Zx) n i now).expires,.int .i64 (Kerb.svc (Zw rl (els.map Zz)) (xls.map Zx) n i now).err],[]))
 | _,_=>none
def sp97:Abs.Spec:=fun xs bl=>match xs,bl with
 | [.agg [.str a,.str b,.str c]],[]=>chk (decide (a.length≤9223372036854775807)&&decide (b.length≤9223372036854775807)&&decide (c.length≤9223372036854775807)) (some (.bool (Kerb.Prin.valid ⟨a,b,c⟩),[]))
 | _,_=>none
def sp56:Abs.Spec:=fun xs bl=>match xs,bl with
 | [.bs b,.int .i64 pos],[]=>chk (decide (b.length≤4611686018427387904)) (some (.tup [.agg [.str (Kerb.prin b pos).val.name,.str (Kerb.prin b pos).val.inst,.str (Kerb.prin b pos).val.realm],.int .i64 (Kerb.prin b pos).next,.int .i64 (Kerb.prin b pos).err],[]))
 | _,_=>none
def sp60:Abs.Spec:=fun xs bl=>match xs,bl with
 | [.agg [.bool li,.str x,.str y,.str z,.int .i64 t,.int .i64 lf,.str sv,.str ins]],[]=>chk (decide (x.length≤9223372036854775807)&&decide (y.length≤9223372036854775807)&&decide (z.length≤9223372036854775807)&&decide (sv.length≤9223372036854775807)&&decide (ins.length≤9223372036854775807)) (some (.tup [.bs (Yz ⟨li,⟨x,y,z⟩,t,lf,sv,ins⟩).val,.int .i64 (Yz ⟨li,⟨x,y,z⟩,t,lf,sv,ins⟩).err],[]))
 | _,_=>none
def sp64:Abs.Spec:=fun xs bl=>match xs,bl with
 | [.agg [.bool li,.str x,.str y,.str z,.int .i64 t,.int .i64 cd,.str tx]],[]=>chk (decide (x.length≤9223372036854775807)&&decide (y.length≤9223372036854775807)&&decide (z.length≤9223372036854775807)&&decide (tx.length≤9223372036854775807)) (some (.tup [.bs (Kerb.encodeError ⟨li,⟨x,y,z⟩,t,cd,tx⟩).val,.int .i64 (Kerb.encodeError ⟨li,⟨x,y,z⟩,t,cd,tx⟩).err],[]))
 | _,_=>none
def sp73:Abs.Spec:=fun xs bl=>match xs,bl with
 | [.agg [.int .u64 k,.str x,.str y,.str z,.int .i64 lf,.int .i64 kv,.bs tk,.int .i64 t],.bool little],[]=>chk (decide (x.length≤9223372036854775807)&&decide (y.length≤9223372036854775807)&&decide (z.length≤9223372036854775807)&&decide (0≤k)&&decide (k<18446744073709551616)) (some (.tup [.bs (Kerb.encodePart ⟨k,⟨x,y,z⟩,lf,kv,tk,t⟩ little).val,.int .i64 (Kerb.encodePart ⟨k,⟨x,y,z⟩,lf,kv,tk,t⟩ little).err],[]))
 | _,_=>none
def sp77:Abs.Spec:=fun xs bl=>match xs,bl with
 | [.agg [.bool li,.str x,.str y,.str z,.int .i64 t,.int .i64 ex,.int .i64 kv,.bs sd]],[]=>chk (decide (x.length≤9223372036854775807)&&decide (y.length≤9223372036854775807)&&decide (z.length≤9223372036854775807)) (some (.tup [.bs (Kerb.encodeReply ⟨li,⟨x,y,z⟩,t,ex,kv,sd⟩).val,.int .i64 (Kerb.encodeReply ⟨li,⟨x,y,z⟩,t,ex,kv,sd⟩).err],[]))
 | _,_=>none
def sp132:Abs.Spec:=fun xs bl=>match xs,bl with
 | [.agg [.bool li,.str x,.str y,.str z,.int .i64 ad,.int .u64 k,.int .i64 lf,.int .i64 iss,.str sv,.str ins]],[]=>chk (decide (x.length≤9223372036854775807)&&decide (y.length≤9223372036854775807)&&decide (z.length≤9223372036854775807)&&decide (sv.length≤9223372036854775807)&&decide (ins.length≤9223372036854775807)&&decide (0≤k)&&decide (k<18446744073709551616)) (some (.int .i64 (Zg li ⟨x,y,z⟩ ad k lf iss sv ins).err,[]))
 | _,_=>none
def sp20:Abs.Spec:=fun xs bl=>match xs,bl with
 | [.bs b],[]=>chk (decide (b.length≤4611686018427387904)) (some (.tup [.agg [.bool ((Zy b).val).little,.str ((Zy b).val).client.name,.str ((Zy b).val).client.inst,.str ((Zy b).val).client.realm,.int .i64 ((Zy b).val).time,.int .i64 ((Zy b).val).life,.str ((Zy b).val).service,.str ((Zy b).val).inst],.int .i64 (Zy b).err],[]))
 | _,_=>none
def sp23:Abs.Spec:=fun xs bl=>match xs,bl with
 | [.agg [.str x,.str y,.str z],.int .i64 cd,.int .i64 now,.bool li],[]=>chk (decide (x.length≤9223372036854775807)&&decide (y.length≤9223372036854775807)&&decide (z.length≤9223372036854775807)) (some (.bs (Kerb.refuse ⟨x,y,z⟩ cd now li),[]))
 | _,_=>none
def sp29:Abs.Spec:=fun xs bl=>match xs,bl with
 | [.agg [.bool rl_,.str x,.str y,.str z,.int .i64 rt_,.int .i64 rx,.int .i64 rkv,.bs rsd],.agg [.int .u64 pk,.str p1,.str p2,.str p3,.int .i64 pl,.int .i64 pv,.bs pt,.int .i64 pm],.int .u64 k],[]=>chk (decide (x.length≤9223372036854775807)&&decide (y.length≤9223372036854775807)&&decide (z.length≤9223372036854775807)&&decide (p1.length≤9223372036854775807)&&decide (p2.length≤9223372036854775807)&&decide (p3.length≤9223372036854775807)&&Kerb.isU64 pk&&Kerb.isU64 k) (some (.tup [.bs (Kerb.sealReply (Kerb.KdcReply.mk rl_ ⟨x,y,z⟩ rt_ rx rkv rsd) (Kerb.ReplyPart.mk pk ⟨p1,p2,p3⟩ pl pv pt pm) k).val,.int .i64 (Kerb.sealReply (Kerb.KdcReply.mk rl_ ⟨x,y,z⟩ rt_ rx rkv rsd) (Kerb.ReplyPart.mk pk ⟨p1,p2,p3⟩ pl pv pt pm) k).err],[]))
 | _,_=>none
def sp117:Abs.Spec:=fun xs bl=>match xs,bl with
 | [.agg [.bool li,.str x,.str y,.str z,.int .i64 ad,.int .u64 k,.int .i64 lf,.int .i64 iss,.str sv,.str ins]],[]=>chk (decide (x.length≤9223372036854775807)&&decide (y.length≤9223372036854775807)&&decide (z.length≤9223372036854775807)&&decide (sv.length≤9223372036854775807)&&decide (ins.length≤9223372036854775807)&&decide (0≤k)&&decide (k<18446744073709551616)) (some (.tup [.bs (Yw (Zg li ⟨x,y,z⟩ ad k lf iss sv ins)).val,.int .i64 (Yw (Zg li ⟨x,y,z⟩ ad k lf iss sv ins)).err],[]))
 | _,_=>none
def sp21:Abs.Spec:=fun xs bl=>match xs,bl with
 | [.bs msg,.int .i64 now,.bool li],[]=>chk (decide (msg.length≤1000000)) (some (.bs (Kerb.refuseVer msg now li),[]))
 | _,_=>none
def sp72:Abs.Spec:=fun xs bl=>match xs,bl with
 | [.agg [.bool li,.str x,.str y,.str z,.int .i64 ad,.int .u64 k,.int .i64 lf,.int .i64 iss,.str sv,.str ins],.int .u64 key],[]=>chk (decide (x.length≤9223372036854775807)&&decide (y.length≤9223372036854775807)&&decide (z.length≤9223372036854775807)&&decide (sv.length≤9223372036854775807)&&decide (ins.length≤9223372036854775807)&&decide (0≤k)&&decide (k<18446744073709551616)&&decide (0≤key)&&decide (key<18446744073709551616)) (some (.tup [.bs (Kerb.sealTicket (Zg li ⟨x,y,z⟩ ad k lf iss sv ins) key).val,.int .i64 (Kerb.sealTicket (Zg li ⟨x,y,z⟩ ad k lf iss sv ins) key).err],[]))
 | _,_=>none
def sp28:Abs.Spec:=fun xs bl=>match xs,bl with
 | [.agg [.str rl,.sl 9 els],.agg [.str x,.str y,.str z],.agg [.str u,.str v,.str w],.int .i64 ad,.bool li,.int .i64 now,.int .i64 lf,.int .u64 se,.int .u64 sl,.int .u64 tg,.int .i64 kv],[]=>chk (decide (x.length≤9223372036854775807)&&decide (y.length≤9223372036854775807)&&decide (z.length≤9223372036854775807)&&decide (u.length≤9223372036854775807)&&decide (v.length≤9223372036854775807)&&decide (w.length≤9223372036854775807)&&Kerb.isU64 se&&Kerb.isU64 tg) (some (.tup [.agg [.int .i64 ((Zu rl ⟨x,y,z⟩ ⟨u,v,w⟩ ad li now lf se sl tg kv).issue).kind,.str ((Zu rl ⟨x,y,z⟩ ⟨u,v,w⟩ ad li now lf se sl tg kv).issue).server.name,.str ((Zu rl ⟨x,y,z⟩ ⟨u,v,w⟩ ad li now lf se sl tg kv).issue).server.inst,.str ((Zu rl ⟨x,y,z⟩ ⟨u,v,w⟩ ad li now lf se sl tg kv).issue).server.realm,.str ((Zu rl ⟨x,y,z⟩ ⟨u,v,w⟩ ad li now lf se sl tg kv).issue).client.name,.str ((Zu rl ⟨x,y,z⟩ ⟨u,v,w⟩ ad li now lf se sl tg kv).issue).client.inst,.str ((Zu rl ⟨x,y,z⟩ ⟨u,v,w⟩ ad li now lf se sl tg kv).issue).client.realm,.str ((Zu rl ⟨x,y,z⟩ ⟨u,v,w⟩ ad li now lf se sl tg kv).issue).service.name,.str ((Zu rl ⟨x,y,z⟩ ⟨u,v,w⟩ ad li now lf se sl tg kv).issue).service.inst,.str ((Zu rl ⟨x,y,z⟩ ⟨u,v,w⟩ ad li now lf se sl tg kv).issue).service.realm,.int .u64 ((Zu rl ⟨x,y,z⟩ ⟨u,v,w⟩ ad li now lf se sl tg kv).issue).session,.int .u64 ((Zu rl ⟨x,y,z⟩ ⟨u,v,w⟩ ad li now lf se sl tg kv).issue).sealer,.int .u64 ((Zu rl ⟨x,y,z⟩ ⟨u,v,w⟩ ad li now lf se sl tg kv).issue).granter,.bs ((Zu rl ⟨x,y,z⟩ ⟨u,v,w⟩ ad li now lf se sl tg kv).issue).text,.int .i64 ((Zu rl ⟨x,y,z⟩ ⟨u,v,w⟩ ad li now lf se sl tg kv).issue).issued,.int .i64 ((Zu rl ⟨x,y,z⟩ ⟨u,v,w⟩ ad li now lf se sl tg kv).issue).stop],.agg [.int .u64 (Zu rl ⟨x,y,z⟩ ⟨u,v,w⟩ ad li now lf se sl tg kv).part.session,.str (Zu rl ⟨x,y,z⟩ ⟨u,v,w⟩ ad li now lf se sl tg kv).part.service.name,.str (Zu rl ⟨x,y,z⟩ ⟨u,v,w⟩ ad li now lf se sl tg kv).part.service.inst,.str (Zu rl ⟨x,y,z⟩ ⟨u,v,w⟩ ad li now lf se sl tg kv).part.service.realm,.int .i64 (Zu rl ⟨x,y,z⟩ ⟨u,v,w⟩ ad li now lf se sl tg kv).part.life,.int .i64 (Zu rl ⟨x,y,z⟩ ⟨u,v,w⟩ ad li now lf se sl tg kv).part.kvno,.bs (Zu rl ⟨x,y,z⟩ ⟨u,v,w⟩ ad li now lf se sl tg kv).part.ticket,.int .i64 (Zu rl ⟨x,y,z⟩ ⟨u,v,w⟩ ad li now lf se sl tg kv).part.time],.int .i64 (Zu rl ⟨x,y,z⟩ ⟨u,v,w⟩ ad li now lf se sl tg kv).err],[]))
 | _,_=>none
def sp7:Abs.Spec:=fun xs bl=>match xs,bl with
 | [.agg [.str rl,.sl 9 els],.sl 4 xls,.int .i64 now,.int .i64 ad,.bool li,.int .u64 se,.bs msg],[]=>chk (els.all Zn&&decide (els.length≤1000000)&&xls.all Kerb.isCross&&decide (xls.length≤1000000)&&decide (rl.length≤9223372036854775807)&&Kerb.isU64 se&&decide (msg.length≤1000000)) (some (.tup [.bs (Zv (Zw rl (els.map Zz)) (xls.map Zx) now ad li se msg).answer,.agg [.int .i64 ((Zv (Zw rl (els.map Zz)) (xls.map Zx) now ad li se msg).issue).kind,.str ((Zv (Zw rl (els.map Zz)) (xls.map Zx) now ad li se msg).issue).server.name,.str ((Zv (Zw rl (els.map Zz)) (xls.map Zx) now ad li se msg).issue).server.inst,.str ((Zv (Zw rl (els.map Zz)) (xls.map Zx) now ad li se msg).issue).server.realm,.str ((Zv (Zw rl (els.map Zz)) (xls.map Zx) now ad li se msg).issue).client.name,.str ((Zv (Zw rl (els.map Zz)) (xls.map Zx) now ad li se msg).issue).client.inst,.str ((Zv (Zw rl (els.map Zz)) (xls.map Zx) now ad li se msg).issue).client.realm,.str ((Zv (Zw rl (els.map Zz)) (xls.map Zx) now ad li se msg).issue).service.name,.str ((Zv (Zw rl (els.map Zz)) (xls.map Zx) now ad li se msg).issue).service.inst,.str ((Zv (Zw rl (els.map Zz)) (xls.map Zx) now ad li se msg).issue).service.realm,.int .u64 ((Zv (Zw rl (els.map Zz)) (xls.map Zx) now ad li se msg).issue).session,.int .u64 ((Zv (Zw rl (els.map Zz)) (xls.map Zx) now ad li se msg).issue).sealer,.int .u64 ((Zv (Zw rl (els.map Zz)) (xls.map Zx) now ad li se msg).issue).granter,.bs ((Zv (Zw rl (els.map Zz)) (xls.map Zx) now ad li se msg).issue).text,.int .i64 ((Zv (Zw rl (els.map Zz)) (xls.map Zx) now ad li se msg).issue).issued,.int .i64 ((Zv (Zw rl (els.map Zz)) (xls.map Zx) now ad li se msg).issue).stop],.bool (Zv (Zw rl (els.map Zz)) (xls.map Zx) now ad li se msg).ok],[]))
 | _,_=>none
def sp4:Abs.Spec:=fun xs bl=>match xs,bl with
 | [],[]=>some (.bool true,[])
 | _,_=>none
def sp3:Abs.Spec:=fun xs bl=>match xs,bl with
 | [.agg [.u8 qc,.u8 qs,.u8 qp,.u8 qt_,.u8 ql,.u8 qx,.bool qli,.int .u16 qh],.u8 lf,.u8 xp,.u8 bd,.int .u16 now,.u8 ad,.bool li],[]=>chk (decide (0≤qh)&&decide (qh≤65535)&&decide (0≤now)&&decide (now≤65535)) (some (.bool true,[]))
 | _,_=>none
def tabT:List (Nat×Nat×List CT×Abs.Spec):=[(6,1,[.int .i64],sp6),(11,1,[.other,.str,.str],sp11),(19,1,[.int .i64],sp19),(31,1,[.bsl,.int .u16],sp31),(47,1,[.int .i64,.int .i64],sp47),(49,1,[.int .i64,.bool],sp49),(52,1,[.bsl,.str],sp52),(61,1,[.bsl,.bsl],sp61),(62,1,[.bsl],sp62),(63,1,[.int .i64],sp63),(66,1,[.other],sp66),(68,1,[.sl 4,.str,.str],sp68),(74,1,[.str,.str],sp74),(78,1,[.bsl],sp78),(80,1,[.ptr,.int .i64,.int .i64],sp80),(82,1,[.bsl,.int .i64],sp82),(84,1,[.bsl,.int .i64,.int .i64],sp84),(88,1,[.int .u64],sp88),(89,1,[.bsl],sp89),(92,1,[.str,.str],sp92),(93,1,[.bsl,.int .i64,.int .i64,.bool],sp93),(94,1,[],sp94),(96,1,[.int .i64,.sl 1],sp96),(99,1,[.bsl,.int .i64,.int .i64],sp99),(103,1,[.int .i64,.int .i64],sp103),(110,1,[.other,.str,.str],sp110),(112,1,[.int .i64,.sl 1],sp112),(113,1,[.int .i64],sp113),(115,1,[.int .i64],sp115),(116,1,[.int .i64],sp116),(119,1,[.int .u64],sp119),(121,1,[.int .i64],sp121),(122,1,[.int .i64],sp122),(125,1,[.int .i64,.int .i64],sp125),(127,1,[.int .i64],sp127),(128,1,[.bsl,.u8],sp128),(133,1,[.other,.other],sp133),(135,1,[.int .i64,.int .i64],sp135),(136,1,[.str,.u8],sp136),(137,1,[.int .i64,.int .i64],sp137),(32,2,[.bsl,.sl 1],sp32),(36,2,[.ptr],sp36),(38,2,[.ptr,.int .i64],sp38),(45,2,[.str],sp45),(46,2,[.str],sp46),(48,2,[.bsl,.other],sp48),(50,2,[.bsl,.int .i64],sp50),(51,2,[.bsl,.int .i64,.bool],sp51),(53,2,[.int .i64],sp53),(71,2,[.int .u64],sp71),(75,2,[.int .i64,.int .i64],sp75),(85,2,[.bsl,.int .i64,.bool],sp85),(86,2,[.int .u64],sp86),(91,2,[.str],sp91),(95,2,[.bsl],sp95),(98,2,[.bsl,.int .i64,.int .i64,.bool],sp98),(100,2,[.bsl,.u8],sp100),(104,2,[.int .i64,.bool],sp104),(114,2,[.int .i64],sp114),(118,2,[.sl 1],sp118),(124,2,[.bsl,.int .i64,.int .i64,.bool],sp124),(131,2,[.str,.u8],sp131),(16,3,[.int .i64],sp16),(18,3,[.int .i64],sp18),(27,3,[.int .u64],sp27),(30,3,[.int .i64,.int .i64],sp30),(33,3,[.ptr],sp33),(41,3,[.bsl],sp41),(44,3,[.other],sp44),(55,3,[.bsl,.sl 1],sp55),(57,3,[.bsl,.int .i64,.bool],sp57),(58,3,[.bsl,.int .i64],sp58),(59,3,[.bsl,.int .i64],sp59),(70,3,[.int .i64,.int .i64,.sl 1],sp70),(79,3,[.bsl,.int .i64,.bool],sp79),(81,3,[.bsl,.int .i64],sp81),(83,3,[.bsl,.int .i64,.bool],sp83),(87,3,[.bsl,.bool],sp87),(108,3,[.bsl,.str],sp108),(109,3,[.str,.u8],sp109),(111,3,[.int .u64],sp111),(120,3,[.bsl],sp120),(130,3,[.bsl,.int .i64,.int .i64,.bool],sp130),(134,3,[.int .u64],sp134),(5,4,[.u8,.u8,.u8],sp5),(15,4,[.other],sp15),(26,4,[.int .i64,.int .i64,.sl 1],sp26),(34,4,[.ptr],sp34),(35,4,[.ptr],sp35),(37,4,[.ptr],sp37),(39,4,[.other],sp39),(40,4,[.bsl],sp40),(42,4,[.other,.bool],sp42),(54,4,[.other],sp54),(65,4,[.other,.str,.str,.int .i64,.int .i64,.int .i64,.int .i64],sp65),(76,4,[.int .i64,.int .u64,.bsl],sp76),(105,4,[.bsl,.other],sp105),(106,4,[.bsl,.int .i64,.bool],sp106),(107,4,[.bsl,.int .i64],sp107),(123,4,[.bsl,.int .i64,.bool],sp123),(126,4,[.other],sp126),(129,4,[.str,.str],sp129),(8,5,[.other],sp8),(9,5,[.bsl],sp9),(10,5,[.bsl],sp10),(12,5,[.bsl,.int .i64,.int .u64],sp12),(13,5,[.bsl,.bool],sp13),(17,5,[.bsl],sp17),(24,5,[.other,.str,.str,.int .i64],sp24),(69,5,[.other,.str,.str,.int .i64],sp69),(90,5,[.other],sp90),(101,5,[.str],sp101),(102,5,[.str],sp102),(43,6,[.bsl],sp43),(67,6,[.str],sp67),(14,7,[.bsl,.int .u64],sp14),(25,7,[.other,.sl 4,.str,.str,.int .i64],sp25),(97,7,[.other],sp97),(56,8,[.bsl,.int .i64],sp56),(60,8,[.other],sp60),(64,8,[.other],sp64),(73,8,[.other,.bool],sp73),(77,8,[.other],sp77),(132,8,[.other],sp132),(20,9,[.bsl],sp20),(23,9,[.other,.int .i64,.int .i64,.bool],sp23),(29,9,[.other,.other,.int .u64],sp29),(117,9,[.other],sp117),(21,10,[.bsl,.int .i64,.bool],sp21),(72,10,[.other,.int .u64],sp72),(28,11,[.other,.other,.other,.int .i64,.bool,.int .i64,.int .i64,.int .u64,.int .u64,.int .u64,.int .i64],sp28),(7,12,[.other,.sl 4,.int .i64,.int .i64,.bool,.int .u64,.bsl],sp7),(4,13,[],sp4),(3,14,[.other,.u8,.u8,.u8,.int .u16,.u8,.bool],sp3)]
def globT:List (Nat×List AV):=[(0,[.str [99,108,105,101,110,116,32,101,120,112,105,114,101,100],.str [115,101,114,118,105,99,101,32,101,120,112,105,114,101,100],.str [110,111,32,108,105,102,101,116,105,109,101,32,108,101,102,116],.str [112,114,111,116,111,99,111,108,32,118,101,114,115,105,111,110],.str [110,111,116,32,97,32,99,108,105,101,110,116],.str [110,111,116,32,97,32,115,101,114,118,105,99,101],.str [98,121,116,101,32,111,114,100,101,114],.str [112,114,105,110,99,105,112,97,108,32,117,110,107,110,111,119,110],.str [112,114,105,110,99,105,112,97,108,32,110,111,116,32,117,110,105,113,117,101],.str [110,111,32,107,101,121]])]
noncomputable def inlT:List (Nat×Func):=[(22,Tryz.f22)]
def look {α:Type} (k:Nat):List (Nat×α)→Option α
 | []=>none
 | (j,x)::r=>cond (Nat.beq j k) (some x) (look k r)
def look2 {α:Type} (k m:Nat):List (Nat×Nat×List α)→List α
 | []=>[]
 | (j,i,x)::r=>cond (Nat.beq j k) (cond (Nat.beq i m) x (look2 k m r)) (look2 k m r)
noncomputable def G:Cfg2:={ ty:=fun t=>(tbl[t]?).join,keep:=fun f r=>look2 f r keepT,own:=fun f=>ownT.contains f,glob:=fun q=>look q globT,rts:=fun f=>look f rtsT,tab:=fun f=>look f tabT,inl:=fun f=>look f inlT }
end Go.Proofs.YtlhambpafcdkbaaGreatDoor
