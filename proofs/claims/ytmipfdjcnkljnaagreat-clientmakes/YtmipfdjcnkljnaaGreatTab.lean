/- The table of functions of this seat. -/
import Derived.Test.YtmipfdjcnkljnaaGreatAbsSpec
import Derived.Test.YtmipfdjcnkljnaaGreatKerbDefs
import Derived.Test.YtmipfdjcnkljnaaGreatAbsPlain
import Derived.Test.YtmipfdjcnkljnaaGreatKerbAt
import Derived.Test.YtmipfdjcnkljnaaGreatKerbKa
import Derived.Test.YtmipfdjcnkljnaaGreatKerbKaPlain
import Derived.Test.YtmipfdjcnkljnaaGreatKerbCli
import Derived.Test.YtmipfdjcnkljnaaGreatKerbCli2
import Derived.Test.YtmipfdjcnkljnaaGreatKerbCli3
import Derived.Test.YtmipfdjcnkljnaaGreatKerbKaRef
import Derived.Test.YtmipfdjcnkljnaaGreatKerbCli2
import Derived.Test.YtmipfdjcnkljnaaGreatKerbCli3
import Derived.Test.YtmipfdjcnkljnaaGreatKerbTkt
import Derived.Test.YtmipfdjcnkljnaaGreatKerbDb
import Derived.Test.YtmipfdjcnkljnaaGreatKerbVerL
import Derived.Test.YtmipfdjcnkljnaaGreatProg
import Derived.KernelRfl
open Kerb.Client renaming mk→Zz
open Kerb renaming toCred→Zy,newClient→Zx,present→Zw,personClient→Zv,ask→Zu,login→Zq,get→Zk,liveCred→Zd,within→Zb,getCred→Zn,decodeAuth→Zm,dataCred→Zh,noCache→Yx,openAuth→Yw,decodeAp→Yv,isCred→Yu,bytes→Yq,keyValid→Yj
open Kerb.Prin renaming valid→Zj
open Kerb.Cache renaming mk→Zp
open Kerb.Cred renaming av→Zf,mk→Yz
open Kerb.ApRequest renaming mk→Zg
open Kerb.Auth renaming mk→Yy
namespace Go.Proofs.YtmipfdjcnkljnaaGreat
open Go Go.Abs
set_option linter.unusedVariables false
def tbl:List (Option TI):=[
 none,
 none,
 some ⟨1,8,.int .i64,[.int .i64 0],[.int .i64],[.int .i64]⟩,
 some ⟨1,8,.int .i64,[.int .i64 0],[.int .i64],[.int .i64]⟩,
 some ⟨1,1,.bool,[.bool false],[.bool],[.bool]⟩,
 some ⟨1,1,.u8,[.u8 0],[.u8],[.u8]⟩,
 some ⟨1,1,.u8,[.u8 0],[.u8],[.u8]⟩,
 some ⟨4,24,.struct [(0,2),(1,3),(2,4),(3,6)],[.int .i64 0,.int .i64 0,.bool false,.u8 0],[.int .i64,.int .i64,.bool,.u8],[.int .i64,.int .i64,.bool,.u8]⟩,
 none,
 some ⟨1,16,.str,[.str []],[.str],[.str]⟩,
 none,
 none,
 some ⟨1,8,.int .u64,[.int .u64 0],[.int .u64],[.int .u64]⟩,
 none,
 none,
 some ⟨1,8,.ptr 156,[.nilp],[.ptr],[]⟩,
 some ⟨1,8,.ptr 159,[.nilp],[.ptr],[]⟩,
 some ⟨1,8,.ptr 167,[.nilp],[.ptr],[]⟩,
 some ⟨1,8,.struct [(0,17)],[.nilp],[.ptr],[]⟩,
 some ⟨1,8,.struct [(0,17)],[.nilp],[.ptr],[]⟩,
 none,
 some ⟨1,4,.int .i32,[.int .i32 0],[.int .i32],[.int .i32]⟩,
 some ⟨1,24,.slice 5 true,[.nils],[.bsl],[]⟩,
 some ⟨4,32,.struct [(0,5),(1,5),(2,4),(3,22)],[.u8 0,.u8 0,.bool false,.nils],[.u8,.u8,.bool,.bsl],[]⟩,
 some ⟨4,32,.struct [(0,5),(1,5),(2,4),(3,22)],[.u8 0,.u8 0,.bool false,.nils],[.u8,.u8,.bool,.bsl],[]⟩,
 some ⟨1,2,.int .u16,[.int .u16 0],[.int .u16],[.int .u16]⟩,
 some ⟨1,4,.int .u32,[.int .u32 0],[.int .u32],[.int .u32]⟩,
 none,
 some ⟨3,48,.struct [(0,9),(1,9),(2,9)],[.str [],.str [],.str []],[.str,.str,.str],[.str,.str,.str]⟩,
 some ⟨3,48,.struct [(0,9),(1,9),(2,9)],[.str [],.str [],.str []],[.str,.str,.str],[.str,.str,.str]⟩,
 some ⟨1,24,.slice 40 false,[.nils],[.sl 8],[]⟩,
 some ⟨4,72,.struct [(0,29),(3,30)],[.str [],.str [],.str [],.nils],[.str,.str,.str,.sl 8],[]⟩,
 some ⟨4,72,.struct [(0,29),(3,30)],[.str [],.str [],.str [],.nils],[.str,.str,.str,.sl 8],[]⟩,
 some ⟨1,8,.int .u64,[.int .u64 0],[.int .u64],[.int .u64]⟩,
 some ⟨1,8,.int .u64,[.int .u64 0],[.int .u64],[.int .u64]⟩,
 some ⟨19,240,.struct [(0,29),(3,3),(4,3),(5,4),(6,32),(10,3),(11,29),(14,34),(15,3),(16,3),(17,3),(18,3)],[.str [],.str [],.str [],.int .i64 0,.int .i64 0,.bool false,.str [],.str [],.str [],.nils,.int .i64 0,.str [],.str [],.str [],.int .u64 0,.int .i64 0,.int .i64 0,.int .i64 0,.int .i64 0],[.str,.str,.str,.int .i64,.int .i64,.bool,.str,.str,.str,.sl 8,.int .i64,.str,.str,.str,.int .u64,.int .i64,.int .i64,.int .i64,.int .i64],[]⟩,
 some ⟨19,240,.struct [(0,29),(3,3),(4,3),(5,4),(6,32),(10,3),(11,29),(14,34),(15,3),(16,3),(17,3),(18,3)],[.str [],.str [],.str [],.int .i64 0,.int .i64 0,.bool false,.str [],.str [],.str [],.nils,.int .i64 0,.str [],.str [],.str [],.int .u64 0,.int .i64 0,.int .i64 0,.int .i64 0,.int .i64 0],[.str,.str,.str,.int .i64,.int .i64,.bool,.str,.str,.str,.sl 8,.int .i64,.str,.str,.str,.int .u64,.int .i64,.int .i64,.int .i64,.int .i64],[]⟩,
 none,
 none,
 some ⟨8,104,.struct [(0,29),(3,34),(4,3),(5,3),(6,3),(7,22)],[.str [],.str [],.str [],.int .u64 0,.int .i64 0,.int .i64 0,.int .i64 0,.nils],[.str,.str,.str,.int .u64,.int .i64,.int .i64,.int .i64,.bsl],[]⟩,
 some ⟨8,104,.struct [(0,29),(3,34),(4,3),(5,3),(6,3),(7,22)],[.str [],.str [],.str [],.int .u64 0,.int .i64 0,.int .i64 0,.int .i64 0,.nils],[.str,.str,.str,.int .u64,.int .i64,.int .i64,.int .i64,.bsl],[]⟩,
 some ⟨1,8,.int .i64,[.int .i64 0],[.int .i64],[.int .i64]⟩,
 none,
 none,
 some ⟨6,80,.struct [(0,4),(1,4),(2,3),(3,9),(4,22),(5,22)],[.bool false,.bool false,.int .i64 0,.str [],.nils,.nils],[.bool,.bool,.int .i64,.str,.bsl,.bsl],[]⟩,
 some ⟨6,80,.struct [(0,4),(1,4),(2,3),(3,9),(4,22),(5,22)],[.bool false,.bool false,.int .i64 0,.str [],.nils,.nils],[.bool,.bool,.int .i64,.str,.bsl,.bsl],[]⟩,
 none,
 none,
 some ⟨6,72,.struct [(0,29),(3,3),(4,3),(5,3)],[.str [],.str [],.str [],.int .i64 0,.int .i64 0,.int .i64 0],[.str,.str,.str,.int .i64,.int .i64,.int .i64],[.str,.str,.str,.int .i64,.int .i64,.int .i64]⟩,
 some ⟨6,72,.struct [(0,29),(3,3),(4,3),(5,3)],[.str [],.str [],.str [],.int .i64 0,.int .i64 0,.int .i64 0],[.str,.str,.str,.int .i64,.int .i64,.int .i64],[.str,.str,.str,.int .i64,.int .i64,.int .i64]⟩,
 none,
 none,
 none,
 none,
 none,
 none,
 none,
 none,
 none,
 some ⟨1,24,.slice 29 false,[.nils],[.sl 3],[]⟩,
 none,
 none,
 none,
 none,
 none,
 none,
 none,
 none,
 none,
 none,
 none,
 some ⟨9,96,.struct [(0,3),(1,29),(4,34),(5,3),(6,3),(7,3),(8,3)],[.int .i64 0,.str [],.str [],.str [],.int .u64 0,.int .i64 0,.int .i64 0,.int .i64 0,.int .i64 0],[.int .i64,.str,.str,.str,.int .u64,.int .i64,.int .i64,.int .i64,.int .i64],[.int .i64,.str,.str,.str,.int .u64,.int .i64,.int .i64,.int .i64,.int .i64]⟩,
 some ⟨9,96,.struct [(0,3),(1,29),(4,34),(5,3),(6,3),(7,3),(8,3)],[.int .i64 0,.str [],.str [],.str [],.int .u64 0,.int .i64 0,.int .i64 0,.int .i64 0,.int .i64 0],[.int .i64,.str,.str,.str,.int .u64,.int .i64,.int .i64,.int .i64,.int .i64],[.int .i64,.str,.str,.str,.int .u64,.int .i64,.int .i64,.int .i64,.int .i64]⟩,
 none,
 none,
 none,
 none,
 some ⟨1,8,.ptr 81,[.nilp],[.ptr],[]⟩,
 none,
 none,
 some ⟨4,40,.struct [(0,22),(1,3),(2,4),(3,4)],[.nils,.int .i64 0,.bool false,.bool false],[.bsl,.int .i64,.bool,.bool],[]⟩,
 some ⟨4,40,.struct [(0,22),(1,3),(2,4),(3,4)],[.nils,.int .i64 0,.bool false,.bool false],[.bsl,.int .i64,.bool,.bool],[]⟩,
 none,
 none,
 none,
 none,
 none,
 some ⟨1,24,.slice 9 false,[.nils],[.sl 1],[]⟩,
 none,
 none,
 some ⟨8,104,.struct [(0,4),(1,29),(4,3),(5,3),(6,9),(7,9)],[.bool false,.str [],.str [],.str [],.int .i64 0,.int .i64 0,.str [],.str []],[.bool,.str,.str,.str,.int .i64,.int .i64,.str,.str],[.bool,.str,.str,.str,.int .i64,.int .i64,.str,.str]⟩,
 some ⟨8,104,.struct [(0,4),(1,29),(4,3),(5,3),(6,9),(7,9)],[.bool false,.str [],.str [],.str [],.int .i64 0,.int .i64 0,.str [],.str []],[.bool,.str,.str,.str,.int .i64,.int .i64,.str,.str],[.bool,.str,.str,.str,.int .i64,.int .i64,.str,.str]⟩,
 none,
 none,
 some ⟨10,128,.struct [(0,45),(6,3),(7,3),(8,9),(9,9)],[.bool false,.bool false,.int .i64 0,.str [],.nils,.nils,.int .i64 0,.int .i64 0,.str [],.str []],[.bool,.bool,.int .i64,.str,.bsl,.bsl,.int .i64,.int .i64,.str,.str],[]⟩,
 some ⟨10,128,.struct [(0,45),(6,3),(7,3),(8,9),(9,9)],[.bool false,.bool false,.int .i64 0,.str [],.nils,.nils,.int .i64 0,.int .i64 0,.str [],.str []],[.bool,.bool,.int .i64,.str,.bsl,.bsl,.int .i64,.int .i64,.str,.str],[]⟩,
 some ⟨1,8,.ptr 98,[.nilp],[.ptr],[]⟩,
 some ⟨2,32,.struct [(0,22),(1,3)],[.nils,.int .i64 0],[.bsl,.int .i64],[]⟩,
 some ⟨2,32,.struct [(0,22),(1,3)],[.nils,.int .i64 0],[.bsl,.int .i64],[]⟩,
 none,
 none,
 none,
 none,
 none,
 none,
 none,
 none,
 none,
 none,
 none,
 none,
 some ⟨1,24,.slice 3 false,[.nils],[.sl 1],[]⟩,
 none,
 none,
 none,
 some ⟨3,40,.struct [(0,3),(1,34),(2,22)],[.int .i64 0,.int .u64 0,.nils],[.int .i64,.int .u64,.bsl],[]⟩,
 some ⟨3,40,.struct [(0,3),(1,34),(2,22)],[.int .i64 0,.int .u64 0,.nils],[.int .i64,.int .u64,.bsl],[]⟩,
 none,
 none,
 none,
 none,
 none,
 none,
 none,
 none,
 none,
 none,
 none,
 none,
 none,
 none,
 none,
 none,
 some ⟨1,24,.slice 22 false,[.nils],[.sl 1],[]⟩,
 none,
 none,
 none,
 none,
 none,
 none,
 none,
 none,
 none,
 some ⟨1,8,.int .u64,[.int .u64 0],[.int .u64],[.int .u64]⟩,
 none,
 none,
 none,
 none,
 none,
 none,
 none,
 none,
 some ⟨4,4,.arr 4 5 true,[.u8 0,.u8 0,.u8 0,.u8 0],[.u8,.u8,.u8,.u8],[]⟩,
 none,
 none,
 some ⟨4,40,.struct [(0,17),(1,17),(2,17),(3,9)],[.nilp,.nilp,.nilp,.str []],[.ptr,.ptr,.ptr,.str],[]⟩,
 none,
 some ⟨0,0,.arr 0 16 false,[],[],[]⟩,
 none,
 none,
 some ⟨1,1,.u8,[.u8 0],[.u8],[.u8]⟩,
 some ⟨1,1,.u8,[.u8 0],[.u8],[.u8]⟩,
 none,
 some ⟨1,8,.ptr 5,[.nilp],[.ptr],[]⟩,
 some ⟨1,4,.int .i32,[.int .i32 0],[.int .i32],[.int .i32]⟩,
 some ⟨1,4,.int .i32,[.int .i32 0],[.int .i32],[.int .i32]⟩,
 none,
 none,
 none]
def keepT:List (Nat×Nat×List Keep):=[(15,3,[.cells 4 [.str,.str,.str,.sl 8],.ptr 4 4 0,.cells 12 [.bsl,.int .i64],.ptr 5 12 0,.cellsR 6 [.imm (.str),.imm (.str),.imm (.str),.own 20603 40 8 false],.ptr 6 6 0]),
 (15,7,[.cells 4 [.str,.str,.str,.sl 8],.ptr 4 4 0,.cells 12 [.bsl,.int .i64],.ptr 5 12 0,.cellsR 6 [.imm (.str),.imm (.str),.imm (.str),.own 20603 40 8 false],.ptr 6 6 0,.cells 7 [.str,.str,.str,.int .u64,.int .i64,.int .i64,.int .i64,.bsl],.ptr 7 7 0,.val 8 4,.val 9 3]),
 (25,5,[.val 1 111,.val 4 4,.val 5 41,.val 6 3,.val 7 4,.val 9 3]),
 (40,3,[.cells 0 [.bsl,.int .i64],.ptr 0 0 0,.cells 2 [.str,.str,.str,.int .u64,.int .i64,.int .i64,.int .i64,.bsl],.ptr 2 2 0,.cellsR 3 [.imm (.str),.imm (.str),.imm (.str),.imm (.int .u64),.imm (.int .i64),.imm (.int .i64),.imm (.int .i64),.own 20307 5 1 true],.ptr 3 3 0,.val 4 3]),
 (42,6,[.cells 1 [.str,.str,.str,.sl 8],.ptr 1 1 0,.val 2 41,.val 14 30,.val 15 3,.val 16 3]),
 (53,3,[.val 0 133,.val 3 3,.val 9 133,.val 10 3,.val 11 3]),
 (53,11,[.rowB 6 5 false,.val 25 133,.val 26 3,.val 27 3]),
 (74,2,[.val 0 30,.cells 3 [.str,.str,.str],.ptr 3 3 0,.val 4 3,.val 7 30,.val 8 3,.val 9 3]),
 (75,2,[.val 0 9,.val 1 9,.val 4 4,.val 7 3,.val 8 3]),
 (81,3,[.val 0 22,.val 1 3,.val 2 3,.val 3 4,.barr 9 false,.ptr 9 9 0,.val 12 3,.val 13 3]),
 (85,4,[.val 0 22,.val 1 3,.val 4 9,.val 5 3,.val 6 41,.val 7 3]),
 (87,2,[.val 0 9,.val 1 9,.val 4 4,.val 5 3]),
 (87,7,[.val 0 9,.val 1 9,.val 4 4,.val 5 3,.val 6 3]),
 (88,3,[.val 1 3,.val 2 3,.val 3 4,.rowB 9 5 false,.val 10 3]),
 (89,5,[.val 0 22,.val 4 34,.val 5 3]),
 (95,2,[.rowB 3 5 false]),
 (106,3,[.val 0 34,.rowB 3 5 false,.val 7 3,.val 8 3]),
 (107,6,[.val 2 3,.val 3 4,.val 11 22,.val 12 3,.val 14 3,.val 15 3])]
def ownT:List Nat:=[82,88,95,53,59,94,81,93,51,68]
def rtsT:List (Nat×List Nat):=[(17,[36,22,40,22,41]),(20,[4]),(24,[36]),(26,[3,4,41]),(32,[29]),(34,[36,22,40,22,41]),(38,[4]),(39,[4]),(41,[87]),(49,[4]),(58,[4]),(60,[22]),(61,[22]),(66,[4]),(70,[3]),(71,[34]),(73,[4]),(74,[3]),(80,[4]),(82,[22]),(84,[]),(85,[9,3,41]),(86,[22,3,41]),(87,[4]),(88,[22]),(95,[22]),(100,[22]),(101,[4]),(102,[4]),(105,[4]),(106,[22]),(109,[4]),(110,[4]),(111,[4]),(113,[4]),(114,[34]),(115,[3]),(16,[9]),(25,[4,41]),(35,[29]),(50,[22]),(53,[22]),(55,[9]),(56,[22]),(57,[4]),(59,[22]),(76,[40]),(77,[3]),(92,[22]),(94,[22]),(96,[4]),(97,[4]),(98,[3,3,4]),(107,[3,3,41]),(108,[4]),(112,[3]),(6,[29]),(11,[29]),(28,[22,41]),(46,[40,4]),(47,[4]),(52,[22]),(63,[29]),(69,[4]),(72,[4]),(81,[22]),(83,[3,3,41]),(89,[34,4]),(90,[3,3,41]),(93,[22]),(99,[3]),(104,[22]),(21,[40,41]),(37,[32,41]),(40,[40]),(51,[22]),(54,[3]),(62,[116,3,41]),(64,[3]),(67,[22]),(68,[22]),(75,[4]),(79,[22,41]),(91,[41]),(14,[36,41]),(15,[32]),(29,[22,4]),(43,[4]),(44,[4]),(65,[22,41]),(5,[36]),(8,[45,41]),(30,[49,41]),(45,[4]),(9,[49,41]),(19,[4]),(23,[22,41]),(31,[32,41]),(33,[22,41]),(36,[22,41]),(42,[41]),(103,[41]),(10,[36,41]),(18,[41]),(78,[22,41]),(12,[36,22,41]),(48,[22,41]),(22,[45,41]),(7,[36,22,40,22,41]),(13,[36,22,40,22,41]),(4,[4]),(3,[4])]
def sp17:Abs.Spec:=fun xs bl=>match xs,bl with
 | [.int .i64 e],[]=>some (.tup [.agg [.str [],.str [],.str [],.int .i64 0,.int .i64 0,.bool false,.str [],.str [],.str [],.sl 8 [],.int .i64 0,.str [],.str [],.str [],.int .u64 0,.int .i64 0,.int .i64 0,.int .i64 0,.int .i64 0],.bs [],.agg [.str [],.str [],.str [],.int .u64 0,.int .i64 0,.int .i64 0,.int .i64 0,.bs []],.bs [],.int .i64 e],[])
 | _,_=>none
def sp20:Abs.Spec:=fun xs bl=>match xs,bl with
 | [.int .i64 n,.int .i64 m],[]=>some (.bool (Zb n m),[])
 | _,_=>none
def sp24:Abs.Spec:=fun xs bl=>match xs,bl with
 | [.agg [.str m1,.str m2,.str m3,.int .i64 ad,.int .i64 sk,.bool li,.str o1,.str o2,.str o3,.sl 8 els,.int .i64 wt,.str w1,.str w2,.str w3,.int .u64 se,.int .i64 tm,.int .i64 lf,.int .i64 cs,.int .i64 tc],.agg [.int .i64 aw,.str a1,.str a2,.str a3,.int .u64 as2,.int .i64 at2,.int .i64 al2,.int .i64 ac2,.int .i64 ak2]],[]=>some (.agg [.str m1,.str m2,.str m3,.int .i64 ad,.int .i64 sk,.bool li,.str o1,.str o2,.str o3,.sl 8 els,.int .i64 aw,.str a1,.str a2,.str a3,.int .u64 as2,.int .i64 at2,.int .i64 al2,.int .i64 ac2,.int .i64 ak2],[])
 | _,_=>none
def sp26:Abs.Spec:=fun xs bl=>match xs,bl with
 | [.bs b],[]=>some (.tup [.int .i64 (Kerb.readHead b).kind,.bool (Kerb.readHead b).little,.int .i64 (Kerb.readHead b).err],[])
 | _,_=>none
def sp32:Abs.Spec:=fun xs bl=>match xs,bl with
 | [.str r,.str t],[]=>some (.agg [.str [107,114,98,116,103,116],.str t,.str r],[])
 | _,_=>none
def sp34:Abs.Spec:=fun xs bl=>match xs,bl with
 | [.int .i64 e],[]=>some (.tup [.agg [.str [],.str [],.str [],.int .i64 0,.int .i64 0,.bool false,.str [],.str [],.str [],.sl 8 [],.int .i64 0,.str [],.str [],.str [],.int .u64 0,.int .i64 0,.int .i64 0,.int .i64 0,.int .i64 0],.bs [],.agg [.str [],.str [],.str [],.int .u64 0,.int .i64 0,.int .i64 0,.int .i64 0,.bs []],.bs [],.int .i64 e],[])
 | _,_=>none
def sp38:Abs.Spec:=fun xs bl=>match xs,bl with
 | [.int .i64 n,.int .i64 m],[]=>some (.bool (Zb n m),[])
 | _,_=>none
def sp39:Abs.Spec:=fun xs bl=>match xs,bl with
 | [.ptr 0 0],[(0,[.bs l,.int .i64 pos])]=>some (.bool (decide (pos<(l.length:Int))),[[.bs l,.int .i64 pos]])
 | _,_=>none
def sp41:Abs.Spec:=fun xs bl=>match xs,bl with
 | [],[]=>some (.sl 1 [.str [65,84,72],.str [66,79,83],.str [67,65,77]],[])
 | _,_=>none
def sp49:Abs.Spec:=fun xs bl=>match xs,bl with
 | [.int .i64 n,.int .i64 m],[]=>some (.bool (Zb n m),[])
 | _,_=>none
def sp58:Abs.Spec:=fun xs bl=>match xs,bl with
 | [.int .i64 n,.int .i64 m],[]=>some (.bool (Zb n m),[])
 | _,_=>none
def sp60:Abs.Spec:=fun xs bl=>match xs,bl with
 | [.int .i64 k,.bool little],[]=>some (.bs (Kerb.header k little),[])
 | _,_=>none
def sp61:Abs.Spec:=fun xs bl=>match xs,bl with
 | [.bs b,.str s],[]=>chk (decide (b.length+s.length≤70368744177664)) (some (.bs (Kerb.putText b s),[]))
 | _,_=>none
def sp66:Abs.Spec:=fun xs bl=>match xs,bl with
 | [.int .i64 n,.int .i64 m],[]=>some (.bool (Zb n m),[])
 | _,_=>none
def sp70:Abs.Spec:=fun xs bl=>match xs,bl with
 | [.ptr 0 0,.int .i64 n],[(0,[.bs l,.int .i64 pos])]=>chk (decide (l.length≤4611686018427387904)&&decide (0≤pos)) (some (.int .i64 (Kerb.next l pos n),[[.bs l,.int .i64 (Kerb.nextPos l pos n)]]))
 | _,_=>none
def sp71:Abs.Spec:=fun xs bl=>match xs,bl with
 | [.int .i64 n],[]=>chk (decide (0≤n)&&decide (n≤1000)) (some (.int .u64 (Kerb.session n),[]))
 | _,_=>none
def sp73:Abs.Spec:=fun xs bl=>match xs,bl with
 | [.int .i64 n,.int .i64 m],[]=>some (.bool (Zb n m),[])
 | _,_=>none
def sp74:Abs.Spec:=fun xs bl=>match xs,bl with
 | [.sl 8 els,.agg [.str x,.str y,.str z]],[]=>chk (els.all Yu&&decide (els.length≤1000000)) (some (.int .i64 ((Kerb.credAt (els.map Zy) ⟨x,y,z⟩:Nat):Int),[]))
 | _,_=>none
def sp80:Abs.Spec:=fun xs bl=>match xs,bl with
 | [.int .i64 k],[]=>some (.bool (Kerb.isKind k),[])
 | _,_=>none
def sp82:Abs.Spec:=fun xs bl=>match xs,bl with
 | [.nils,.int .i64 n],[]=>chk (decide (0≤n)&&decide (n≤140737488355328)) (some (.ownB [],[]))
 | _,_=>none
def sp84:Abs.Spec:=fun xs bl=>match xs,bl with
 | [.ptr 0 0,.int .i64 nx,.int .i64 e],[(0,[.bs B,.int .i64 at_,.bool li,.bool bad])]=>some (.tup [],[[.bs B,.int .i64 (cond (bad || !(e==0)) at_ nx),.bool li,.bool (bad || !(e==0))]])
 | _,_=>none
def sp85:Abs.Spec:=fun xs bl=>match xs,bl with
 | [.bs b,.int .i64 pos],[]=>chk (decide (b.length≤140737488355328)) (some (.tup [.str (Kerb.text b pos).val,.int .i64 (Kerb.text b pos).next,.int .i64 (Kerb.text b pos).err],[]))
 | _,_=>none
def sp86:Abs.Spec:=fun xs bl=>match xs,bl with
 | [.bs b,.int .i64 pos,.int .i64 n],[]=>chk (decide (b.length≤140737488355328)) (some (.tup [.bs (Yq b pos n).val,.int .i64 (Yq b pos n).next,.int .i64 (Yq b pos n).err],[]))
 | _,_=>none
def sp87:Abs.Spec:=fun xs bl=>match xs,bl with
 | [.str s,.str bad],[]=>chk (decide (s.length≤9223372036854775807)&&decide (bad.length≤100)) (some (.bool (Kerb.printable s bad&&decide (s.length≤39)),[]))
 | _,_=>none
def sp88:Abs.Spec:=fun xs bl=>match xs,bl with
 | [.bs b,.int .i64 n,.int .i64 k,.bool little],[]=>chk (decide (k=1∨k=2∨k=4)&&decide (b.length≤70368744177664)) (some (.ownB (b++Kerb.putN n k.toNat little),[]))
 | _,_=>none
def sp95:Abs.Spec:=fun xs bl=>match xs,bl with
 | [.bs b],[]=>chk (decide (b.length≤70368744177664)) (some (.ownB (Kerb.pad b),[]))
 | _,_=>none
def sp100:Abs.Spec:=fun xs bl=>match xs,bl with
 | [.bs b],[]=>chk (decide (b.length≤140737488355328)) (some (.bs b,[]))
 | _,_=>none
def sp101:Abs.Spec:=fun xs bl=>match xs,bl with
 | [.int .i64 n],[]=>some (.bool (Zb n 4294967295),[])
 | _,_=>none
def sp102:Abs.Spec:=fun xs bl=>match xs,bl with
 | [.int .i64 n],[]=>some (.bool (Zb n 255),[])
 | _,_=>none
def sp105:Abs.Spec:=fun xs bl=>match xs,bl with
 | [.int .i64 k],[]=>some (.bool (Kerb.isKind k),[])
 | _,_=>none
def sp106:Abs.Spec:=fun xs bl=>match xs,bl with
 | [.int .u64 k],[]=>chk (decide (0≤k)&&decide (k<18446744073709551616)) (some (.bs (Kerb.keyBytes k),[]))
 | _,_=>none
def sp109:Abs.Spec:=fun xs bl=>match xs,bl with
 | [.int .i64 n,.int .i64 m],[]=>some (.bool (Zb n m),[])
 | _,_=>none
def sp110:Abs.Spec:=fun xs bl=>match xs,bl with
 | [.int .i64 k],[]=>some (.bool (Kerb.isClass k),[])
 | _,_=>none
def sp111:Abs.Spec:=fun xs bl=>match xs,bl with
 | [.int .i64 k],[]=>some (.bool (Kerb.isSerial k),[])
 | _,_=>none
def sp113:Abs.Spec:=fun xs bl=>match xs,bl with
 | [.int .i64 n,.int .i64 m],[]=>some (.bool (Zb n m),[])
 | _,_=>none
def sp114:Abs.Spec:=fun xs bl=>match xs,bl with
 | [.int .i64 c,.int .i64 n],[]=>some (.int .u64 (cond (Kerb.isClass c&&Kerb.isSerial n) (c*72057594037927936+n) 0),[])
 | _,_=>none
def sp115:Abs.Spec:=fun xs bl=>match xs,bl with
 | [.str s,.u8 c],[]=>some (.int .i64 (Kerb.indexOf c s),[])
 | _,_=>none
def sp16:Abs.Spec:=fun xs bl=>match xs,bl with
 | [.int .i64 n],[]=>chk (decide (0≤n)) (some (.str (Kerb.realm n),[]))
 | _,_=>none
def sp25:Abs.Spec:=fun xs bl=>match xs,bl with
 | [.bs b,.sl 1 els],[]=>chk (allInts els&&decide (els.length≤1000)) (some (.tup [.bool (Kerb.headIs b (intsIn els)).1,.int .i64 (Kerb.headIs b (intsIn els)).2],[]))
 | _,_=>none
def sp35:Abs.Spec:=fun xs bl=>match xs,bl with
 | [.agg [.str m1,.str m2,.str m3],.agg [.str x,.str y,.str z]],[]=>some (.agg [.str [107,114,98,116,103,116],.str z,.str m3],[])
 | _,_=>none
def sp50:Abs.Spec:=fun xs bl=>match xs,bl with
 | [.int .i64 k,.bool little],[]=>some (.bs (Kerb.header k little),[])
 | _,_=>none
def sp53:Abs.Spec:=fun xs bl=>match xs,bl with
 | [.sl 1 els],[]=>chk (allB els&&decide ((catB els).length≤140737488355328)&&decide (els.length≤1000)) (some (.ownB (catB els),[]))
 | _,_=>none
def sp55:Abs.Spec:=fun xs bl=>match xs,bl with
 | [.ptr 0 0],[(0,[.bs B,.int .i64 at_,.bool li,.bool bad])]=>chk (decide (B.length≤140737488355328)) (some (.str (Kerb.text B at_).val,[[.bs B,.int .i64 (cond (bad || !((Kerb.text B at_).err==0)) at_ (Kerb.text B at_).next),.bool li,.bool (bad || !((Kerb.text B at_).err==0))]]))
 | _,_=>none
def sp56:Abs.Spec:=fun xs bl=>match xs,bl with
 | [.ptr 0 0,.int .i64 n],[(0,[.bs B,.int .i64 at_,.bool li,.bool bad])]=>chk (decide (B.length≤140737488355328)) (some (.bs (Yq B at_ n).val,[[.bs B,.int .i64 (cond (bad || !((Yq B at_ n).err==0)) at_ (Yq B at_ n).next),.bool li,.bool (bad || !((Yq B at_ n).err==0))]]))
 | _,_=>none
def sp57:Abs.Spec:=fun xs bl=>match xs,bl with
 | [.str s],[]=>chk (decide (s.length≤9223372036854775807)) (some (.bool (Kerb.validRealm s),[]))
 | _,_=>none
def sp59:Abs.Spec:=fun xs bl=>match xs,bl with
 | [.bs b,.int .i64 n],[]=>chk (decide (b.length≤70368744177664)) (some (.ownB (b++Kerb.putN n 1 false),[]))
 | _,_=>none
def sp76:Abs.Spec:=fun xs bl=>match xs,bl with
 | [.agg [.str x,.str y,.str z,.int .u64 k,.int .i64 lf,.int .i64 kv,.int .i64 iss,.bs tk]],[]=>chk (decide (tk.length≤140737488355328)) (some (.agg [.str x,.str y,.str z,.int .u64 k,.int .i64 lf,.int .i64 kv,.int .i64 iss,.bs tk],[]))
 | _,_=>none
def sp77:Abs.Spec:=fun xs bl=>match xs,bl with
 | [.int .i64 i,.int .i64 l],[]=>some (.int .i64 (Kerb.tEnd i l),[])
 | _,_=>none
def sp92:Abs.Spec:=fun xs bl=>match xs,bl with
 | [.bs b,.agg [.str x,.str y,.str z]],[]=>chk (decide (b.length+x.length+y.length+z.length≤70368744170000)) (some (.bs (Kerb.putPrin b ⟨x,y,z⟩),[]))
 | _,_=>none
def sp94:Abs.Spec:=fun xs bl=>match xs,bl with
 | [.bs b,.int .i64 n,.bool little],[]=>chk (decide (b.length≤70368744177664)) (some (.ownB (b++Kerb.putN n 4 little),[]))
 | _,_=>none
def sp96:Abs.Spec:=fun xs bl=>match xs,bl with
 | [.str s],[]=>chk (decide (s.length≤9223372036854775807)) (some (.bool (Kerb.validName s),[]))
 | _,_=>none
def sp97:Abs.Spec:=fun xs bl=>match xs,bl with
 | [.str s],[]=>chk (decide (s.length≤9223372036854775807)) (some (.bool (Kerb.validInst s),[]))
 | _,_=>none
def sp98:Abs.Spec:=fun xs bl=>match xs,bl with
 | [.int .u64 k],[]=>chk (decide (0≤k)&&decide (k<18446744073709551616)) (some (.tup [.int .i64 (cond (Yj k) (Kerb.keyClass k) 0),.int .i64 (cond (Yj k) (Kerb.keySerial k) 0),.bool (Yj k)],[]))
 | _,_=>none
def sp107:Abs.Spec:=fun xs bl=>match xs,bl with
 | [.bs b,.int .i64 pos,.int .i64 k,.bool little],[]=>chk (decide (b.length≤140737488355328)&&decide (0≤k)&&decide (k≤4)) (some (.tup [.int .i64 (Zk b pos k little).val,.int .i64 (Zk b pos k little).next,.int .i64 (Zk b pos k little).err],[]))
 | _,_=>none
def sp108:Abs.Spec:=fun xs bl=>match xs,bl with
 | [.int .u64 k],[]=>chk (decide (0≤k)&&decide (k<18446744073709551616)) (some (.bool (Yj k),[]))
 | _,_=>none
def sp112:Abs.Spec:=fun xs bl=>match xs,bl with
 | [.str s,.u8 c],[]=>some (.int .i64 (Kerb.indexOf c s),[])
 | _,_=>none
def sp6:Abs.Spec:=fun xs bl=>match xs,bl with
 | [.int .i64 n],[]=>chk (decide (0≤n)&&decide (n≤4611686018427387904)) (some (.agg [.str (Kerb.service n).name,.str (Kerb.service n).inst,.str (Kerb.service n).realm],[]))
 | _,_=>none
def sp11:Abs.Spec:=fun xs bl=>match xs,bl with
 | [.int .i64 n],[]=>chk (decide (0≤n)&&decide (n≤4611686018427387904)) (some (.agg [.str (Kerb.user n).name,.str (Kerb.user n).inst,.str (Kerb.user n).realm],[]))
 | _,_=>none
def sp28:Abs.Spec:=fun xs bl=>match xs,bl with
 | [.agg [.bool li,.bool mu,.int .i64 kv,.str rl,.bs tk,.bs au]],[]=>chk (decide (rl.length≤9223372036854775807)) (some (.tup [.bs (Kerb.encodeAp (Zg li mu kv rl tk au)).val,.int .i64 (Kerb.encodeAp (Zg li mu kv rl tk au)).err],[]))
 | _,_=>none
def sp46:Abs.Spec:=fun xs bl=>match xs,bl with
 | [.agg [.str o1,.str o2,.str o3,.sl 8 els],.agg [.str x,.str y,.str z]],[]=>chk (els.all Yu&&decide (els.length≤1000000)&&els.all Kerb.fitCred) (some (.tup [.agg [.str ((Zn (els.map Zy) ⟨x,y,z⟩).1).service.name,.str ((Zn (els.map Zy) ⟨x,y,z⟩).1).service.inst,.str ((Zn (els.map Zy) ⟨x,y,z⟩).1).service.realm,.int .u64 ((Zn (els.map Zy) ⟨x,y,z⟩).1).session,.int .i64 ((Zn (els.map Zy) ⟨x,y,z⟩).1).life,.int .i64 ((Zn (els.map Zy) ⟨x,y,z⟩).1).kvno,.int .i64 ((Zn (els.map Zy) ⟨x,y,z⟩).1).issued,.bs ((Zn (els.map Zy) ⟨x,y,z⟩).1).ticket],.bool (Zn (els.map Zy) ⟨x,y,z⟩).2],[]))
 | _,_=>none
def sp47:Abs.Spec:=fun xs bl=>match xs,bl with
 | [.agg [.str x,.str y,.str z,.int .u64 k,.int .i64 lf,.int .i64 kv,.int .i64 iss,.bs tk],.int .i64 now],[]=>some (.bool ((Yz ⟨x,y,z⟩ k lf kv iss tk).expired now),[])
 | _,_=>none
def sp52:Abs.Spec:=fun xs bl=>match xs,bl with
 | [.bs b,.str s],[]=>chk (decide (b.length+s.length≤70368744177664)) (some (.bs (Kerb.putText b s),[]))
 | _,_=>none
def sp63:Abs.Spec:=fun xs bl=>match xs,bl with
 | [.ptr 0 0],[(0,[.bs B,.int .i64 at_,.bool li,.bool bad])]=>chk (decide (B.length≤140737488355328)) (some (.agg [.str (Kerb.rdPrin B at_ bad).p.name,.str (Kerb.rdPrin B at_ bad).p.inst,.str (Kerb.rdPrin B at_ bad).p.realm],[[.bs B,.int .i64 (Kerb.rdPrin B at_ bad).pos,.bool li,.bool (Kerb.rdPrin B at_ bad).bad]]))
 | _,_=>none
def sp69:Abs.Spec:=fun xs bl=>match xs,bl with
 | [.agg [.str a,.str b,.str c]],[]=>chk (decide (a.length≤9223372036854775807)&&decide (b.length≤9223372036854775807)&&decide (c.length≤9223372036854775807)) (some (.bool (Zj ⟨a,b,c⟩),[]))
 | _,_=>none
def sp72:Abs.Spec:=fun xs bl=>match xs,bl with
 | [.int .u64 k],[]=>chk (decide (0≤k)&&decide (k<18446744073709551616)) (some (.bool (Yj k),[]))
 | _,_=>none
def sp81:Abs.Spec:=fun xs bl=>match xs,bl with
 | [.bs b,.int .i64 n,.int .i64 k,.bool little],[]=>chk (decide (k=1∨k=2∨k=4)&&decide (b.length≤70368744177664)) (some (.ownB (b++Kerb.putN n k.toNat little),[]))
 | _,_=>none
def sp83:Abs.Spec:=fun xs bl=>match xs,bl with
 | [.bs b,.int .i64 pos],[]=>chk (decide (b.length≤140737488355328)) (some (.tup [.int .i64 (Zk b pos 1 false).val,.int .i64 (Zk b pos 1 false).next,.int .i64 (Zk b pos 1 false).err],[]))
 | _,_=>none
def sp89:Abs.Spec:=fun xs bl=>match xs,bl with
 | [.bs b],[]=>chk (decide (b.length≤4611686018427387904)) (some (.tup [.int .u64 (Kerb.keyRead b).1,.bool (Kerb.keyRead b).2],[]))
 | _,_=>none
def sp90:Abs.Spec:=fun xs bl=>match xs,bl with
 | [.bs b,.int .i64 pos,.bool little],[]=>chk (decide (b.length≤140737488355328)) (some (.tup [.int .i64 (Zk b pos 4 little).val,.int .i64 (Zk b pos 4 little).next,.int .i64 (Zk b pos 4 little).err],[]))
 | _,_=>none
def sp93:Abs.Spec:=fun xs bl=>match xs,bl with
 | [.bs b,.bool little],[]=>chk (decide (b.length≤70368744177664)) (some (.ownB (b++Kerb.putN (cond little 1 0) 1 false),[]))
 | _,_=>none
def sp99:Abs.Spec:=fun xs bl=>match xs,bl with
 | [.str s,.u8 c],[]=>some (.int .i64 (Kerb.indexOf c s),[])
 | _,_=>none
def sp104:Abs.Spec:=fun xs bl=>match xs,bl with
 | [.bs b],[]=>chk (decide (b.length≤70368744177664)) (some (.bs (Kerb.pad b),[]))
 | _,_=>none
def sp21:Abs.Spec:=fun xs bl=>match xs,bl with
 | [.agg [.str o1,.str o2,.str o3,.sl 8 els],.agg [.str x,.str y,.str z],.int .i64 now],[]=>chk (els.all Yu&&decide (els.length≤1000000)&&els.all Kerb.fitCred) (some (.tup [.agg [.str ((Zd (els.map Zy) ⟨x,y,z⟩ now).val).service.name,.str ((Zd (els.map Zy) ⟨x,y,z⟩ now).val).service.inst,.str ((Zd (els.map Zy) ⟨x,y,z⟩ now).val).service.realm,.int .u64 ((Zd (els.map Zy) ⟨x,y,z⟩ now).val).session,.int .i64 ((Zd (els.map Zy) ⟨x,y,z⟩ now).val).life,.int .i64 ((Zd (els.map Zy) ⟨x,y,z⟩ now).val).kvno,.int .i64 ((Zd (els.map Zy) ⟨x,y,z⟩ now).val).issued,.bs ((Zd (els.map Zy) ⟨x,y,z⟩ now).val).ticket],.int .i64 (Zd (els.map Zy) ⟨x,y,z⟩ now).err],[]))
 | _,_=>none
def sp37:Abs.Spec:=fun xs bl=>match xs,bl with
 | [.agg [.str x,.str y,.str z]],[]=>chk (decide (x.length≤9223372036854775807)&&decide (y.length≤9223372036854775807)&&decide (z.length≤9223372036854775807)) (some (.tup [.agg [.str (cond (Zj ⟨x,y,z⟩) (Zp ⟨x,y,z⟩ []) Yx).owner.name,.str (cond (Zj ⟨x,y,z⟩) (Zp ⟨x,y,z⟩ []) Yx).owner.inst,.str (cond (Zj ⟨x,y,z⟩) (Zp ⟨x,y,z⟩ []) Yx).owner.realm,.sl 8 ((cond (Zj ⟨x,y,z⟩) (Zp ⟨x,y,z⟩ []) Yx).creds.map Zf)],.int .i64 (cond (Zj ⟨x,y,z⟩) 0 103)],[]))
 | _,_=>none
def sp40:Abs.Spec:=fun xs bl=>match xs,bl with
 | [.ptr 0 0],[(0,[.bs l,.int .i64 pos])]=>chk (decide (l.length≤1000000)&&decide (0≤pos)) (some (.agg [.str (Zh l pos).service.name,.str (Zh l pos).service.inst,.str (Zh l pos).service.realm,.int .u64 (Zh l pos).session,.int .i64 (Zh l pos).life,.int .i64 (Zh l pos).kvno,.int .i64 (Zh l pos).issued,.bs (Zh l pos).ticket],[[.bs l,.int .i64 (Kerb.dataPos l pos)]]))
 | _,_=>none
def sp51:Abs.Spec:=fun xs bl=>match xs,bl with
 | [.bs b,.int .i64 n],[]=>chk (decide (b.length≤70368744177664)) (some (.ownB (b++Kerb.putN n 1 false),[]))
 | _,_=>none
def sp54:Abs.Spec:=fun xs bl=>match xs,bl with
 | [.ptr 0 0],[(0,[.bs B,.int .i64 at_,.bool li,.bool bad])]=>chk (decide (B.length≤140737488355328)) (some (.int .i64 (Zk B at_ 1 false).val,[[.bs B,.int .i64 (cond (bad || !((Zk B at_ 1 false).err==0)) at_ (Zk B at_ 1 false).next),.bool li,.bool (bad || !((Zk B at_ 1 false).err==0))]]))
 | _,_=>none
def sp62:Abs.Spec:=fun xs bl=>match xs,bl with
 | [.bs b],[]=>chk (decide (b.length≤140737488355328)) (some (.tup [.agg [.int .i64 (Kerb.readBox b).box.kind,.int .u64 (Kerb.readBox b).box.key,.bs (Kerb.readBox b).box.body],.int .i64 (Kerb.readBox b).n,.int .i64 (Kerb.readBox b).err],[]))
 | _,_=>none
def sp64:Abs.Spec:=fun xs bl=>match xs,bl with
 | [.ptr 0 0],[(0,[.bs B,.int .i64 at_,.bool li,.bool bad])]=>chk (decide (B.length≤140737488355328)) (some (.int .i64 (Zk B at_ 4 li).val,[[.bs B,.int .i64 (cond (bad || !((Zk B at_ 4 li).err==0)) at_ (Zk B at_ 4 li).next),.bool li,.bool (bad || !((Zk B at_ 4 li).err==0))]]))
 | _,_=>none
def sp67:Abs.Spec:=fun xs bl=>match xs,bl with
 | [.bs b,.agg [.str x,.str y,.str z]],[]=>chk (decide (b.length+x.length+y.length+z.length≤70368744170000)) (some (.bs (Kerb.putPrin b ⟨x,y,z⟩),[]))
 | _,_=>none
def sp68:Abs.Spec:=fun xs bl=>match xs,bl with
 | [.bs b,.int .i64 n,.bool little],[]=>chk (decide (b.length≤70368744177664)) (some (.ownB (b++Kerb.putN n 4 little),[]))
 | _,_=>none
def sp75:Abs.Spec:=fun xs bl=>match xs,bl with
 | [.str s,.str bad],[]=>chk (decide (s.length≤9223372036854775807)) (some (.bool (Kerb.printable s bad),[]))
 | _,_=>none
def sp79:Abs.Spec:=fun xs bl=>match xs,bl with
 | [.int .i64 kd,.int .u64 k,.bs bd],[]=>chk (decide (0≤k)&&decide (k<18446744073709551616)) (some (.tup [.bs (Kerb.makeBox kd k bd).val,.int .i64 (Kerb.makeBox kd k bd).err],[]))
 | _,_=>none
def sp91:Abs.Spec:=fun xs bl=>match xs,bl with
 | [.agg [.str x,.str y,.str z,.int .i64 ck,.int .i64 tc,.int .i64 tm]],[]=>chk (decide (x.length≤9223372036854775807)&&decide (y.length≤9223372036854775807)&&decide (z.length≤9223372036854775807)) (some (.int .i64 (Yy ⟨x,y,z⟩ ck tc tm).check,[]))
 | _,_=>none
def sp14:Abs.Spec:=fun xs bl=>match xs,bl with
 | [.agg [.str x,.str y,.str z],.int .i64 ad,.int .i64 sk,.bool li],[]=>chk (decide (x.length≤9223372036854775807)&&decide (y.length≤9223372036854775807)&&decide (z.length≤9223372036854775807)) (some (.tup [.agg [.str ((Zx ⟨x,y,z⟩ ad sk li).val).me.name,.str ((Zx ⟨x,y,z⟩ ad sk li).val).me.inst,.str ((Zx ⟨x,y,z⟩ ad sk li).val).me.realm,.int .i64 ((Zx ⟨x,y,z⟩ ad sk li).val).address,.int .i64 ((Zx ⟨x,y,z⟩ ad sk li).val).skew,.bool ((Zx ⟨x,y,z⟩ ad sk li).val).little,.str ((Zx ⟨x,y,z⟩ ad sk li).val).cache.owner.name,.str ((Zx ⟨x,y,z⟩ ad sk li).val).cache.owner.inst,.str ((Zx ⟨x,y,z⟩ ad sk li).val).cache.owner.realm,.sl 8 (((Zx ⟨x,y,z⟩ ad sk li).val).cache.creds.map Zf),.int .i64 ((Zx ⟨x,y,z⟩ ad sk li).val).wait,.str ((Zx ⟨x,y,z⟩ ad sk li).val).wanted.name,.str ((Zx ⟨x,y,z⟩ ad sk li).val).wanted.inst,.str ((Zx ⟨x,y,z⟩ ad sk li).val).wanted.realm,.int .u64 ((Zx ⟨x,y,z⟩ ad sk li).val).session,.int .i64 ((Zx ⟨x,y,z⟩ ad sk li).val).time,.int .i64 ((Zx ⟨x,y,z⟩ ad sk li).val).life,.int .i64 ((Zx ⟨x,y,z⟩ ad sk li).val).checksum,.int .i64 ((Zx ⟨x,y,z⟩ ad sk li).val).tick],.int .i64 (Zx ⟨x,y,z⟩ ad sk li).err],[]))
 | _,_=>none
def sp15:Abs.Spec:=fun xs bl=>match xs,bl with
 | [.bs l,.int .i64 n],[]=>chk (decide (l.length≤1000000)&&decide (0≤n)&&decide (n≤1000)) (some (.agg [.str (Kerb.dataCache l n).owner.name,.str (Kerb.dataCache l n).owner.inst,.str (Kerb.dataCache l n).owner.realm,.sl 8 ((Kerb.dataCache l n).creds.map Zf)],[]))
 | _,_=>none
def sp29:Abs.Spec:=fun xs bl=>match xs,bl with
 | [.bs b,.int .i64 kd,.int .u64 k],[]=>chk (decide (b.length≤140737488355328)) (some (.tup [.bs (Kerb.openBox b kd k).1,.bool (Kerb.openBox b kd k).2],[]))
 | _,_=>none
def sp43:Abs.Spec:=fun xs bl=>match xs,bl with
 | [.str s],[]=>chk (decide (s.length≤9223372036854775807)) (some (.bool (Kerb.validName s),[]))
 | _,_=>none
def sp44:Abs.Spec:=fun xs bl=>match xs,bl with
 | [.str s],[]=>chk (decide (s.length≤9223372036854775807)) (some (.bool (Kerb.validInst s),[]))
 | _,_=>none
def sp65:Abs.Spec:=fun xs bl=>match xs,bl with
 | [.agg [.str x,.str y,.str z,.int .i64 ck,.int .i64 tc,.int .i64 tm],.bool li],[]=>chk (decide (x.length≤9223372036854775807)&&decide (y.length≤9223372036854775807)&&decide (z.length≤9223372036854775807)) (some (.tup [.bs (Kerb.encodeAuth (Yy ⟨x,y,z⟩ ck tc tm) li).val,.int .i64 (Kerb.encodeAuth (Yy ⟨x,y,z⟩ ck tc tm) li).err],[]))
 | _,_=>none
def sp5:Abs.Spec:=fun xs bl=>match xs,bl with
 | [.agg [.u8 pw,.u8 ps,.bool pl,.bs pc]],[]=>some (.agg [.str (Zv pw ps pl pc).me.name,.str (Zv pw ps pl pc).me.inst,.str (Zv pw ps pl pc).me.realm,.int .i64 (Zv pw ps pl pc).address,.int .i64 (Zv pw ps pl pc).skew,.bool (Zv pw ps pl pc).little,.str (Zv pw ps pl pc).cache.owner.name,.str (Zv pw ps pl pc).cache.owner.inst,.str (Zv pw ps pl pc).cache.owner.realm,.sl 8 ((Zv pw ps pl pc).cache.creds.map Zf),.int .i64 (Zv pw ps pl pc).wait,.str (Zv pw ps pl pc).wanted.name,.str (Zv pw ps pl pc).wanted.inst,.str (Zv pw ps pl pc).wanted.realm,.int .u64 (Zv pw ps pl pc).session,.int .i64 (Zv pw ps pl pc).time,.int .i64 (Zv pw ps pl pc).life,.int .i64 (Zv pw ps pl pc).checksum,.int .i64 (Zv pw ps pl pc).tick],[])
 | _,_=>none
def sp8:Abs.Spec:=fun xs bl=>match xs,bl with
 | [.bs b],[]=>chk (decide (b.length≤140737488355328)) (some (.tup [.agg [.bool ((Yv b).val).little,.bool ((Yv b).val).mutual_,.int .i64 ((Yv b).val).kvno,.str ((Yv b).val).realm,.bs ((Yv b).val).ticket,.bs ((Yv b).val).auth],.int .i64 (Yv b).err],[]))
 | _,_=>none
def sp30:Abs.Spec:=fun xs bl=>match xs,bl with
 | [.bs b,.bool li],[]=>chk (decide (b.length≤140737488355328)) (some (.tup [.agg [.str ((Zm b li).val).client.name,.str ((Zm b li).val).client.inst,.str ((Zm b li).val).client.realm,.int .i64 ((Zm b li).val).checksum,.int .i64 ((Zm b li).val).tick,.int .i64 ((Zm b li).val).time],.int .i64 (Zm b li).err],[]))
 | _,_=>none
def sp45:Abs.Spec:=fun xs bl=>match xs,bl with
 | [.str s],[]=>chk (decide (s.length≤9223372036854775807)) (some (.bool (Kerb.validRealm s),[]))
 | _,_=>none
def sp9:Abs.Spec:=fun xs bl=>match xs,bl with
 | [.bs b,.bool li,.int .u64 k],[]=>chk (decide (b.length≤140737488355328)) (some (.tup [.agg [.str ((Yw b li k).val).client.name,.str ((Yw b li k).val).client.inst,.str ((Yw b li k).val).client.realm,.int .i64 ((Yw b li k).val).checksum,.int .i64 ((Yw b li k).val).tick,.int .i64 ((Yw b li k).val).time],.int .i64 (Yw b li k).err],[]))
 | _,_=>none
def sp19:Abs.Spec:=fun xs bl=>match xs,bl with
 | [.agg [.str a,.str b,.str c]],[]=>chk (decide (a.length≤9223372036854775807)&&decide (b.length≤9223372036854775807)&&decide (c.length≤9223372036854775807)) (some (.bool (Zj ⟨a,b,c⟩),[]))
 | _,_=>none
def sp23:Abs.Spec:=fun xs bl=>match xs,bl with
 | [.agg [.bool li,.bool mu,.int .i64 kv,.str rl,.bs tk,.bs au]],[]=>chk (decide (rl.length≤9223372036854775807)) (some (.tup [.bs (Kerb.encodeAp (Zg li mu kv rl tk au)).val,.int .i64 (Kerb.encodeAp (Zg li mu kv rl tk au)).err],[]))
 | _,_=>none
def sp31:Abs.Spec:=fun xs bl=>match xs,bl with
 | [.agg [.str x,.str y,.str z]],[]=>chk (decide (x.length≤9223372036854775807)&&decide (y.length≤9223372036854775807)&&decide (z.length≤9223372036854775807)) (some (.tup [.agg [.str (cond (Zj ⟨x,y,z⟩) (Zp ⟨x,y,z⟩ []) Yx).owner.name,.str (cond (Zj ⟨x,y,z⟩) (Zp ⟨x,y,z⟩ []) Yx).owner.inst,.str (cond (Zj ⟨x,y,z⟩) (Zp ⟨x,y,z⟩ []) Yx).owner.realm,.sl 8 ((cond (Zj ⟨x,y,z⟩) (Zp ⟨x,y,z⟩ []) Yx).creds.map Zf)],.int .i64 (cond (Zj ⟨x,y,z⟩) 0 103)],[]))
 | _,_=>none
def sp33:Abs.Spec:=fun xs bl=>match xs,bl with
 | [.agg [.bool li,.str x,.str y,.str z,.int .i64 t,.int .i64 lf,.str sv,.str ins]],[]=>chk (decide (x.length≤9223372036854775807)&&decide (y.length≤9223372036854775807)&&decide (z.length≤9223372036854775807)&&decide (sv.length≤9223372036854775807)&&decide (ins.length≤9223372036854775807)) (some (.tup [.bs (Kerb.encodeRequest ⟨li,⟨x,y,z⟩,t,lf,sv,ins⟩).val,.int .i64 (Kerb.encodeRequest ⟨li,⟨x,y,z⟩,t,lf,sv,ins⟩).err],[]))
 | _,_=>none
def sp36:Abs.Spec:=fun xs bl=>match xs,bl with
 | [.agg [.bool li,.bool mu,.int .i64 kv,.str rl,.bs tk,.bs au,.int .i64 tm,.int .i64 lf,.str sv,.str ins]],[]=>chk (decide (rl.length≤9223372036854775807)&&decide (sv.length≤9223372036854775807)&&decide (ins.length≤9223372036854775807)) (some (.tup [.bs (Kerb.encodeTgs (Kerb.TgsRequest.mk (Zg li mu kv rl tk au) tm lf sv ins)).val,.int .i64 (Kerb.encodeTgs (Kerb.TgsRequest.mk (Zg li mu kv rl tk au) tm lf sv ins)).err],[]))
 | _,_=>none
def sp42:Abs.Spec:=fun xs bl=>match xs,bl with
 | [.agg [.str o1,.str o2,.str o3,.sl 8 els]],[]=>chk (decide (o1.length≤9223372036854775807)&&decide (o2.length≤9223372036854775807)&&decide (o3.length≤9223372036854775807)&&els.all Yu&&decide (els.length≤1000000)) (some (.int .i64 (Zp ⟨o1,o2,o3⟩ (els.map Zy)).err,[]))
 | _,_=>none
def sp103:Abs.Spec:=fun xs bl=>match xs,bl with
 | [.agg [.str x,.str y,.str z,.int .i64 ck,.int .i64 tc,.int .i64 tm]],[]=>chk (decide (x.length≤9223372036854775807)&&decide (y.length≤9223372036854775807)&&decide (z.length≤9223372036854775807)) (some (.int .i64 (Yy ⟨x,y,z⟩ ck tc tm).check,[]))
 | _,_=>none
def sp10:Abs.Spec:=fun xs bl=>match xs,bl with
 | [.agg [.str x,.str y,.str z],.int .i64 ad,.int .i64 sk,.bool li],[]=>chk (decide (x.length≤9223372036854775807)&&decide (y.length≤9223372036854775807)&&decide (z.length≤9223372036854775807)) (some (.tup [.agg [.str ((Zx ⟨x,y,z⟩ ad sk li).val).me.name,.str ((Zx ⟨x,y,z⟩ ad sk li).val).me.inst,.str ((Zx ⟨x,y,z⟩ ad sk li).val).me.realm,.int .i64 ((Zx ⟨x,y,z⟩ ad sk li).val).address,.int .i64 ((Zx ⟨x,y,z⟩ ad sk li).val).skew,.bool ((Zx ⟨x,y,z⟩ ad sk li).val).little,.str ((Zx ⟨x,y,z⟩ ad sk li).val).cache.owner.name,.str ((Zx ⟨x,y,z⟩ ad sk li).val).cache.owner.inst,.str ((Zx ⟨x,y,z⟩ ad sk li).val).cache.owner.realm,.sl 8 (((Zx ⟨x,y,z⟩ ad sk li).val).cache.creds.map Zf),.int .i64 ((Zx ⟨x,y,z⟩ ad sk li).val).wait,.str ((Zx ⟨x,y,z⟩ ad sk li).val).wanted.name,.str ((Zx ⟨x,y,z⟩ ad sk li).val).wanted.inst,.str ((Zx ⟨x,y,z⟩ ad sk li).val).wanted.realm,.int .u64 ((Zx ⟨x,y,z⟩ ad sk li).val).session,.int .i64 ((Zx ⟨x,y,z⟩ ad sk li).val).time,.int .i64 ((Zx ⟨x,y,z⟩ ad sk li).val).life,.int .i64 ((Zx ⟨x,y,z⟩ ad sk li).val).checksum,.int .i64 ((Zx ⟨x,y,z⟩ ad sk li).val).tick],.int .i64 (Zx ⟨x,y,z⟩ ad sk li).err],[]))
 | _,_=>none
def sp18:Abs.Spec:=fun xs bl=>match xs,bl with
 | [.agg [.str m1,.str m2,.str m3,.int .i64 ad,.int .i64 sk,.bool li,.str o1,.str o2,.str o3,.sl 8 els,.int .i64 wt,.str w1,.str w2,.str w3,.int .u64 se,.int .i64 tm,.int .i64 lf,.int .i64 cs,.int .i64 tc]],[]=>chk (decide (m1.length≤9223372036854775807)&&decide (m2.length≤9223372036854775807)&&decide (m3.length≤9223372036854775807)&&decide (o1.length≤9223372036854775807)&&decide (o2.length≤9223372036854775807)&&decide (o3.length≤9223372036854775807)&&els.all Yu&&decide (els.length≤1000000)) (some (.int .i64 (Zz ⟨m1,m2,m3⟩ ad sk li ⟨⟨o1,o2,o3⟩,els.map Zy⟩ wt ⟨w1,w2,w3⟩ se tm lf cs tc).err,[]))
 | _,_=>none
def sp78:Abs.Spec:=fun xs bl=>match xs,bl with
 | [.agg [.str x,.str y,.str z,.int .i64 ck,.int .i64 tc,.int .i64 tm],.bool li],[]=>chk (decide (x.length≤9223372036854775807)&&decide (y.length≤9223372036854775807)&&decide (z.length≤9223372036854775807)) (some (.tup [.bs (Kerb.encodeAuth (Yy ⟨x,y,z⟩ ck tc tm) li).val,.int .i64 (Kerb.encodeAuth (Yy ⟨x,y,z⟩ ck tc tm) li).err],[]))
 | _,_=>none
def sp12:Abs.Spec:=fun xs bl=>match xs,bl with
 | [.agg [.str m1,.str m2,.str m3,.int .i64 ad,.int .i64 sk,.bool li,.str o1,.str o2,.str o3,.sl 8 els,.int .i64 wt,.str w1,.str w2,.str w3,.int .u64 se,.int .i64 tm,.int .i64 lf,.int .i64 cs,.int .i64 tc],.int .i64 life,.int .i64 now],[]=>chk (decide (m1.length≤9223372036854775807)&&decide (m2.length≤9223372036854775807)&&decide (m3.length≤9223372036854775807)&&decide (o1.length≤9223372036854775807)&&decide (o2.length≤9223372036854775807)&&decide (o3.length≤9223372036854775807)&&els.all Yu&&decide (els.length≤1000000)) (some (.tup [.agg [.str ((Zq (Zz ⟨m1,m2,m3⟩ ad sk li ⟨⟨o1,o2,o3⟩,els.map Zy⟩ wt ⟨w1,w2,w3⟩ se tm lf cs tc) life now).c).me.name,.str ((Zq (Zz ⟨m1,m2,m3⟩ ad sk li ⟨⟨o1,o2,o3⟩,els.map Zy⟩ wt ⟨w1,w2,w3⟩ se tm lf cs tc) life now).c).me.inst,.str ((Zq (Zz ⟨m1,m2,m3⟩ ad sk li ⟨⟨o1,o2,o3⟩,els.map Zy⟩ wt ⟨w1,w2,w3⟩ se tm lf cs tc) life now).c).me.realm,.int .i64 ((Zq (Zz ⟨m1,m2,m3⟩ ad sk li ⟨⟨o1,o2,o3⟩,els.map Zy⟩ wt ⟨w1,w2,w3⟩ se tm lf cs tc) life now).c).address,.int .i64 ((Zq (Zz ⟨m1,m2,m3⟩ ad sk li ⟨⟨o1,o2,o3⟩,els.map Zy⟩ wt ⟨w1,w2,w3⟩ se tm lf cs tc) life now).c).skew,.bool ((Zq (Zz ⟨m1,m2,m3⟩ ad sk li ⟨⟨o1,o2,o3⟩,els.map Zy⟩ wt ⟨w1,w2,w3⟩ se tm lf cs tc) life now).c).little,.str ((Zq (Zz ⟨m1,m2,m3⟩ ad sk li ⟨⟨o1,o2,o3⟩,els.map Zy⟩ wt ⟨w1,w2,w3⟩ se tm lf cs tc) life now).c).cache.owner.name,.str ((Zq (Zz ⟨m1,m2,m3⟩ ad sk li ⟨⟨o1,o2,o3⟩,els.map Zy⟩ wt ⟨w1,w2,w3⟩ se tm lf cs tc) life now).c).cache.owner.inst,.str ((Zq (Zz ⟨m1,m2,m3⟩ ad sk li ⟨⟨o1,o2,o3⟩,els.map Zy⟩ wt ⟨w1,w2,w3⟩ se tm lf cs tc) life now).c).cache.owner.realm,.sl 8 (((Zq (Zz ⟨m1,m2,m3⟩ ad sk li ⟨⟨o1,o2,o3⟩,els.map Zy⟩ wt ⟨w1,w2,w3⟩ se tm lf cs tc) life now).c).cache.creds.map Zf),.int .i64 ((Zq (Zz ⟨m1,m2,m3⟩ ad sk li ⟨⟨o1,o2,o3⟩,els.map Zy⟩ wt ⟨w1,w2,w3⟩ se tm lf cs tc) life now).c).wait,.str ((Zq (Zz ⟨m1,m2,m3⟩ ad sk li ⟨⟨o1,o2,o3⟩,els.map Zy⟩ wt ⟨w1,w2,w3⟩ se tm lf cs tc) life now).c).wanted.name,.str ((Zq (Zz ⟨m1,m2,m3⟩ ad sk li ⟨⟨o1,o2,o3⟩,els.map Zy⟩ wt ⟨w1,w2,w3⟩ se tm lf cs tc) life now).c).wanted.inst,.str ((Zq (Zz ⟨m1,m2,m3⟩ ad sk li ⟨⟨o1,o2,o3⟩,els.map Zy⟩ wt ⟨w1,w2,w3⟩ se tm lf cs tc) life now).c).wanted.realm,.int .u64 ((Zq (Zz ⟨m1,m2,m3⟩ ad sk li ⟨⟨o1,o2,o3⟩,els.map Zy⟩ wt ⟨w1,w2,w3⟩ se tm lf cs tc) life now).c).session,.int .i64 ((Zq (Zz ⟨m1,m2,m3⟩ ad sk li ⟨⟨o1,o2,o3⟩,els.map Zy⟩ wt ⟨w1,w2,w3⟩ se tm lf cs tc) life now).c).time,.int .i64 ((Zq (Zz ⟨m1,m2,m3⟩ ad sk li ⟨⟨o1,o2,o3⟩,els.map Zy⟩ wt ⟨w1,w2,w3⟩ se tm lf cs tc) life now).c).life,.int .i64 ((Zq (Zz ⟨m1,m2,m3⟩ ad sk li ⟨⟨o1,o2,o3⟩,els.map Zy⟩ wt ⟨w1,w2,w3⟩ se tm lf cs tc) life now).c).checksum,.int .i64 ((Zq (Zz ⟨m1,m2,m3⟩ ad sk li ⟨⟨o1,o2,o3⟩,els.map Zy⟩ wt ⟨w1,w2,w3⟩ se tm lf cs tc) life now).c).tick],.bs (Zq (Zz ⟨m1,m2,m3⟩ ad sk li ⟨⟨o1,o2,o3⟩,els.map Zy⟩ wt ⟨w1,w2,w3⟩ se tm lf cs tc) life now).msg,.int .i64 (Zq (Zz ⟨m1,m2,m3⟩ ad sk li ⟨⟨o1,o2,o3⟩,els.map Zy⟩ wt ⟨w1,w2,w3⟩ se tm lf cs tc) life now).err],[]))
 | _,_=>none
def sp48:Abs.Spec:=fun xs bl=>match xs,bl with
 | [.agg [.str x,.str y,.str z,.int .i64 ck,.int .i64 tc,.int .i64 tm],.bool li,.int .u64 k],[]=>chk (decide (x.length≤9223372036854775807)&&decide (y.length≤9223372036854775807)&&decide (z.length≤9223372036854775807)&&decide (0≤k)&&decide (k<18446744073709551616)) (some (.tup [.bs (Kerb.sealAuth (Yy ⟨x,y,z⟩ ck tc tm) li k).val,.int .i64 (Kerb.sealAuth (Yy ⟨x,y,z⟩ ck tc tm) li k).err],[]))
 | _,_=>none
def sp22:Abs.Spec:=fun xs bl=>match xs,bl with
 | [.agg [.str m1,.str m2,.str m3,.int .i64 ad,.int .i64 sk,.bool li,.str o1,.str o2,.str o3,.sl 8 els,.int .i64 wt,.str w1,.str w2,.str w3,.int .u64 se,.int .i64 tm,.int .i64 lf,.int .i64 cs,.int .i64 tc],.agg [.str s1,.str s2,.str s3,.int .u64 sk2,.int .i64 lf2,.int .i64 kv2,.int .i64 is2,.bs tk2],.bool mu,.agg [.str x,.str y,.str z,.int .i64 ck,.int .i64 tc2,.int .i64 tm2]],[]=>chk (decide (x.length≤9223372036854775807)&&decide (y.length≤9223372036854775807)&&decide (z.length≤9223372036854775807)&&decide (0≤sk2)&&decide (sk2<18446744073709551616)) (some (.tup [.agg [.bool (Kerb.apOf (Zz ⟨m1,m2,m3⟩ ad sk li ⟨⟨o1,o2,o3⟩,els.map Zy⟩ wt ⟨w1,w2,w3⟩ se tm lf cs tc) (Yz ⟨s1,s2,s3⟩ sk2 lf2 kv2 is2 tk2) mu ⟨⟨x,y,z⟩,ck,tc2,tm2⟩).val.little,.bool (Kerb.apOf (Zz ⟨m1,m2,m3⟩ ad sk li ⟨⟨o1,o2,o3⟩,els.map Zy⟩ wt ⟨w1,w2,w3⟩ se tm lf cs tc) (Yz ⟨s1,s2,s3⟩ sk2 lf2 kv2 is2 tk2) mu ⟨⟨x,y,z⟩,ck,tc2,tm2⟩).val.mutual_,.int .i64 (Kerb.apOf (Zz ⟨m1,m2,m3⟩ ad sk li ⟨⟨o1,o2,o3⟩,els.map Zy⟩ wt ⟨w1,w2,w3⟩ se tm lf cs tc) (Yz ⟨s1,s2,s3⟩ sk2 lf2 kv2 is2 tk2) mu ⟨⟨x,y,z⟩,ck,tc2,tm2⟩).val.kvno,.str (Kerb.apOf (Zz ⟨m1,m2,m3⟩ ad sk li ⟨⟨o1,o2,o3⟩,els.map Zy⟩ wt ⟨w1,w2,w3⟩ se tm lf cs tc) (Yz ⟨s1,s2,s3⟩ sk2 lf2 kv2 is2 tk2) mu ⟨⟨x,y,z⟩,ck,tc2,tm2⟩).val.realm,.bs (Kerb.apOf (Zz ⟨m1,m2,m3⟩ ad sk li ⟨⟨o1,o2,o3⟩,els.map Zy⟩ wt ⟨w1,w2,w3⟩ se tm lf cs tc) (Yz ⟨s1,s2,s3⟩ sk2 lf2 kv2 is2 tk2) mu ⟨⟨x,y,z⟩,ck,tc2,tm2⟩).val.ticket,.bs (Kerb.apOf (Zz ⟨m1,m2,m3⟩ ad sk li ⟨⟨o1,o2,o3⟩,els.map Zy⟩ wt ⟨w1,w2,w3⟩ se tm lf cs tc) (Yz ⟨s1,s2,s3⟩ sk2 lf2 kv2 is2 tk2) mu ⟨⟨x,y,z⟩,ck,tc2,tm2⟩).val.auth],.int .i64 (Kerb.apOf (Zz ⟨m1,m2,m3⟩ ad sk li ⟨⟨o1,o2,o3⟩,els.map Zy⟩ wt ⟨w1,w2,w3⟩ se tm lf cs tc) (Yz ⟨s1,s2,s3⟩ sk2 lf2 kv2 is2 tk2) mu ⟨⟨x,y,z⟩,ck,tc2,tm2⟩).err],[]))
 | _,_=>none
def sp7:Abs.Spec:=fun xs bl=>match xs,bl with
 | [.agg [.str m1,.str m2,.str m3,.int .i64 ad,.int .i64 sk,.bool li,.str o1,.str o2,.str o3,.sl 8 els,.int .i64 wt,.str w1,.str w2,.str w3,.int .u64 se,.int .i64 tm,.int .i64 lf,.int .i64 cs,.int .i64 tc],.agg [.str x,.str y,.str z],.bool mu,.int .i64 sum,.int .i64 now,.int .i64 tick],[]=>chk (decide (m1.length≤9223372036854775807)&&decide (m2.length≤9223372036854775807)&&decide (m3.length≤9223372036854775807)&&decide (o1.length≤9223372036854775807)&&decide (o2.length≤9223372036854775807)&&decide (o3.length≤9223372036854775807)&&els.all Yu&&decide (els.length≤1000000)&&decide (x.length≤9223372036854775807)&&decide (y.length≤9223372036854775807)&&decide (z.length≤9223372036854775807)) (some (.tup [.agg [.str ((Zw (Zz ⟨m1,m2,m3⟩ ad sk li ⟨⟨o1,o2,o3⟩,els.map Zy⟩ wt ⟨w1,w2,w3⟩ se tm lf cs tc) ⟨x,y,z⟩ mu sum now tick).c).me.name,.str ((Zw (Zz ⟨m1,m2,m3⟩ ad sk li ⟨⟨o1,o2,o3⟩,els.map Zy⟩ wt ⟨w1,w2,w3⟩ se tm lf cs tc) ⟨x,y,z⟩ mu sum now tick).c).me.inst,.str ((Zw (Zz ⟨m1,m2,m3⟩ ad sk li ⟨⟨o1,o2,o3⟩,els.map Zy⟩ wt ⟨w1,w2,w3⟩ se tm lf cs tc) ⟨x,y,z⟩ mu sum now tick).c).me.realm,.int .i64 ((Zw (Zz ⟨m1,m2,m3⟩ ad sk li ⟨⟨o1,o2,o3⟩,els.map Zy⟩ wt ⟨w1,w2,w3⟩ se tm lf cs tc) ⟨x,y,z⟩ mu sum now tick).c).address,.int .i64 ((Zw (Zz ⟨m1,m2,m3⟩ ad sk li ⟨⟨o1,o2,o3⟩,els.map Zy⟩ wt ⟨w1,w2,w3⟩ se tm lf cs tc) ⟨x,y,z⟩ mu sum now tick).c).skew,.bool ((Zw (Zz ⟨m1,m2,m3⟩ ad sk li ⟨⟨o1,o2,o3⟩,els.map Zy⟩ wt ⟨w1,w2,w3⟩ se tm lf cs tc) ⟨x,y,z⟩ mu sum now tick).c).little,.str ((Zw (Zz ⟨m1,m2,m3⟩ ad sk li ⟨⟨o1,o2,o3⟩,els.map Zy⟩ wt ⟨w1,w2,w3⟩ se tm lf cs tc) ⟨x,y,z⟩ mu sum now tick).c).cache.owner.name,.str ((Zw (Zz ⟨m1,m2,m3⟩ ad sk li ⟨⟨o1,o2,o3⟩,els.map Zy⟩ wt ⟨w1,w2,w3⟩ se tm lf cs tc) ⟨x,y,z⟩ mu sum now tick).c).cache.owner.inst,.str ((Zw (Zz ⟨m1,m2,m3⟩ ad sk li ⟨⟨o1,o2,o3⟩,els.map Zy⟩ wt ⟨w1,w2,w3⟩ se tm lf cs tc) ⟨x,y,z⟩ mu sum now tick).c).cache.owner.realm,.sl 8 (((Zw (Zz ⟨m1,m2,m3⟩ ad sk li ⟨⟨o1,o2,o3⟩,els.map Zy⟩ wt ⟨w1,w2,w3⟩ se tm lf cs tc) ⟨x,y,z⟩ mu sum now tick).c).cache.creds.map Zf),.int .i64 ((Zw (Zz ⟨m1,m2,m3⟩ ad sk li ⟨⟨o1,o2,o3⟩,els.map Zy⟩ wt ⟨w1,w2,w3⟩ se tm lf cs tc) ⟨x,y,z⟩ mu sum now tick).c).wait,.str ((Zw (Zz ⟨m1,m2,m3⟩ ad sk li ⟨⟨o1,o2,o3⟩,els.map Zy⟩ wt ⟨w1,w2,w3⟩ se tm lf cs tc) ⟨x,y,z⟩ mu sum now tick).c).wanted.name,.str ((Zw (Zz ⟨m1,m2,m3⟩ ad sk li ⟨⟨o1,o2,o3⟩,els.map Zy⟩ wt ⟨w1,w2,w3⟩ se tm lf cs tc) ⟨x,y,z⟩ mu sum now tick).c).wanted.inst,.str ((Zw (Zz ⟨m1,m2,m3⟩ ad sk li ⟨⟨o1,o2,o3⟩,els.map Zy⟩ wt ⟨w1,w2,w3⟩ se tm lf cs tc) ⟨x,y,z⟩ mu sum now tick).c).wanted.realm,.int .u64 ((Zw (Zz ⟨m1,m2,m3⟩ ad sk li ⟨⟨o1,o2,o3⟩,els.map Zy⟩ wt ⟨w1,w2,w3⟩ se tm lf cs tc) ⟨x,y,z⟩ mu sum now tick).c).session,.int .i64 ((Zw (Zz ⟨m1,m2,m3⟩ ad sk li ⟨⟨o1,o2,o3⟩,els.map Zy⟩ wt ⟨w1,w2,w3⟩ se tm lf cs tc) ⟨x,y,z⟩ mu sum now tick).c).time,.int .i64 ((Zw (Zz ⟨m1,m2,m3⟩ ad sk li ⟨⟨o1,o2,o3⟩,els.map Zy⟩ wt ⟨w1,w2,w3⟩ se tm lf cs tc) ⟨x,y,z⟩ mu sum now tick).c).life,.int .i64 ((Zw (Zz ⟨m1,m2,m3⟩ ad sk li ⟨⟨o1,o2,o3⟩,els.map Zy⟩ wt ⟨w1,w2,w3⟩ se tm lf cs tc) ⟨x,y,z⟩ mu sum now tick).c).checksum,.int .i64 ((Zw (Zz ⟨m1,m2,m3⟩ ad sk li ⟨⟨o1,o2,o3⟩,els.map Zy⟩ wt ⟨w1,w2,w3⟩ se tm lf cs tc) ⟨x,y,z⟩ mu sum now tick).c).tick],.bs (Zw (Zz ⟨m1,m2,m3⟩ ad sk li ⟨⟨o1,o2,o3⟩,els.map Zy⟩ wt ⟨w1,w2,w3⟩ se tm lf cs tc) ⟨x,y,z⟩ mu sum now tick).msg,.agg [.str ((Zw (Zz ⟨m1,m2,m3⟩ ad sk li ⟨⟨o1,o2,o3⟩,els.map Zy⟩ wt ⟨w1,w2,w3⟩ se tm lf cs tc) ⟨x,y,z⟩ mu sum now tick).cred).service.name,.str ((Zw (Zz ⟨m1,m2,m3⟩ ad sk li ⟨⟨o1,o2,o3⟩,els.map Zy⟩ wt ⟨w1,w2,w3⟩ se tm lf cs tc) ⟨x,y,z⟩ mu sum now tick).cred).service.inst,.str ((Zw (Zz ⟨m1,m2,m3⟩ ad sk li ⟨⟨o1,o2,o3⟩,els.map Zy⟩ wt ⟨w1,w2,w3⟩ se tm lf cs tc) ⟨x,y,z⟩ mu sum now tick).cred).service.realm,.int .u64 ((Zw (Zz ⟨m1,m2,m3⟩ ad sk li ⟨⟨o1,o2,o3⟩,els.map Zy⟩ wt ⟨w1,w2,w3⟩ se tm lf cs tc) ⟨x,y,z⟩ mu sum now tick).cred).session,.int .i64 ((Zw (Zz ⟨m1,m2,m3⟩ ad sk li ⟨⟨o1,o2,o3⟩,els.map Zy⟩ wt ⟨w1,w2,w3⟩ se tm lf cs tc) ⟨x,y,z⟩ mu sum now tick).cred).life,.int .i64 ((Zw (Zz ⟨m1,m2,m3⟩ ad sk li ⟨⟨o1,o2,o3⟩,els.map Zy⟩ wt ⟨w1,w2,w3⟩ se tm lf cs tc) ⟨x,y,z⟩ mu sum now tick).cred).kvno,.int .i64 ((Zw (Zz ⟨m1,m2,m3⟩ ad sk li ⟨⟨o1,o2,o3⟩,els.map Zy⟩ wt ⟨w1,w2,w3⟩ se tm lf cs tc) ⟨x,y,z⟩ mu sum now tick).cred).issued,.bs ((Zw (Zz ⟨m1,m2,m3⟩ ad sk li ⟨⟨o1,o2,o3⟩,els.map Zy⟩ wt ⟨w1,w2,w3⟩ se tm lf cs tc) ⟨x,y,z⟩ mu sum now tick).cred).ticket],.bs (Zw (Zz ⟨m1,m2,m3⟩ ad sk li ⟨⟨o1,o2,o3⟩,els.map Zy⟩ wt ⟨w1,w2,w3⟩ se tm lf cs tc) ⟨x,y,z⟩ mu sum now tick).auth,.int .i64 (Zw (Zz ⟨m1,m2,m3⟩ ad sk li ⟨⟨o1,o2,o3⟩,els.map Zy⟩ wt ⟨w1,w2,w3⟩ se tm lf cs tc) ⟨x,y,z⟩ mu sum now tick).err],[]))
 | _,_=>none
def sp13:Abs.Spec:=fun xs bl=>match xs,bl with
 | [.agg [.str m1,.str m2,.str m3,.int .i64 ad,.int .i64 sk,.bool li,.str o1,.str o2,.str o3,.sl 8 els,.int .i64 wt,.str w1,.str w2,.str w3,.int .u64 se,.int .i64 tm,.int .i64 lf,.int .i64 cs,.int .i64 tc],.agg [.str x,.str y,.str z],.int .i64 life,.int .i64 now,.int .i64 tick],[]=>chk (decide (m1.length≤9223372036854775807)&&decide (m2.length≤9223372036854775807)&&decide (m3.length≤9223372036854775807)&&decide (o1.length≤9223372036854775807)&&decide (o2.length≤9223372036854775807)&&decide (o3.length≤9223372036854775807)&&els.all Yu&&decide (els.length≤1000000)&&decide (x.length≤9223372036854775807)&&decide (y.length≤9223372036854775807)&&decide (z.length≤9223372036854775807)) (some (.tup [.agg [.str ((Zu (Zz ⟨m1,m2,m3⟩ ad sk li ⟨⟨o1,o2,o3⟩,els.map Zy⟩ wt ⟨w1,w2,w3⟩ se tm lf cs tc) ⟨x,y,z⟩ life now tick).c).me.name,.str ((Zu (Zz ⟨m1,m2,m3⟩ ad sk li ⟨⟨o1,o2,o3⟩,els.map Zy⟩ wt ⟨w1,w2,w3⟩ se tm lf cs tc) ⟨x,y,z⟩ life now tick).c).me.inst,.str ((Zu (Zz ⟨m1,m2,m3⟩ ad sk li ⟨⟨o1,o2,o3⟩,els.map Zy⟩ wt ⟨w1,w2,w3⟩ se tm lf cs tc) ⟨x,y,z⟩ life now tick).c).me.realm,.int .i64 ((Zu (Zz ⟨m1,m2,m3⟩ ad sk li ⟨⟨o1,o2,o3⟩,els.map Zy⟩ wt ⟨w1,w2,w3⟩ se tm lf cs tc) ⟨x,y,z⟩ life now tick).c).address,.int .i64 ((Zu (Zz ⟨m1,m2,m3⟩ ad sk li ⟨⟨o1,o2,o3⟩,els.map Zy⟩ wt ⟨w1,w2,w3⟩ se tm lf cs tc) ⟨x,y,z⟩ life now tick).c).skew,.bool ((Zu (Zz ⟨m1,m2,m3⟩ ad sk li ⟨⟨o1,o2,o3⟩,els.map Zy⟩ wt ⟨w1,w2,w3⟩ se tm lf cs tc) ⟨x,y,z⟩ life now tick).c).little,.str ((Zu (Zz ⟨m1,m2,m3⟩ ad sk li ⟨⟨o1,o2,o3⟩,els.map Zy⟩ wt ⟨w1,w2,w3⟩ se tm lf cs tc) ⟨x,y,z⟩ life now tick).c).cache.owner.name,.str ((Zu (Zz ⟨m1,m2,m3⟩ ad sk li ⟨⟨o1,o2,o3⟩,els.map Zy⟩ wt ⟨w1,w2,w3⟩ se tm lf cs tc) ⟨x,y,z⟩ life now tick).c).cache.owner.inst,.str ((Zu (Zz ⟨m1,m2,m3⟩ ad sk li ⟨⟨o1,o2,o3⟩,els.map Zy⟩ wt ⟨w1,w2,w3⟩ se tm lf cs tc) ⟨x,y,z⟩ life now tick).c).cache.owner.realm,.sl 8 (((Zu (Zz ⟨m1,m2,m3⟩ ad sk li ⟨⟨o1,o2,o3⟩,els.map Zy⟩ wt ⟨w1,w2,w3⟩ se tm lf cs tc) ⟨x,y,z⟩ life now tick).c).cache.creds.map Zf),.int .i64 ((Zu (Zz ⟨m1,m2,m3⟩ ad sk li ⟨⟨o1,o2,o3⟩,els.map Zy⟩ wt ⟨w1,w2,w3⟩ se tm lf cs tc) ⟨x,y,z⟩ life now tick).c).wait,.str ((Zu (Zz ⟨m1,m2,m3⟩ ad sk li ⟨⟨o1,o2,o3⟩,els.map Zy⟩ wt ⟨w1,w2,w3⟩ se tm lf cs tc) ⟨x,y,z⟩ life now tick).c).wanted.name,.str ((Zu (Zz ⟨m1,m2,m3⟩ ad sk li ⟨⟨o1,o2,o3⟩,els.map Zy⟩ wt ⟨w1,w2,w3⟩ se tm lf cs tc) ⟨x,y,z⟩ life now tick).c).wanted.inst,.str ((Zu (Zz ⟨m1,m2,m3⟩ ad sk li ⟨⟨o1,o2,o3⟩,els.map Zy⟩ wt ⟨w1,w2,w3⟩ se tm lf cs tc) ⟨x,y,z⟩ life now tick).c).wanted.realm,.int .u64 ((Zu (Zz ⟨m1,m2,m3⟩ ad sk li ⟨⟨o1,o2,o3⟩,els.map Zy⟩ wt ⟨w1,w2,w3⟩ se tm lf cs tc) ⟨x,y,z⟩ life now tick).c).session,.int .i64 ((Zu (Zz ⟨m1,m2,m3⟩ ad sk li ⟨⟨o1,o2,o3⟩,els.map Zy⟩ wt ⟨w1,w2,w3⟩ se tm lf cs tc) ⟨x,y,z⟩ life now tick).c).time,.int .i64 ((Zu (Zz ⟨m1,m2,m3⟩ ad sk li ⟨⟨o1,o2,o3⟩,els.map Zy⟩ wt ⟨w1,w2,w3⟩ se tm lf cs tc) ⟨x,y,z⟩ life now tick).c).life,.int .i64 ((Zu (Zz ⟨m1,m2,m3⟩ ad sk li ⟨⟨o1,o2,o3⟩,els.map Zy⟩ wt ⟨w1,w2,w3⟩ se tm lf cs tc) ⟨x,y,z⟩ life now tick).c).checksum,.int .i64 ((Zu (Zz ⟨m1,m2,m3⟩ ad sk li ⟨⟨o1,o2,o3⟩,els.map Zy⟩ wt ⟨w1,w2,w3⟩ se tm lf cs tc) ⟨x,y,z⟩ life now tick).c).tick],.bs (Zu (Zz ⟨m1,m2,m3⟩ ad sk li ⟨⟨o1,o2,o3⟩,els.map Zy⟩ wt ⟨w1,w2,w3⟩ se tm lf cs tc) ⟨x,y,z⟩ life now tick).msg,.agg [.str ((Zu (Zz ⟨m1,m2,m3⟩ ad sk li ⟨⟨o1,o2,o3⟩,els.map Zy⟩ wt ⟨w1,w2,w3⟩ se tm lf cs tc) ⟨x,y,z⟩ life now tick).cred).service.name,.str ((Zu (Zz ⟨m1,m2,m3⟩ ad sk li ⟨⟨o1,o2,o3⟩,els.map Zy⟩ wt ⟨w1,w2,w3⟩ se tm lf cs tc) ⟨x,y,z⟩ life now tick).cred).service.inst,.str ((Zu (Zz ⟨m1,m2,m3⟩ ad sk li ⟨⟨o1,o2,o3⟩,els.map Zy⟩ wt ⟨w1,w2,w3⟩ se tm lf cs tc) ⟨x,y,z⟩ life now tick).cred).service.realm,.int .u64 ((Zu (Zz ⟨m1,m2,m3⟩ ad sk li ⟨⟨o1,o2,o3⟩,els.map Zy⟩ wt ⟨w1,w2,w3⟩ se tm lf cs tc) ⟨x,y,z⟩ life now tick).cred).session,.int .i64 ((Zu (Zz ⟨m1,m2,m3⟩ ad sk li ⟨⟨o1,o2,o3⟩,els.map Zy⟩ wt ⟨w1,w2,w3⟩ se tm lf cs tc) ⟨x,y,z⟩ life now tick).cred).life,.int .i64 ((Zu (Zz ⟨m1,m2,m3⟩ ad sk li ⟨⟨o1,o2,o3⟩,els.map Zy⟩ wt ⟨w1,w2,w3⟩ se tm lf cs tc) ⟨x,y,z⟩ life now tick).cred).kvno,.int .i64 ((Zu (Zz ⟨m1,m2,m3⟩ ad sk li ⟨⟨o1,o2,o3⟩,els.map Zy⟩ wt ⟨w1,w2,w3⟩ se tm lf cs tc) ⟨x,y,z⟩ life now tick).cred).issued,.bs ((Zu (Zz ⟨m1,m2,m3⟩ ad sk li ⟨⟨o1,o2,o3⟩,els.map Zy⟩ wt ⟨w1,w2,w3⟩ se tm lf cs tc) ⟨x,y,z⟩ life now tick).cred).ticket],.bs (Zu (Zz ⟨m1,m2,m3⟩ ad sk li ⟨⟨o1,o2,o3⟩,els.map Zy⟩ wt ⟨w1,w2,w3⟩ se tm lf cs tc) ⟨x,y,z⟩ life now tick).auth,.int .i64 (Zu (Zz ⟨m1,m2,m3⟩ ad sk li ⟨⟨o1,o2,o3⟩,els.map Zy⟩ wt ⟨w1,w2,w3⟩ se tm lf cs tc) ⟨x,y,z⟩ life now tick).err],[]))
 | _,_=>none
def sp4:Abs.Spec:=fun xs bl=>match xs,bl with
 | [],[]=>some (.bool true,[])
 | _,_=>none
def sp3:Abs.Spec:=fun xs bl=>match xs,bl with
 | [.agg [.u8 pw,.u8 ps,.bool pl,.bs pc],.u8 who,.int .u16 small,.u8 tk_,.int .u32 sum,.bool mu],[]=>chk (decide (0≤small)&&decide (small≤65535)&&decide (0≤sum)&&decide (sum≤4294967295)) (some (.bool true,[]))
 | _,_=>none
def tabT:List (Nat×Nat×List CT×Abs.Spec):=[(17,1,[.int .i64],sp17),(20,1,[.int .i64,.int .i64],sp20),(24,1,[.other,.other],sp24),(26,1,[.bsl],sp26),(32,1,[.str,.str],sp32),(34,1,[.int .i64],sp34),(38,1,[.int .i64,.int .i64],sp38),(39,1,[.ptr],sp39),(41,1,[],sp41),(49,1,[.int .i64,.int .i64],sp49),(58,1,[.int .i64,.int .i64],sp58),(60,1,[.int .i64,.bool],sp60),(61,1,[.bsl,.str],sp61),(66,1,[.int .i64,.int .i64],sp66),(70,1,[.ptr,.int .i64],sp70),(71,1,[.int .i64],sp71),(73,1,[.int .i64,.int .i64],sp73),(74,1,[.sl 8,.other],sp74),(80,1,[.int .i64],sp80),(82,1,[.other,.other],sp82),(84,1,[.ptr,.int .i64,.int .i64],sp84),(85,1,[.bsl,.int .i64],sp85),(86,1,[.bsl,.int .i64,.int .i64],sp86),(87,1,[.str,.str],sp87),(88,1,[.bsl,.int .i64,.int .i64,.bool],sp88),(95,1,[.bsl],sp95),(100,1,[.bsl],sp100),(101,1,[.int .i64],sp101),(102,1,[.int .i64],sp102),(105,1,[.int .i64],sp105),(106,1,[.int .u64],sp106),(109,1,[.int .i64,.int .i64],sp109),(110,1,[.int .i64],sp110),(111,1,[.int .i64],sp111),(113,1,[.int .i64,.int .i64],sp113),(114,1,[.int .i64,.int .i64],sp114),(115,1,[.str,.u8],sp115),(16,2,[.int .i64],sp16),(25,2,[.bsl,.sl 1],sp25),(35,2,[.other,.other],sp35),(50,2,[.int .i64,.bool],sp50),(53,2,[.sl 1],sp53),(55,2,[.ptr],sp55),(56,2,[.ptr,.int .i64],sp56),(57,2,[.str],sp57),(59,2,[.bsl,.int .i64],sp59),(76,2,[.other],sp76),(77,2,[.int .i64,.int .i64],sp77),(92,2,[.bsl,.other],sp92),(94,2,[.bsl,.int .i64,.bool],sp94),(96,2,[.str],sp96),(97,2,[.str],sp97),(98,2,[.int .u64],sp98),(107,2,[.bsl,.int .i64,.int .i64,.bool],sp107),(108,2,[.int .u64],sp108),(112,2,[.str,.u8],sp112),(6,3,[.int .i64],sp6),(11,3,[.int .i64],sp11),(28,3,[.other],sp28),(46,3,[.other,.other],sp46),(47,3,[.other,.int .i64],sp47),(52,3,[.bsl,.str],sp52),(63,3,[.ptr],sp63),(69,3,[.other],sp69),(72,3,[.int .u64],sp72),(81,3,[.bsl,.int .i64,.int .i64,.bool],sp81),(83,3,[.bsl,.int .i64],sp83),(89,3,[.bsl],sp89),(90,3,[.bsl,.int .i64,.bool],sp90),(93,3,[.bsl,.bool],sp93),(99,3,[.str,.u8],sp99),(104,3,[.bsl],sp104),(21,4,[.other,.other,.int .i64],sp21),(37,4,[.other],sp37),(40,4,[.ptr],sp40),(51,4,[.bsl,.int .i64],sp51),(54,4,[.ptr],sp54),(62,4,[.bsl],sp62),(64,4,[.ptr],sp64),(67,4,[.bsl,.other],sp67),(68,4,[.bsl,.int .i64,.bool],sp68),(75,4,[.str,.str],sp75),(79,4,[.int .i64,.int .u64,.bsl],sp79),(91,4,[.other],sp91),(14,5,[.other,.int .i64,.int .i64,.bool],sp14),(15,5,[.bsl,.int .i64],sp15),(29,5,[.bsl,.int .i64,.int .u64],sp29),(43,5,[.str],sp43),(44,5,[.str],sp44),(65,5,[.other,.bool],sp65),(5,6,[.other],sp5),(8,6,[.bsl],sp8),(30,6,[.bsl,.bool],sp30),(45,6,[.str],sp45),(9,7,[.bsl,.bool,.int .u64],sp9),(19,7,[.other],sp19),(23,7,[.other],sp23),(31,8,[.other],sp31),(33,8,[.other],sp33),(36,8,[.other],sp36),(42,8,[.other],sp42),(103,8,[.other],sp103),(10,9,[.other,.int .i64,.int .i64,.bool],sp10),(18,9,[.other],sp18),(78,9,[.other,.bool],sp78),(12,10,[.other,.int .i64,.int .i64],sp12),(48,10,[.other,.bool,.int .u64],sp48),(22,11,[.other,.other,.bool,.other],sp22),(7,12,[.other,.other,.bool,.int .i64,.int .i64,.int .i64],sp7),(13,12,[.other,.other,.int .i64,.int .i64,.int .i64],sp13),(4,13,[],sp4),(3,14,[.other,.u8,.int .u16,.u8,.int .u32,.bool],sp3)]
def globT:List (Nat×List AV):=[]
noncomputable def inlT:List (Nat×Func):=[(27,Tryz.f27)]
def look {α:Type} (k:Nat):List (Nat×α)→Option α
 | []=>none
 | (j,x)::r=>cond (Nat.beq j k) (some x) (look k r)
def look2 {α:Type} (k m:Nat):List (Nat×Nat×List α)→List α
 | []=>[]
 | (j,i,x)::r=>cond (Nat.beq j k) (cond (Nat.beq i m) x (look2 k m r)) (look2 k m r)
noncomputable def G:Cfg2:={ ty:=fun t=>(tbl[t]?).join,keep:=fun f r=>look2 f r keepT,own:=fun f=>ownT.contains f,glob:=fun q=>look q globT,rts:=fun f=>look f rtsT,tab:=fun f=>look f tabT,inl:=fun f=>look f inlT }
end Go.Proofs.YtmipfdjcnkljnaaGreat
