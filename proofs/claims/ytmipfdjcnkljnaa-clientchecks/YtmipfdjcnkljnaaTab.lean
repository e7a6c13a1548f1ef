/- The table of functions of this seat. -/
import Derived.Test.YtmipfdjcnkljnaaAbsSpec
import Derived.Test.YtmipfdjcnkljnaaKerbDefs
import Derived.Test.YtmipfdjcnkljnaaAbsPlain
import Derived.Test.YtmipfdjcnkljnaaKerbAt
import Derived.Test.YtmipfdjcnkljnaaKerbKa
import Derived.Test.YtmipfdjcnkljnaaKerbKaPlain
import Derived.Test.YtmipfdjcnkljnaaKerbCli
import Derived.Test.YtmipfdjcnkljnaaKerbCli2
import Derived.Test.YtmipfdjcnkljnaaKerbCli3
import Derived.Test.YtmipfdjcnkljnaaProg
import Derived.KernelRfl
open Kerb renaming toCred→Zz,newClient→Zx,personClient→Zw,ask→Zv,getCred→Zu,login→Zq,isCred→Zp,liveCred→Zd,dataCred→Zf,within→Zn,noCache→Zm,keyValid→Yy
open Kerb.Client renaming mk→Zy
open Kerb.Prin renaming valid→Zj
open Kerb.Cache renaming mk→Zk
open Kerb.Cred renaming mk→Zg,av→Zb
open Kerb.ApRequest renaming mk→Zh
open Kerb.Auth renaming mk→Yz
namespace Go.Proofs.Ytmipfdjcnkljnaa
open Go Go.Abs
set_option linter.unusedVariables false
def tbl:List (Option TI):=[
 none,
 none,
 some ⟨1,8,.int .i64,[.int .i64 0],[.int .i64],[.int .i64]⟩,
 some ⟨1,8,.int .i64,[.int .i64 0],[.int .i64],[.int .i64]⟩,
 some ⟨1,1,.bool,[.bool false],[.bool],[.bool]⟩,
 some ⟨1,1,.u8,[.u8 0],[.u8],[.u8]⟩,
 some ⟨1,1,.u8,[.u8 0],[.u8],[.u8]⟩,
 some ⟨4,24,.struct [(0,2),(1,3),(2,4),(3,6)],[.int .i64 0,.int .i64 0,.bool false,.u8 0],[.int .i64,.int .i64,.bool,.u8],[.int .i64,.int .i64,.bool,.u8]⟩,
 none,
 some ⟨1,16,.str,[.str []],[.str],[.str]⟩,
 none,
 none,
 some ⟨1,8,.int .u64,[.int .u64 0],[.int .u64],[.int .u64]⟩,
 none,
 none,
 some ⟨1,8,.ptr 122,[.nilp],[.ptr],[]⟩,
 some ⟨1,8,.ptr 125,[.nilp],[.ptr],[]⟩,
 some ⟨1,8,.ptr 135,[.nilp],[.ptr],[]⟩,
 some ⟨1,8,.struct [(0,17)],[.nilp],[.ptr],[]⟩,
 some ⟨1,8,.struct [(0,17)],[.nilp],[.ptr],[]⟩,
 none,
 some ⟨1,4,.int .i32,[.int .i32 0],[.int .i32],[.int .i32]⟩,
 some ⟨3,48,.struct [(0,9),(1,9),(2,9)],[.str [],.str [],.str []],[.str,.str,.str],[.str,.str,.str]⟩,
 some ⟨3,48,.struct [(0,9),(1,9),(2,9)],[.str [],.str [],.str []],[.str,.str,.str],[.str,.str,.str]⟩,
 some ⟨1,24,.slice 45 false,[.nils],[.sl 8],[]⟩,
 some ⟨4,72,.struct [(0,23),(3,24)],[.str [],.str [],.str [],.nils],[.str,.str,.str,.sl 8],[]⟩,
 some ⟨4,72,.struct [(0,23),(3,24)],[.str [],.str [],.str [],.nils],[.str,.str,.str,.sl 8],[]⟩,
 some ⟨1,8,.int .u64,[.int .u64 0],[.int .u64],[.int .u64]⟩,
 some ⟨1,8,.int .u64,[.int .u64 0],[.int .u64],[.int .u64]⟩,
 some ⟨19,240,.struct [(0,23),(3,3),(4,3),(5,4),(6,26),(10,3),(11,23),(14,28),(15,3),(16,3),(17,3),(18,3)],[.str [],.str [],.str [],.int .i64 0,.int .i64 0,.bool false,.str [],.str [],.str [],.nils,.int .i64 0,.str [],.str [],.str [],.int .u64 0,.int .i64 0,.int .i64 0,.int .i64 0,.int .i64 0],[.str,.str,.str,.int .i64,.int .i64,.bool,.str,.str,.str,.sl 8,.int .i64,.str,.str,.str,.int .u64,.int .i64,.int .i64,.int .i64,.int .i64],[]⟩,
 some ⟨19,240,.struct [(0,23),(3,3),(4,3),(5,4),(6,26),(10,3),(11,23),(14,28),(15,3),(16,3),(17,3),(18,3)],[.str [],.str [],.str [],.int .i64 0,.int .i64 0,.bool false,.str [],.str [],.str [],.nils,.int .i64 0,.str [],.str [],.str [],.int .u64 0,.int .i64 0,.int .i64 0,.int .i64 0,.int .i64 0],[.str,.str,.str,.int .i64,.int .i64,.bool,.str,.str,.str,.sl 8,.int .i64,.str,.str,.str,.int .u64,.int .i64,.int .i64,.int .i64,.int .i64],[]⟩,
 some ⟨1,24,.slice 5 true,[.nils],[.bsl],[]⟩,
 some ⟨4,32,.struct [(0,5),(1,5),(2,4),(3,31)],[.u8 0,.u8 0,.bool false,.nils],[.u8,.u8,.bool,.bsl],[]⟩,
 some ⟨4,32,.struct [(0,5),(1,5),(2,4),(3,31)],[.u8 0,.u8 0,.bool false,.nils],[.u8,.u8,.bool,.bsl],[]⟩,
 none,
 none,
 none,
 some ⟨1,8,.int .i64,[.int .i64 0],[.int .i64],[.int .i64]⟩,
 none,
 none,
 none,
 none,
 none,
 none,
 some ⟨8,104,.struct [(0,23),(3,28),(4,3),(5,3),(6,3),(7,31)],[.str [],.str [],.str [],.int .u64 0,.int .i64 0,.int .i64 0,.int .i64 0,.nils],[.str,.str,.str,.int .u64,.int .i64,.int .i64,.int .i64,.bsl],[]⟩,
 some ⟨8,104,.struct [(0,23),(3,28),(4,3),(5,3),(6,3),(7,31)],[.str [],.str [],.str [],.int .u64 0,.int .i64 0,.int .i64 0,.int .i64 0,.nils],[.str,.str,.str,.int .u64,.int .i64,.int .i64,.int .i64,.bsl],[]⟩,
 none,
 none,
 none,
 none,
 none,
 none,
 none,
 none,
 none,
 none,
 some ⟨9,96,.struct [(0,3),(1,23),(4,28),(5,3),(6,3),(7,3),(8,3)],[.int .i64 0,.str [],.str [],.str [],.int .u64 0,.int .i64 0,.int .i64 0,.int .i64 0,.int .i64 0],[.int .i64,.str,.str,.str,.int .u64,.int .i64,.int .i64,.int .i64,.int .i64],[.int .i64,.str,.str,.str,.int .u64,.int .i64,.int .i64,.int .i64,.int .i64]⟩,
 some ⟨9,96,.struct [(0,3),(1,23),(4,28),(5,3),(6,3),(7,3),(8,3)],[.int .i64 0,.str [],.str [],.str [],.int .u64 0,.int .i64 0,.int .i64 0,.int .i64 0,.int .i64 0],[.int .i64,.str,.str,.str,.int .u64,.int .i64,.int .i64,.int .i64,.int .i64],[.int .i64,.str,.str,.str,.int .u64,.int .i64,.int .i64,.int .i64,.int .i64]⟩,
 none,
 some ⟨1,24,.slice 9 false,[.nils],[.sl 1],[]⟩,
 none,
 none,
 none,
 none,
 none,
 none,
 some ⟨8,104,.struct [(0,4),(1,23),(4,3),(5,3),(6,9),(7,9)],[.bool false,.str [],.str [],.str [],.int .i64 0,.int .i64 0,.str [],.str []],[.bool,.str,.str,.str,.int .i64,.int .i64,.str,.str],[.bool,.str,.str,.str,.int .i64,.int .i64,.str,.str]⟩,
 some ⟨8,104,.struct [(0,4),(1,23),(4,3),(5,3),(6,9),(7,9)],[.bool false,.str [],.str [],.str [],.int .i64 0,.int .i64 0,.str [],.str []],[.bool,.str,.str,.str,.int .i64,.int .i64,.str,.str],[.bool,.str,.str,.str,.int .i64,.int .i64,.str,.str]⟩,
 none,
 none,
 none,
 some ⟨6,80,.struct [(0,4),(1,4),(2,3),(3,9),(4,31),(5,31)],[.bool false,.bool false,.int .i64 0,.str [],.nils,.nils],[.bool,.bool,.int .i64,.str,.bsl,.bsl],[]⟩,
 some ⟨6,80,.struct [(0,4),(1,4),(2,3),(3,9),(4,31),(5,31)],[.bool false,.bool false,.int .i64 0,.str [],.nils,.nils],[.bool,.bool,.int .i64,.str,.bsl,.bsl],[]⟩,
 none,
 none,
 some ⟨6,72,.struct [(0,23),(3,3),(4,3),(5,3)],[.str [],.str [],.str [],.int .i64 0,.int .i64 0,.int .i64 0],[.str,.str,.str,.int .i64,.int .i64,.int .i64],[.str,.str,.str,.int .i64,.int .i64,.int .i64]⟩,
 some ⟨6,72,.struct [(0,23),(3,3),(4,3),(5,3)],[.str [],.str [],.str [],.int .i64 0,.int .i64 0,.int .i64 0],[.str,.str,.str,.int .i64,.int .i64,.int .i64],[.str,.str,.str,.int .i64,.int .i64,.int .i64]⟩,
 none,
 some ⟨10,128,.struct [(0,72),(6,3),(7,3),(8,9),(9,9)],[.bool false,.bool false,.int .i64 0,.str [],.nils,.nils,.int .i64 0,.int .i64 0,.str [],.str []],[.bool,.bool,.int .i64,.str,.bsl,.bsl,.int .i64,.int .i64,.str,.str],[]⟩,
 some ⟨10,128,.struct [(0,72),(6,3),(7,3),(8,9),(9,9)],[.bool false,.bool false,.int .i64 0,.str [],.nils,.nils,.int .i64 0,.int .i64 0,.str [],.str []],[.bool,.bool,.int .i64,.str,.bsl,.bsl,.int .i64,.int .i64,.str,.str],[]⟩,
 some ⟨1,24,.slice 23 false,[.nils],[.sl 3],[]⟩,
 none,
 none,
 none,
 some ⟨1,8,.ptr 86,[.nilp],[.ptr],[]⟩,
 some ⟨2,32,.struct [(0,31),(1,3)],[.nils,.int .i64 0],[.bsl,.int .i64],[]⟩,
 some ⟨2,32,.struct [(0,31),(1,3)],[.nils,.int .i64 0],[.bsl,.int .i64],[]⟩,
 none,
 none,
 none,
 none,
 none,
 none,
 none,
 none,
 none,
 none,
 none,
 none,
 none,
 none,
 none,
 none,
 none,
 none,
 none,
 some ⟨1,8,.int .u64,[.int .u64 0],[.int .u64],[.int .u64]⟩,
 none,
 none,
 none,
 none,
 none,
 none,
 none,
 none,
 some ⟨4,4,.arr 4 5 true,[.u8 0,.u8 0,.u8 0,.u8 0],[.u8,.u8,.u8,.u8],[]⟩,
 some ⟨1,24,.slice 31 false,[.nils],[.sl 1],[]⟩,
 none,
 none,
 none,
 none,
 some ⟨4,40,.struct [(0,17),(1,17),(2,17),(3,9)],[.nilp,.nilp,.nilp,.str []],[.ptr,.ptr,.ptr,.str],[]⟩,
 none,
 some ⟨0,0,.arr 0 16 false,[],[],[]⟩,
 none,
 none,
 none,
 some ⟨1,4,.int .u32,[.int .u32 0],[.int .u32],[.int .u32]⟩,
 some ⟨1,1,.u8,[.u8 0],[.u8],[.u8]⟩,
 some ⟨1,1,.u8,[.u8 0],[.u8],[.u8]⟩,
 none,
 some ⟨1,8,.ptr 5,[.nilp],[.ptr],[]⟩,
 some ⟨1,4,.int .i32,[.int .i32 0],[.int .i32],[.int .i32]⟩,
 some ⟨1,4,.int .i32,[.int .i32 0],[.int .i32],[.int .i32]⟩,
 none,
 none,
 none]
def keepT:List (Nat×Nat×List Keep):=[(25,4,[.cells 2 [.str,.str,.str,.sl 8],.ptr 2 2 0,.cells 3 [.str,.str,.str,.sl 8],.ptr 3 3 0,.val 4 4,.val 5 3]),
 (27,3,[.cells 4 [.str,.str,.str,.sl 8],.ptr 4 4 0,.cells 12 [.bsl,.int .i64],.ptr 5 12 0,.cellsR 6 [.imm (.str),.imm (.str),.imm (.str),.own 20603 45 8 false],.ptr 6 6 0]),
 (27,7,[.cells 4 [.str,.str,.str,.sl 8],.ptr 4 4 0,.cells 12 [.bsl,.int .i64],.ptr 5 12 0,.cellsR 6 [.imm (.str),.imm (.str),.imm (.str),.own 20603 45 8 false],.ptr 6 6 0,.cells 7 [.str,.str,.str,.int .u64,.int .i64,.int .i64,.int .i64,.bsl],.ptr 7 7 0,.val 8 4,.val 9 3]),
 (28,6,[.cells 1 [.str,.str,.str,.sl 8],.ptr 1 1 0,.val 2 37,.val 14 24,.val 15 3,.val 16 3]),
 (29,6,[.cells 1 [.str,.str,.str,.sl 8],.ptr 1 1 0,.val 2 37,.val 3 3]),
 (44,3,[.cells 0 [.bsl,.int .i64],.ptr 0 0 0,.cells 2 [.str,.str,.str,.int .u64,.int .i64,.int .i64,.int .i64,.bsl],.ptr 2 2 0,.cellsR 3 [.imm (.str),.imm (.str),.imm (.str),.imm (.int .u64),.imm (.int .i64),.imm (.int .i64),.imm (.int .i64),.own 20307 5 1 true],.ptr 3 3 0,.val 4 3]),
 (47,2,[.val 0 24,.cells 3 [.str,.str,.str],.ptr 3 3 0,.val 4 3,.val 7 24,.val 8 3,.val 9 3]),
 (50,2,[.cells 2 [.str,.str,.str,.sl 8],.ptr 2 2 0,.cells 3 [.str,.str,.str],.ptr 3 3 0,.cells 4 [.str,.str,.str,.int .u64,.int .i64,.int .i64,.int .i64,.bsl],.ptr 4 4 0,.val 5 4,.val 6 3]),
 (62,2,[.val 0 9,.val 1 9,.val 4 4,.val 7 3,.val 8 3]),
 (71,3,[.val 0 31,.val 1 3,.val 2 3,.val 3 4,.barr 9 false,.ptr 9 9 0,.val 12 3,.val 13 3]),
 (72,3,[.val 0 116,.val 3 3,.val 9 116,.val 10 3,.val 11 3]),
 (72,11,[.rowB 6 5 false,.val 25 116,.val 26 3,.val 27 3]),
 (78,2,[.val 0 9,.val 1 9,.val 4 4,.val 5 3]),
 (78,7,[.val 0 9,.val 1 9,.val 4 4,.val 5 3,.val 6 3]),
 (88,3,[.val 0 28,.rowB 3 5 false,.val 7 3,.val 8 3])]
def ownT:List Nat:=[81,72,71,54,55,27,11]
def rtsT:List (Nat×List Nat):=[(6,[4]),(20,[4]),(22,[30]),(24,[4]),(30,[23]),(31,[23]),(33,[30,31,45,31,37]),(41,[4]),(42,[59]),(43,[4]),(46,[4]),(47,[3]),(49,[4]),(50,[45,4]),(51,[4]),(61,[4]),(66,[3]),(67,[28]),(69,[28]),(70,[4]),(78,[4]),(79,[4]),(80,[4]),(81,[31]),(82,[31]),(83,[4]),(84,[4]),(87,[4]),(88,[31]),(90,[4]),(91,[3]),(5,[4]),(14,[23]),(15,[23]),(25,[4]),(26,[9]),(48,[4]),(52,[31]),(63,[4]),(64,[4]),(65,[4]),(68,[3,3,4]),(72,[31]),(73,[45]),(74,[3]),(89,[3]),(9,[4]),(10,[23]),(18,[23]),(40,[4]),(45,[4]),(56,[31]),(57,[45,4]),(58,[4]),(71,[31]),(77,[3]),(86,[31]),(23,[26,37]),(29,[37]),(34,[45,37]),(44,[45]),(53,[31]),(54,[31]),(55,[31]),(62,[4]),(76,[31,37]),(8,[30,37]),(27,[26]),(37,[4]),(38,[4]),(11,[30]),(13,[37]),(39,[4]),(19,[4]),(60,[31,37]),(21,[26,37]),(28,[37]),(32,[31,37]),(36,[31,37]),(85,[37]),(7,[30,37]),(12,[37]),(75,[31,37]),(16,[30,31,37]),(59,[31,37]),(35,[72,37]),(17,[30,31,45,31,37]),(4,[4]),(3,[4])]
def sp6:Abs.Spec:=fun xs bl=>match xs,bl with
 | [.agg [.str x,.str y,.str z]],[]=>some (.bool (Kerb.longP ⟨x,y,z⟩),[])
 | _,_=>none
def sp20:Abs.Spec:=fun xs bl=>match xs,bl with
 | [.int .i64 n,.int .i64 m],[]=>some (.bool (Zn n m),[])
 | _,_=>none
def sp22:Abs.Spec:=fun xs bl=>match xs,bl with
 | [.agg [.str m1,.str m2,.str m3,.int .i64 ad,.int .i64 sk,.bool li,.str o1,.str o2,.str o3,.sl 8 els,.int .i64 wt,.str w1,.str w2,.str w3,.int .u64 se,.int .i64 tm,.int .i64 lf,.int .i64 cs,.int .i64 tc],.agg [.int .i64 aw,.str a1,.str a2,.str a3,.int .u64 as2,.int .i64 at2,.int .i64 al2,.int .i64 ac2,.int .i64 ak2]],[]=>some (.agg [.str m1,.str m2,.str m3,.int .i64 ad,.int .i64 sk,.bool li,.str o1,.str o2,.str o3,.sl 8 els,.int .i64 aw,.str a1,.str a2,.str a3,.int .u64 as2,.int .i64 at2,.int .i64 al2,.int .i64 ac2,.int .i64 ak2],[])
 | _,_=>none
def sp24:Abs.Spec:=fun xs bl=>match xs,bl with
 | [.int .i64 n,.int .i64 m],[]=>some (.bool (Zn n m),[])
 | _,_=>none
def sp30:Abs.Spec:=fun xs bl=>match xs,bl with
 | [.str r,.str t],[]=>some (.agg [.str [107,114,98,116,103,116],.str t,.str r],[])
 | _,_=>none
def sp31:Abs.Spec:=fun xs bl=>match xs,bl with
 | [.str r,.str t],[]=>some (.agg [.str [107,114,98,116,103,116],.str t,.str r],[])
 | _,_=>none
def sp33:Abs.Spec:=fun xs bl=>match xs,bl with
 | [.int .i64 e],[]=>some (.tup [.agg [.str [],.str [],.str [],.int .i64 0,.int .i64 0,.bool false,.str [],.str [],.str [],.sl 8 [],.int .i64 0,.str [],.str [],.str [],.int .u64 0,.int .i64 0,.int .i64 0,.int .i64 0,.int .i64 0],.bs [],.agg [.str [],.str [],.str [],.int .u64 0,.int .i64 0,.int .i64 0,.int .i64 0,.bs []],.bs [],.int .i64 e],[])
 | _,_=>none
def sp41:Abs.Spec:=fun xs bl=>match xs,bl with
 | [.agg [.str x,.str y,.str z,.int .u64 k,.int .i64 lf,.int .i64 kv,.int .i64 iss,.bs tk],.agg [.str s1,.str s2,.str s3,.int .u64 sk2,.int .i64 lf2,.int .i64 kv2,.int .i64 is2,.bs tk2]],[]=>some (.bool ((x==s1&&(y==s2&&z==s3))&&k==sk2&&lf==lf2&&kv==kv2&&iss==is2&&tk==tk2),[])
 | _,_=>none
def sp42:Abs.Spec:=fun xs bl=>match xs,bl with
 | [],[]=>some (.sl 1 [.str [65,84,72],.str [66,79,83],.str [67,65,77]],[])
 | _,_=>none
def sp43:Abs.Spec:=fun xs bl=>match xs,bl with
 | [.ptr 0 0],[(0,[.bs l,.int .i64 pos])]=>some (.bool (decide (pos<(l.length:Int))),[[.bs l,.int .i64 pos]])
 | _,_=>none
def sp46:Abs.Spec:=fun xs bl=>match xs,bl with
 | [.int .i64 n,.int .i64 m],[]=>some (.bool (Zn n m),[])
 | _,_=>none
def sp47:Abs.Spec:=fun xs bl=>match xs,bl with
 | [.sl 8 els,.agg [.str x,.str y,.str z]],[]=>chk (els.all Zp&&decide (els.length≤1000000)) (some (.int .i64 ((Kerb.credAt (els.map Zz) ⟨x,y,z⟩:Nat):Int),[]))
 | _,_=>none
def sp49:Abs.Spec:=fun xs bl=>match xs,bl with
 | [.int .i64 n,.int .i64 m],[]=>some (.bool (Zn n m),[])
 | _,_=>none
def sp50:Abs.Spec:=fun xs bl=>match xs,bl with
 | [.agg [.str o1,.str o2,.str o3,.sl 8 els],.agg [.str x,.str y,.str z]],[]=>chk (els.all Zp&&decide (els.length≤1000000)) (some (.tup [.agg [.str ((Zu (els.map Zz) ⟨x,y,z⟩).1).service.name,.str ((Zu (els.map Zz) ⟨x,y,z⟩).1).service.inst,.str ((Zu (els.map Zz) ⟨x,y,z⟩).1).service.realm,.int .u64 ((Zu (els.map Zz) ⟨x,y,z⟩).1).session,.int .i64 ((Zu (els.map Zz) ⟨x,y,z⟩).1).life,.int .i64 ((Zu (els.map Zz) ⟨x,y,z⟩).1).kvno,.int .i64 ((Zu (els.map Zz) ⟨x,y,z⟩).1).issued,.bs ((Zu (els.map Zz) ⟨x,y,z⟩).1).ticket],.bool (Zu (els.map Zz) ⟨x,y,z⟩).2],[]))
 | _,_=>none
def sp51:Abs.Spec:=fun xs bl=>match xs,bl with
 | [.int .i64 n,.int .i64 m],[]=>some (.bool (Zn n m),[])
 | _,_=>none
def sp61:Abs.Spec:=fun xs bl=>match xs,bl with
 | [.int .i64 n,.int .i64 m],[]=>some (.bool (Zn n m),[])
 | _,_=>none
def sp66:Abs.Spec:=fun xs bl=>match xs,bl with
 | [.ptr 0 0,.int .i64 n],[(0,[.bs l,.int .i64 pos])]=>chk (decide (l.length≤4611686018427387904)&&decide (0≤pos)) (some (.int .i64 (Kerb.next l pos n),[[.bs l,.int .i64 (Kerb.nextPos l pos n)]]))
 | _,_=>none
def sp67:Abs.Spec:=fun xs bl=>match xs,bl with
 | [.int .i64 n],[]=>chk (decide (0≤n)&&decide (n≤1000)) (some (.int .u64 (Kerb.session n),[]))
 | _,_=>none
def sp69:Abs.Spec:=fun xs bl=>match xs,bl with
 | [.int .i64 c,.int .i64 n],[]=>some (.int .u64 (cond (Kerb.isClass c&&Kerb.isSerial n) (c*72057594037927936+n) 0),[])
 | _,_=>none
def sp70:Abs.Spec:=fun xs bl=>match xs,bl with
 | [.int .i64 k],[]=>some (.bool (Kerb.isKind k),[])
 | _,_=>none
def sp78:Abs.Spec:=fun xs bl=>match xs,bl with
 | [.str s,.str bad],[]=>chk (decide (s.length≤9223372036854775807)&&decide (bad.length≤100)) (some (.bool (Kerb.printable s bad&&decide (s.length≤39)),[]))
 | _,_=>none
def sp79:Abs.Spec:=fun xs bl=>match xs,bl with
 | [.int .i64 k],[]=>some (.bool (Kerb.isClass k),[])
 | _,_=>none
def sp80:Abs.Spec:=fun xs bl=>match xs,bl with
 | [.int .i64 k],[]=>some (.bool (Kerb.isSerial k),[])
 | _,_=>none
def sp81:Abs.Spec:=fun xs bl=>match xs,bl with
 | [.nils,.int .i64 n],[]=>chk (decide (0≤n)&&decide (n≤140737488355328)) (some (.ownB [],[]))
 | _,_=>none
def sp82:Abs.Spec:=fun xs bl=>match xs,bl with
 | [.bs b],[]=>chk (decide (b.length≤140737488355328)) (some (.bs b,[]))
 | _,_=>none
def sp83:Abs.Spec:=fun xs bl=>match xs,bl with
 | [.int .i64 n],[]=>some (.bool (Zn n 4294967295),[])
 | _,_=>none
def sp84:Abs.Spec:=fun xs bl=>match xs,bl with
 | [.int .i64 n],[]=>some (.bool (Zn n 255),[])
 | _,_=>none
def sp87:Abs.Spec:=fun xs bl=>match xs,bl with
 | [.int .i64 k],[]=>some (.bool (Kerb.isKind k),[])
 | _,_=>none
def sp88:Abs.Spec:=fun xs bl=>match xs,bl with
 | [.int .u64 k],[]=>chk (decide (0≤k)&&decide (k<18446744073709551616)) (some (.bs (Kerb.keyBytes k),[]))
 | _,_=>none
def sp90:Abs.Spec:=fun xs bl=>match xs,bl with
 | [.int .i64 n,.int .i64 m],[]=>some (.bool (Zn n m),[])
 | _,_=>none
def sp91:Abs.Spec:=fun xs bl=>match xs,bl with
 | [.str s,.u8 c],[]=>some (.int .i64 (Kerb.indexOf c s),[])
 | _,_=>none
def sp5:Abs.Spec:=fun xs bl=>match xs,bl with
 | [.agg [.str m1,.str m2,.str m3,.int .i64 ad,.int .i64 sk,.bool li,.str o1,.str o2,.str o3,.sl 8 els,.int .i64 wt,.str w1,.str w2,.str w3,.int .u64 se,.int .i64 tm,.int .i64 lf,.int .i64 cs,.int .i64 tc]],[]=>some (.bool (decide (20<els.length)||(Kerb.longP ⟨m1,m2,m3⟩||(Kerb.longP ⟨w1,w2,w3⟩||Kerb.longP ⟨o1,o2,o3⟩))),[])
 | _,_=>none
def sp14:Abs.Spec:=fun xs bl=>match xs,bl with
 | [.agg [.str m1,.str m2,.str m3],.agg [.str x,.str y,.str z]],[]=>some (.agg [.str [107,114,98,116,103,116],.str z,.str m3],[])
 | _,_=>none
def sp15:Abs.Spec:=fun xs bl=>match xs,bl with
 | [.agg [.str m1,.str m2,.str m3],.agg [.str x,.str y,.str z]],[]=>some (.agg [.str [107,114,98,116,103,116],.str z,.str m3],[])
 | _,_=>none
def sp25:Abs.Spec:=fun xs bl=>match xs,bl with
 | [.agg [.str o1,.str o2,.str o3,.sl 8 els],.agg [.str o1b,.str o2b,.str o3b,.sl 8 elsb]],[]=>chk (els.all Zp&&decide (els.length≤1000000)&&elsb.all Zp&&decide (elsb.length≤1000000)) (some (.bool (Kerb.Cache.same (Zk ⟨o1,o2,o3⟩ (els.map Zz)) (Zk ⟨o1b,o2b,o3b⟩ (elsb.map Zz))),[]))
 | _,_=>none
def sp26:Abs.Spec:=fun xs bl=>match xs,bl with
 | [.int .i64 n],[]=>chk (decide (0≤n)) (some (.str (Kerb.realm n),[]))
 | _,_=>none
def sp48:Abs.Spec:=fun xs bl=>match xs,bl with
 | [.int .u64 k],[]=>chk (decide (0≤k)&&decide (k<18446744073709551616)) (some (.bool (Yy k),[]))
 | _,_=>none
def sp52:Abs.Spec:=fun xs bl=>match xs,bl with
 | [.int .i64 k,.bool little],[]=>some (.bs (Kerb.header k little),[])
 | _,_=>none
def sp63:Abs.Spec:=fun xs bl=>match xs,bl with
 | [.str s],[]=>chk (decide (s.length≤9223372036854775807)) (some (.bool (Kerb.validName s),[]))
 | _,_=>none
def sp64:Abs.Spec:=fun xs bl=>match xs,bl with
 | [.str s],[]=>chk (decide (s.length≤9223372036854775807)) (some (.bool (Kerb.validInst s),[]))
 | _,_=>none
def sp65:Abs.Spec:=fun xs bl=>match xs,bl with
 | [.str s],[]=>chk (decide (s.length≤9223372036854775807)) (some (.bool (Kerb.validRealm s),[]))
 | _,_=>none
def sp68:Abs.Spec:=fun xs bl=>match xs,bl with
 | [.int .u64 k],[]=>chk (decide (0≤k)&&decide (k<18446744073709551616)) (some (.tup [.int .i64 (cond (Yy k) (Kerb.keyClass k) 0),.int .i64 (cond (Yy k) (Kerb.keySerial k) 0),.bool (Yy k)],[]))
 | _,_=>none
def sp72:Abs.Spec:=fun xs bl=>match xs,bl with
 | [.sl 1 els],[]=>chk (allB els&&decide ((catB els).length≤140737488355328)&&decide (els.length≤1000)) (some (.ownB (catB els),[]))
 | _,_=>none
def sp73:Abs.Spec:=fun xs bl=>match xs,bl with
 | [.agg [.str x,.str y,.str z,.int .u64 k,.int .i64 lf,.int .i64 kv,.int .i64 iss,.bs tk]],[]=>chk (decide (tk.length≤140737488355328)) (some (.agg [.str x,.str y,.str z,.int .u64 k,.int .i64 lf,.int .i64 kv,.int .i64 iss,.bs tk],[]))
 | _,_=>none
def sp74:Abs.Spec:=fun xs bl=>match xs,bl with
 | [.int .i64 i,.int .i64 l],[]=>some (.int .i64 (Kerb.tEnd i l),[])
 | _,_=>none
def sp89:Abs.Spec:=fun xs bl=>match xs,bl with
 | [.str s,.u8 c],[]=>some (.int .i64 (Kerb.indexOf c s),[])
 | _,_=>none
def sp9:Abs.Spec:=fun xs bl=>match xs,bl with
 | [.agg [.str m1,.str m2,.str m3,.int .i64 ad,.int .i64 sk,.bool li,.str o1,.str o2,.str o3,.sl 8 els,.int .i64 wt,.str w1,.str w2,.str w3,.int .u64 se,.int .i64 tm,.int .i64 lf,.int .i64 cs,.int .i64 tc],.agg [.str m1b,.str m2b,.str m3b,.int .i64 adb,.int .i64 skb,.bool lib,.str o1b,.str o2b,.str o3b,.sl 8 elsb,.int .i64 wtb,.str w1b,.str w2b,.str w3b,.int .u64 seb,.int .i64 tmb,.int .i64 lfb,.int .i64 csb,.int .i64 tcb]],[]=>chk (els.all Zp&&decide (els.length≤1000000)&&elsb.all Zp&&decide (elsb.length≤1000000)) (some (.bool (Kerb.Client.same (Zy ⟨m1,m2,m3⟩ ad sk li ⟨⟨o1,o2,o3⟩,els.map Zz⟩ wt ⟨w1,w2,w3⟩ se tm lf cs tc) (Zy ⟨m1b,m2b,m3b⟩ adb skb lib ⟨⟨o1b,o2b,o3b⟩,elsb.map Zz⟩ wtb ⟨w1b,w2b,w3b⟩ seb tmb lfb csb tcb)),[]))
 | _,_=>none
def sp10:Abs.Spec:=fun xs bl=>match xs,bl with
 | [.int .i64 n],[]=>chk (decide (0≤n)&&decide (n≤4611686018427387904)) (some (.agg [.str (Kerb.user n).name,.str (Kerb.user n).inst,.str (Kerb.user n).realm],[]))
 | _,_=>none
def sp18:Abs.Spec:=fun xs bl=>match xs,bl with
 | [.int .i64 n],[]=>chk (decide (0≤n)&&decide (n≤4611686018427387904)) (some (.agg [.str (Kerb.service n).name,.str (Kerb.service n).inst,.str (Kerb.service n).realm],[]))
 | _,_=>none
def sp40:Abs.Spec:=fun xs bl=>match xs,bl with
 | [.agg [.str a,.str b,.str c]],[]=>chk (decide (a.length≤9223372036854775807)&&decide (b.length≤9223372036854775807)&&decide (c.length≤9223372036854775807)) (some (.bool (Zj ⟨a,b,c⟩),[]))
 | _,_=>none
def sp45:Abs.Spec:=fun xs bl=>match xs,bl with
 | [.int .u64 k],[]=>chk (decide (0≤k)&&decide (k<18446744073709551616)) (some (.bool (Yy k),[]))
 | _,_=>none
def sp56:Abs.Spec:=fun xs bl=>match xs,bl with
 | [.bs b,.str s],[]=>chk (decide (b.length+s.length≤70368744177664)) (some (.bs (Kerb.putText b s),[]))
 | _,_=>none
def sp57:Abs.Spec:=fun xs bl=>match xs,bl with
 | [.agg [.str o1,.str o2,.str o3,.sl 8 els],.agg [.str x,.str y,.str z]],[]=>chk (els.all Zp&&decide (els.length≤1000000)&&els.all Kerb.fitCred) (some (.tup [.agg [.str ((Zu (els.map Zz) ⟨x,y,z⟩).1).service.name,.str ((Zu (els.map Zz) ⟨x,y,z⟩).1).service.inst,.str ((Zu (els.map Zz) ⟨x,y,z⟩).1).service.realm,.int .u64 ((Zu (els.map Zz) ⟨x,y,z⟩).1).session,.int .i64 ((Zu (els.map Zz) ⟨x,y,z⟩).1).life,.int .i64 ((Zu (els.map Zz) ⟨x,y,z⟩).1).kvno,.int .i64 ((Zu (els.map Zz) ⟨x,y,z⟩).1).issued,.bs ((Zu (els.map Zz) ⟨x,y,z⟩).1).ticket],.bool (Zu (els.map Zz) ⟨x,y,z⟩).2],[]))
 | _,_=>none
def sp58:Abs.Spec:=fun xs bl=>match xs,bl with
 | [.agg [.str x,.str y,.str z,.int .u64 k,.int .i64 lf,.int .i64 kv,.int .i64 iss,.bs tk],.int .i64 now],[]=>some (.bool ((Zg ⟨x,y,z⟩ k lf kv iss tk).expired now),[])
 | _,_=>none
def sp71:Abs.Spec:=fun xs bl=>match xs,bl with
 | [.bs b,.int .i64 n,.int .i64 k,.bool little],[]=>chk (decide (k=1∨k=2∨k=4)&&decide (b.length≤70368744177664)) (some (.ownB (b++Kerb.putN n k.toNat little),[]))
 | _,_=>none
def sp77:Abs.Spec:=fun xs bl=>match xs,bl with
 | [.str s,.u8 c],[]=>some (.int .i64 (Kerb.indexOf c s),[])
 | _,_=>none
def sp86:Abs.Spec:=fun xs bl=>match xs,bl with
 | [.bs b],[]=>chk (decide (b.length≤70368744177664)) (some (.bs (Kerb.pad b),[]))
 | _,_=>none
def sp23:Abs.Spec:=fun xs bl=>match xs,bl with
 | [.agg [.str x,.str y,.str z]],[]=>chk (decide (x.length≤9223372036854775807)&&decide (y.length≤9223372036854775807)&&decide (z.length≤9223372036854775807)) (some (.tup [.agg [.str (cond (Zj ⟨x,y,z⟩) (Zk ⟨x,y,z⟩ []) Zm).owner.name,.str (cond (Zj ⟨x,y,z⟩) (Zk ⟨x,y,z⟩ []) Zm).owner.inst,.str (cond (Zj ⟨x,y,z⟩) (Zk ⟨x,y,z⟩ []) Zm).owner.realm,.sl 8 ((cond (Zj ⟨x,y,z⟩) (Zk ⟨x,y,z⟩ []) Zm).creds.map Zb)],.int .i64 (cond (Zj ⟨x,y,z⟩) 0 103)],[]))
 | _,_=>none
def sp29:Abs.Spec:=fun xs bl=>match xs,bl with
 | [.agg [.str o1,.str o2,.str o3,.sl 8 els]],[]=>chk (decide (o1.length≤9223372036854775807)&&decide (o2.length≤9223372036854775807)&&decide (o3.length≤9223372036854775807)&&els.all Zp&&decide (els.length≤1000000)) (some (.int .i64 (Zk ⟨o1,o2,o3⟩ (els.map Zz)).err,[]))
 | _,_=>none
def sp34:Abs.Spec:=fun xs bl=>match xs,bl with
 | [.agg [.str o1,.str o2,.str o3,.sl 8 els],.agg [.str x,.str y,.str z],.int .i64 now],[]=>chk (els.all Zp&&decide (els.length≤1000000)&&els.all Kerb.fitCred) (some (.tup [.agg [.str ((Zd (els.map Zz) ⟨x,y,z⟩ now).val).service.name,.str ((Zd (els.map Zz) ⟨x,y,z⟩ now).val).service.inst,.str ((Zd (els.map Zz) ⟨x,y,z⟩ now).val).service.realm,.int .u64 ((Zd (els.map Zz) ⟨x,y,z⟩ now).val).session,.int .i64 ((Zd (els.map Zz) ⟨x,y,z⟩ now).val).life,.int .i64 ((Zd (els.map Zz) ⟨x,y,z⟩ now).val).kvno,.int .i64 ((Zd (els.map Zz) ⟨x,y,z⟩ now).val).issued,.bs ((Zd (els.map Zz) ⟨x,y,z⟩ now).val).ticket],.int .i64 (Zd (els.map Zz) ⟨x,y,z⟩ now).err],[]))
 | _,_=>none
def sp44:Abs.Spec:=fun xs bl=>match xs,bl with
 | [.ptr 0 0],[(0,[.bs l,.int .i64 pos])]=>chk (decide (l.length≤1000000)&&decide (0≤pos)) (some (.agg [.str (Zf l pos).service.name,.str (Zf l pos).service.inst,.str (Zf l pos).service.realm,.int .u64 (Zf l pos).session,.int .i64 (Zf l pos).life,.int .i64 (Zf l pos).kvno,.int .i64 (Zf l pos).issued,.bs (Zf l pos).ticket],[[.bs l,.int .i64 (Kerb.dataPos l pos)]]))
 | _,_=>none
def sp53:Abs.Spec:=fun xs bl=>match xs,bl with
 | [.bs b,.agg [.str x,.str y,.str z]],[]=>chk (decide (b.length+x.length+y.length+z.length≤70368744170000)) (some (.bs (Kerb.putPrin b ⟨x,y,z⟩),[]))
 | _,_=>none
def sp54:Abs.Spec:=fun xs bl=>match xs,bl with
 | [.bs b,.int .i64 n,.bool little],[]=>chk (decide (b.length≤70368744177664)) (some (.ownB (b++Kerb.putN n 4 little),[]))
 | _,_=>none
def sp55:Abs.Spec:=fun xs bl=>match xs,bl with
 | [.bs b,.int .i64 n],[]=>chk (decide (b.length≤70368744177664)) (some (.ownB (b++Kerb.putN n 1 false),[]))
 | _,_=>none
def sp62:Abs.Spec:=fun xs bl=>match xs,bl with
 | [.str s,.str bad],[]=>chk (decide (s.length≤9223372036854775807)) (some (.bool (Kerb.printable s bad),[]))
 | _,_=>none
def sp76:Abs.Spec:=fun xs bl=>match xs,bl with
 | [.int .i64 kd,.int .u64 k,.bs bd],[]=>chk (decide (0≤k)&&decide (k<18446744073709551616)) (some (.tup [.bs (Kerb.makeBox kd k bd).val,.int .i64 (Kerb.makeBox kd k bd).err],[]))
 | _,_=>none
def sp8:Abs.Spec:=fun xs bl=>match xs,bl with
 | [.agg [.str x,.str y,.str z],.int .i64 ad,.int .i64 sk,.bool li],[]=>chk (decide (x.length≤9223372036854775807)&&decide (y.length≤9223372036854775807)&&decide (z.length≤9223372036854775807)) (some (.tup [.agg [.str ((Zx ⟨x,y,z⟩ ad sk li).val).me.name,.str ((Zx ⟨x,y,z⟩ ad sk li).val).me.inst,.str ((Zx ⟨x,y,z⟩ ad sk li).val).me.realm,.int .i64 ((Zx ⟨x,y,z⟩ ad sk li).val).address,.int .i64 ((Zx ⟨x,y,z⟩ ad sk li).val).skew,.bool ((Zx ⟨x,y,z⟩ ad sk li).val).little,.str ((Zx ⟨x,y,z⟩ ad sk li).val).cache.owner.name,.str ((Zx ⟨x,y,z⟩ ad sk li).val).cache.owner.inst,.str ((Zx ⟨x,y,z⟩ ad sk li).val).cache.owner.realm,.sl 8 (((Zx ⟨x,y,z⟩ ad sk li).val).cache.creds.map Zb),.int .i64 ((Zx ⟨x,y,z⟩ ad sk li).val).wait,.str ((Zx ⟨x,y,z⟩ ad sk li).val).wanted.name,.str ((Zx ⟨x,y,z⟩ ad sk li).val).wanted.inst,.str ((Zx ⟨x,y,z⟩ ad sk li).val).wanted.realm,.int .u64 ((Zx ⟨x,y,z⟩ ad sk li).val).session,.int .i64 ((Zx ⟨x,y,z⟩ ad sk li).val).time,.int .i64 ((Zx ⟨x,y,z⟩ ad sk li).val).life,.int .i64 ((Zx ⟨x,y,z⟩ ad sk li).val).checksum,.int .i64 ((Zx ⟨x,y,z⟩ ad sk li).val).tick],.int .i64 (Zx ⟨x,y,z⟩ ad sk li).err],[]))
 | _,_=>none
def sp27:Abs.Spec:=fun xs bl=>match xs,bl with
 | [.bs l,.int .i64 n],[]=>chk (decide (l.length≤1000000)&&decide (0≤n)&&decide (n≤1000)) (some (.agg [.str (Kerb.dataCache l n).owner.name,.str (Kerb.dataCache l n).owner.inst,.str (Kerb.dataCache l n).owner.realm,.ownL ((Kerb.dataCache l n).creds.map Zb)],[]))
 | _,_=>none
def sp37:Abs.Spec:=fun xs bl=>match xs,bl with
 | [.str s],[]=>chk (decide (s.length≤9223372036854775807)) (some (.bool (Kerb.validName s),[]))
 | _,_=>none
def sp38:Abs.Spec:=fun xs bl=>match xs,bl with
 | [.str s],[]=>chk (decide (s.length≤9223372036854775807)) (some (.bool (Kerb.validInst s),[]))
 | _,_=>none
def sp11:Abs.Spec:=fun xs bl=>match xs,bl with
 | [.agg [.u8 pw,.u8 ps,.bool pl,.bs pc]],[]=>some (.agg [.str (Zw pw ps pl pc).me.name,.str (Zw pw ps pl pc).me.inst,.str (Zw pw ps pl pc).me.realm,.int .i64 (Zw pw ps pl pc).address,.int .i64 (Zw pw ps pl pc).skew,.bool (Zw pw ps pl pc).little,.str (Zw pw ps pl pc).cache.owner.name,.str (Zw pw ps pl pc).cache.owner.inst,.str (Zw pw ps pl pc).cache.owner.realm,.ownL ((Zw pw ps pl pc).cache.creds.map Zb),.int .i64 (Zw pw ps pl pc).wait,.str (Zw pw ps pl pc).wanted.name,.str (Zw pw ps pl pc).wanted.inst,.str (Zw pw ps pl pc).wanted.realm,.int .u64 (Zw pw ps pl pc).session,.int .i64 (Zw pw ps pl pc).time,.int .i64 (Zw pw ps pl pc).life,.int .i64 (Zw pw ps pl pc).checksum,.int .i64 (Zw pw ps pl pc).tick],[])
 | _,_=>none
def sp13:Abs.Spec:=fun xs bl=>match xs,bl with
 | [.agg [.str m1,.str m2,.str m3,.int .i64 ad,.int .i64 sk,.bool li,.str o1,.str o2,.str o3,.sl 8 els,.int .i64 wt,.str w1,.str w2,.str w3,.int .u64 se,.int .i64 tm,.int .i64 lf,.int .i64 cs,.int .i64 tc]],[]=>chk (decide (m1.length≤9223372036854775807)&&decide (m2.length≤9223372036854775807)&&decide (m3.length≤9223372036854775807)&&decide (o1.length≤9223372036854775807)&&decide (o2.length≤9223372036854775807)&&decide (o3.length≤9223372036854775807)&&els.all Zp&&decide (els.length≤1000000)) (some (.int .i64 (Zy ⟨m1,m2,m3⟩ ad sk li ⟨⟨o1,o2,o3⟩,els.map Zz⟩ wt ⟨w1,w2,w3⟩ se tm lf cs tc).err,[]))
 | _,_=>none
def sp39:Abs.Spec:=fun xs bl=>match xs,bl with
 | [.str s],[]=>chk (decide (s.length≤9223372036854775807)) (some (.bool (Kerb.validRealm s),[]))
 | _,_=>none
def sp19:Abs.Spec:=fun xs bl=>match xs,bl with
 | [.agg [.str a,.str b,.str c]],[]=>chk (decide (a.length≤9223372036854775807)&&decide (b.length≤9223372036854775807)&&decide (c.length≤9223372036854775807)) (some (.bool (Zj ⟨a,b,c⟩),[]))
 | _,_=>none
def sp60:Abs.Spec:=fun xs bl=>match xs,bl with
 | [.agg [.bool li,.bool mu,.int .i64 kv,.str rl,.bs tk,.bs au]],[]=>chk (decide (rl.length≤9223372036854775807)) (some (.tup [.bs (Kerb.encodeAp (Zh li mu kv rl tk au)).val,.int .i64 (Kerb.encodeAp (Zh li mu kv rl tk au)).err],[]))
 | _,_=>none
def sp21:Abs.Spec:=fun xs bl=>match xs,bl with
 | [.agg [.str x,.str y,.str z]],[]=>chk (decide (x.length≤9223372036854775807)&&decide (y.length≤9223372036854775807)&&decide (z.length≤9223372036854775807)) (some (.tup [.agg [.str (cond (Zj ⟨x,y,z⟩) (Zk ⟨x,y,z⟩ []) Zm).owner.name,.str (cond (Zj ⟨x,y,z⟩) (Zk ⟨x,y,z⟩ []) Zm).owner.inst,.str (cond (Zj ⟨x,y,z⟩) (Zk ⟨x,y,z⟩ []) Zm).owner.realm,.sl 8 ((cond (Zj ⟨x,y,z⟩) (Zk ⟨x,y,z⟩ []) Zm).creds.map Zb)],.int .i64 (cond (Zj ⟨x,y,z⟩) 0 103)],[]))
 | _,_=>none
def sp28:Abs.Spec:=fun xs bl=>match xs,bl with
 | [.agg [.str o1,.str o2,.str o3,.sl 8 els]],[]=>chk (decide (o1.length≤9223372036854775807)&&decide (o2.length≤9223372036854775807)&&decide (o3.length≤9223372036854775807)&&els.all Zp&&decide (els.length≤1000000)) (some (.int .i64 (Zk ⟨o1,o2,o3⟩ (els.map Zz)).err,[]))
 | _,_=>none
def sp32:Abs.Spec:=fun xs bl=>match xs,bl with
 | [.agg [.bool li,.str x,.str y,.str z,.int .i64 t,.int .i64 lf,.str sv,.str ins]],[]=>chk (decide (x.length≤9223372036854775807)&&decide (y.length≤9223372036854775807)&&decide (z.length≤9223372036854775807)&&decide (sv.length≤9223372036854775807)&&decide (ins.length≤9223372036854775807)) (some (.tup [.bs (Kerb.encodeRequest ⟨li,⟨x,y,z⟩,t,lf,sv,ins⟩).val,.int .i64 (Kerb.encodeRequest ⟨li,⟨x,y,z⟩,t,lf,sv,ins⟩).err],[]))
 | _,_=>none
def sp36:Abs.Spec:=fun xs bl=>match xs,bl with
 | [.agg [.bool li,.bool mu,.int .i64 kv,.str rl,.bs tk,.bs au,.int .i64 tm,.int .i64 lf,.str sv,.str ins]],[]=>chk (decide (rl.length≤9223372036854775807)&&decide (sv.length≤9223372036854775807)&&decide (ins.length≤9223372036854775807)) (some (.tup [.bs (Kerb.encodeTgs (Kerb.TgsRequest.mk (Zh li mu kv rl tk au) tm lf sv ins)).val,.int .i64 (Kerb.encodeTgs (Kerb.TgsRequest.mk (Zh li mu kv rl tk au) tm lf sv ins)).err],[]))
 | _,_=>none
def sp85:Abs.Spec:=fun xs bl=>match xs,bl with
 | [.agg [.str x,.str y,.str z,.int .i64 ck,.int .i64 tc,.int .i64 tm]],[]=>chk (decide (x.length≤9223372036854775807)&&decide (y.length≤9223372036854775807)&&decide (z.length≤9223372036854775807)) (some (.int .i64 (Yz ⟨x,y,z⟩ ck tc tm).check,[]))
 | _,_=>none
def sp7:Abs.Spec:=fun xs bl=>match xs,bl with
 | [.agg [.str x,.str y,.str z],.int .i64 ad,.int .i64 sk,.bool li],[]=>chk (decide (x.length≤9223372036854775807)&&decide (y.length≤9223372036854775807)&&decide (z.length≤9223372036854775807)) (some (.tup [.agg [.str ((Zx ⟨x,y,z⟩ ad sk li).val).me.name,.str ((Zx ⟨x,y,z⟩ ad sk li).val).me.inst,.str ((Zx ⟨x,y,z⟩ ad sk li).val).me.realm,.int .i64 ((Zx ⟨x,y,z⟩ ad sk li).val).address,.int .i64 ((Zx ⟨x,y,z⟩ ad sk li).val).skew,.bool ((Zx ⟨x,y,z⟩ ad sk li).val).little,.str ((Zx ⟨x,y,z⟩ ad sk li).val).cache.owner.name,.str ((Zx ⟨x,y,z⟩ ad sk li).val).cache.owner.inst,.str ((Zx ⟨x,y,z⟩ ad sk li).val).cache.owner.realm,.sl 8 (((Zx ⟨x,y,z⟩ ad sk li).val).cache.creds.map Zb),.int .i64 ((Zx ⟨x,y,z⟩ ad sk li).val).wait,.str ((Zx ⟨x,y,z⟩ ad sk li).val).wanted.name,.str ((Zx ⟨x,y,z⟩ ad sk li).val).wanted.inst,.str ((Zx ⟨x,y,z⟩ ad sk li).val).wanted.realm,.int .u64 ((Zx ⟨x,y,z⟩ ad sk li).val).session,.int .i64 ((Zx ⟨x,y,z⟩ ad sk li).val).time,.int .i64 ((Zx ⟨x,y,z⟩ ad sk li).val).life,.int .i64 ((Zx ⟨x,y,z⟩ ad sk li).val).checksum,.int .i64 ((Zx ⟨x,y,z⟩ ad sk li).val).tick],.int .i64 (Zx ⟨x,y,z⟩ ad sk li).err],[]))
 | _,_=>none
def sp12:Abs.Spec:=fun xs bl=>match xs,bl with
 | [.agg [.str m1,.str m2,.str m3,.int .i64 ad,.int .i64 sk,.bool li,.str o1,.str o2,.str o3,.sl 8 els,.int .i64 wt,.str w1,.str w2,.str w3,.int .u64 se,.int .i64 tm,.int .i64 lf,.int .i64 cs,.int .i64 tc]],[]=>chk (decide (m1.length≤9223372036854775807)&&decide (m2.length≤9223372036854775807)&&decide (m3.length≤9223372036854775807)&&decide (o1.length≤9223372036854775807)&&decide (o2.length≤9223372036854775807)&&decide (o3.length≤9223372036854775807)&&els.all Zp&&decide (els.length≤1000000)) (some (.int .i64 (Zy ⟨m1,m2,m3⟩ ad sk li ⟨⟨o1,o2,o3⟩,els.map Zz⟩ wt ⟨w1,w2,w3⟩ se tm lf cs tc).err,[]))
 | _,_=>none
def sp75:Abs.Spec:=fun xs bl=>match xs,bl with
 | [.agg [.str x,.str y,.str z,.int .i64 ck,.int .i64 tc,.int .i64 tm],.bool li],[]=>chk (decide (x.length≤9223372036854775807)&&decide (y.length≤9223372036854775807)&&decide (z.length≤9223372036854775807)) (some (.tup [.bs (Kerb.encodeAuth (Yz ⟨x,y,z⟩ ck tc tm) li).val,.int .i64 (Kerb.encodeAuth (Yz ⟨x,y,z⟩ ck tc tm) li).err],[]))
 | _,_=>none
def sp16:Abs.Spec:=fun xs bl=>match xs,bl with
 | [.agg [.str m1,.str m2,.str m3,.int .i64 ad,.int .i64 sk,.bool li,.str o1,.str o2,.str o3,.sl 8 els,.int .i64 wt,.str w1,.str w2,.str w3,.int .u64 se,.int .i64 tm,.int .i64 lf,.int .i64 cs,.int .i64 tc],.int .i64 life,.int .i64 now],[]=>chk (decide (m1.length≤9223372036854775807)&&decide (m2.length≤9223372036854775807)&&decide (m3.length≤9223372036854775807)&&decide (o1.length≤9223372036854775807)&&decide (o2.length≤9223372036854775807)&&decide (o3.length≤9223372036854775807)&&els.all Zp&&decide (els.length≤1000000)) (some (.tup [.agg [.str ((Zq (Zy ⟨m1,m2,m3⟩ ad sk li ⟨⟨o1,o2,o3⟩,els.map Zz⟩ wt ⟨w1,w2,w3⟩ se tm lf cs tc) life now).c).me.name,.str ((Zq (Zy ⟨m1,m2,m3⟩ ad sk li ⟨⟨o1,o2,o3⟩,els.map Zz⟩ wt ⟨w1,w2,w3⟩ se tm lf cs tc) life now).c).me.inst,.str ((Zq (Zy ⟨m1,m2,m3⟩ ad sk li ⟨⟨o1,o2,o3⟩,els.map Zz⟩ wt ⟨w1,w2,w3⟩ se tm lf cs tc) life now).c).me.realm,.int .i64 ((Zq (Zy ⟨m1,m2,m3⟩ ad sk li ⟨⟨o1,o2,o3⟩,els.map Zz⟩ wt ⟨w1,w2,w3⟩ se tm lf cs tc) life now).c).address,.int .i64 ((Zq (Zy ⟨m1,m2,m3⟩ ad sk li ⟨⟨o1,o2,o3⟩,els.map Zz⟩ wt ⟨w1,w2,w3⟩ se tm lf cs tc) life now).c).skew,.bool ((Zq (Zy ⟨m1,m2,m3⟩ ad sk li ⟨⟨o1,o2,o3⟩,els.map Zz⟩ wt ⟨w1,w2,w3⟩ se tm lf cs tc) life now).c).little,.str ((Zq (Zy ⟨m1,m2,m3⟩ ad sk li ⟨⟨o1,o2,o3⟩,els.map Zz⟩ wt ⟨w1,w2,w3⟩ se tm lf cs tc) life now).c).cache.owner.name,.str ((Zq (Zy ⟨m1,m2,m3⟩ ad sk li ⟨⟨o1,o2,o3⟩,els.map Zz⟩ wt ⟨w1,w2,w3⟩ se tm lf cs tc) life now).c).cache.owner.inst,.str ((Zq (Zy ⟨m1,m2,m3⟩ ad sk li ⟨⟨o1,o2,o3⟩,els.map Zz⟩ wt ⟨w1,w2,w3⟩ se tm lf cs tc) life now).c).cache.owner.realm,.sl 8 (((Zq (Zy ⟨m1,m2,m3⟩ ad sk li ⟨⟨o1,o2,o3⟩,els.map Zz⟩ wt ⟨w1,w2,w3⟩ se tm lf cs tc) life now).c).cache.creds.map Zb),.int .i64 ((Zq (Zy ⟨m1,m2,m3⟩ ad sk li ⟨⟨o1,o2,o3⟩,els.map Zz⟩ wt ⟨w1,w2,w3⟩ se tm lf cs tc) life now).c).wait,.str ((Zq (Zy ⟨m1,m2,m3⟩ ad sk li ⟨⟨o1,o2,o3⟩,els.map Zz⟩ wt ⟨w1,w2,w3⟩ se tm lf cs tc) life now).c).wanted.name,.str ((Zq (Zy ⟨m1,m2,m3⟩ ad sk li ⟨⟨o1,o2,o3⟩,els.map Zz⟩ wt ⟨w1,w2,w3⟩ se tm lf cs tc) life now).c).wanted.inst,.str ((Zq (Zy ⟨m1,m2,m3⟩ ad sk li ⟨⟨o1,o2,o3⟩,els.map Zz⟩ wt ⟨w1,w2,w3⟩ se tm lf cs tc) life now).c).wanted.realm,.int .u64 ((Zq (Zy ⟨m1,m2,m3⟩ ad sk li ⟨⟨o1,o2,o3⟩,els.map Zz⟩ wt ⟨w1,w2,w3⟩ se tm lf cs tc) life now).c).session,.int .i64 ((Zq (Zy ⟨m1,m2,m3⟩ ad sk li ⟨⟨o1,o2,o3⟩,els.map Zz⟩ wt ⟨w1,w2,w3⟩ se tm lf cs tc) life now).c).time,.int .i64 ((Zq (Zy ⟨m1,m2,m3⟩ ad sk li ⟨⟨o1,o2,o3⟩,els.map Zz⟩ wt ⟨w1,w2,w3⟩ se tm lf cs tc) life now).c).life,.int .i64 ((Zq (Zy ⟨m1,m2,m3⟩ ad sk li ⟨⟨o1,o2,o3⟩,els.map Zz⟩ wt ⟨w1,w2,w3⟩ se tm lf cs tc) life now).c).checksum,.int .i64 ((Zq (Zy ⟨m1,m2,m3⟩ ad sk li ⟨⟨o1,o2,o3⟩,els.map Zz⟩ wt ⟨w1,w2,w3⟩ se tm lf cs tc) life now).c).tick],.bs (Zq (Zy ⟨m1,m2,m3⟩ ad sk li ⟨⟨o1,o2,o3⟩,els.map Zz⟩ wt ⟨w1,w2,w3⟩ se tm lf cs tc) life now).msg,.int .i64 (Zq (Zy ⟨m1,m2,m3⟩ ad sk li ⟨⟨o1,o2,o3⟩,els.map Zz⟩ wt ⟨w1,w2,w3⟩ se tm lf cs tc) life now).err],[]))
 | _,_=>none
def sp59:Abs.Spec:=fun xs bl=>match xs,bl with
 | [.agg [.str x,.str y,.str z,.int .i64 ck,.int .i64 tc,.int .i64 tm],.bool li,.int .u64 k],[]=>chk (decide (x.length≤9223372036854775807)&&decide (y.length≤9223372036854775807)&&decide (z.length≤9223372036854775807)&&decide (0≤k)&&decide (k<18446744073709551616)) (some (.tup [.bs (Kerb.sealAuth (Yz ⟨x,y,z⟩ ck tc tm) li k).val,.int .i64 (Kerb.sealAuth (Yz ⟨x,y,z⟩ ck tc tm) li k).err],[]))
 | _,_=>none
def sp35:Abs.Spec:=fun xs bl=>match xs,bl with
 | [.agg [.str m1,.str m2,.str m3,.int .i64 ad,.int .i64 sk,.bool li,.str o1,.str o2,.str o3,.sl 8 els,.int .i64 wt,.str w1,.str w2,.str w3,.int .u64 se,.int .i64 tm,.int .i64 lf,.int .i64 cs,.int .i64 tc],.agg [.str s1,.str s2,.str s3,.int .u64 sk2,.int .i64 lf2,.int .i64 kv2,.int .i64 is2,.bs tk2],.bool mu,.agg [.str x,.str y,.str z,.int .i64 ck,.int .i64 tc2,.int .i64 tm2]],[]=>chk (decide (x.length≤9223372036854775807)&&decide (y.length≤9223372036854775807)&&decide (z.length≤9223372036854775807)&&decide (0≤sk2)&&decide (sk2<18446744073709551616)) (some (.tup [.agg [.bool (Kerb.apOf (Zy ⟨m1,m2,m3⟩ ad sk li ⟨⟨o1,o2,o3⟩,els.map Zz⟩ wt ⟨w1,w2,w3⟩ se tm lf cs tc) (Zg ⟨s1,s2,s3⟩ sk2 lf2 kv2 is2 tk2) mu ⟨⟨x,y,z⟩,ck,tc2,tm2⟩).val.little,.bool (Kerb.apOf (Zy ⟨m1,m2,m3⟩ ad sk li ⟨⟨o1,o2,o3⟩,els.map Zz⟩ wt ⟨w1,w2,w3⟩ se tm lf cs tc) (Zg ⟨s1,s2,s3⟩ sk2 lf2 kv2 is2 tk2) mu ⟨⟨x,y,z⟩,ck,tc2,tm2⟩).val.mutual_,.int .i64 (Kerb.apOf (Zy ⟨m1,m2,m3⟩ ad sk li ⟨⟨o1,o2,o3⟩,els.map Zz⟩ wt ⟨w1,w2,w3⟩ se tm lf cs tc) (Zg ⟨s1,s2,s3⟩ sk2 lf2 kv2 is2 tk2) mu ⟨⟨x,y,z⟩,ck,tc2,tm2⟩).val.kvno,.str (Kerb.apOf (Zy ⟨m1,m2,m3⟩ ad sk li ⟨⟨o1,o2,o3⟩,els.map Zz⟩ wt ⟨w1,w2,w3⟩ se tm lf cs tc) (Zg ⟨s1,s2,s3⟩ sk2 lf2 kv2 is2 tk2) mu ⟨⟨x,y,z⟩,ck,tc2,tm2⟩).val.realm,.bs (Kerb.apOf (Zy ⟨m1,m2,m3⟩ ad sk li ⟨⟨o1,o2,o3⟩,els.map Zz⟩ wt ⟨w1,w2,w3⟩ se tm lf cs tc) (Zg ⟨s1,s2,s3⟩ sk2 lf2 kv2 is2 tk2) mu ⟨⟨x,y,z⟩,ck,tc2,tm2⟩).val.ticket,.bs (Kerb.apOf (Zy ⟨m1,m2,m3⟩ ad sk li ⟨⟨o1,o2,o3⟩,els.map Zz⟩ wt ⟨w1,w2,w3⟩ se tm lf cs tc) (Zg ⟨s1,s2,s3⟩ sk2 lf2 kv2 is2 tk2) mu ⟨⟨x,y,z⟩,ck,tc2,tm2⟩).val.auth],.int .i64 (Kerb.apOf (Zy ⟨m1,m2,m3⟩ ad sk li ⟨⟨o1,o2,o3⟩,els.map Zz⟩ wt ⟨w1,w2,w3⟩ se tm lf cs tc) (Zg ⟨s1,s2,s3⟩ sk2 lf2 kv2 is2 tk2) mu ⟨⟨x,y,z⟩,ck,tc2,tm2⟩).err],[]))
 | _,_=>none
def sp17:Abs.Spec:=fun xs bl=>match xs,bl with
 | [.agg [.str m1,.str m2,.str m3,.int .i64 ad,.int .i64 sk,.bool li,.str o1,.str o2,.str o3,.sl 8 els,.int .i64 wt,.str w1,.str w2,.str w3,.int .u64 se,.int .i64 tm,.int .i64 lf,.int .i64 cs,.int .i64 tc],.agg [.str x,.str y,.str z],.int .i64 life,.int .i64 now,.int .i64 tick],[]=>chk (decide (m1.length≤9223372036854775807)&&decide (m2.length≤9223372036854775807)&&decide (m3.length≤9223372036854775807)&&decide (o1.length≤9223372036854775807)&&decide (o2.length≤9223372036854775807)&&decide (o3.length≤9223372036854775807)&&els.all Zp&&decide (els.length≤1000000)&&decide (x.length≤9223372036854775807)&&decide (y.length≤9223372036854775807)&&decide (z.length≤9223372036854775807)) (some (.tup [.agg [.str ((Zv (Zy ⟨m1,m2,m3⟩ ad sk li ⟨⟨o1,o2,o3⟩,els.map Zz⟩ wt ⟨w1,w2,w3⟩ se tm lf cs tc) ⟨x,y,z⟩ life now tick).c).me.name,.str ((Zv (Zy ⟨m1,m2,m3⟩ ad sk li ⟨⟨o1,o2,o3⟩,els.map Zz⟩ wt ⟨w1,w2,w3⟩ se tm lf cs tc) ⟨x,y,z⟩ life now tick).c).me.inst,.str ((Zv (Zy ⟨m1,m2,m3⟩ ad sk li ⟨⟨o1,o2,o3⟩,els.map Zz⟩ wt ⟨w1,w2,w3⟩ se tm lf cs tc) ⟨x,y,z⟩ life now tick).c).me.realm,.int .i64 ((Zv (Zy ⟨m1,m2,m3⟩ ad sk li ⟨⟨o1,o2,o3⟩,els.map Zz⟩ wt ⟨w1,w2,w3⟩ se tm lf cs tc) ⟨x,y,z⟩ life now tick).c).address,.int .i64 ((Zv (Zy ⟨m1,m2,m3⟩ ad sk li ⟨⟨o1,o2,o3⟩,els.map Zz⟩ wt ⟨w1,w2,w3⟩ se tm lf cs tc) ⟨x,y,z⟩ life now tick).c).skew,.bool ((Zv (Zy ⟨m1,m2,m3⟩ ad sk li ⟨⟨o1,o2,o3⟩,els.map Zz⟩ wt ⟨w1,w2,w3⟩ se tm lf cs tc) ⟨x,y,z⟩ life now tick).c).little,.str ((Zv (Zy ⟨m1,m2,m3⟩ ad sk li ⟨⟨o1,o2,o3⟩,els.map Zz⟩ wt ⟨w1,w2,w3⟩ se tm lf cs tc) ⟨x,y,z⟩ life now tick).c).cache.owner.name,.str ((Zv (Zy ⟨m1,m2,m3⟩ ad sk li ⟨⟨o1,o2,o3⟩,els.map Zz⟩ wt ⟨w1,w2,w3⟩ se tm lf cs tc) ⟨x,y,z⟩ life now tick).c).cache.owner.inst,.str ((Zv (Zy ⟨m1,m2,m3⟩ ad sk li ⟨⟨o1,o2,o3⟩,els.map Zz⟩ wt ⟨w1,w2,w3⟩ se tm lf cs tc) ⟨x,y,z⟩ life now tick).c).cache.owner.realm,.sl 8 (((Zv (Zy ⟨m1,m2,m3⟩ ad sk li ⟨⟨o1,o2,o3⟩,els.map Zz⟩ wt ⟨w1,w2,w3⟩ se tm lf cs tc) ⟨x,y,z⟩ life now tick).c).cache.creds.map Zb),.int .i64 ((Zv (Zy ⟨m1,m2,m3⟩ ad sk li ⟨⟨o1,o2,o3⟩,els.map Zz⟩ wt ⟨w1,w2,w3⟩ se tm lf cs tc) ⟨x,y,z⟩ life now tick).c).wait,.str ((Zv (Zy ⟨m1,m2,m3⟩ ad sk li ⟨⟨o1,o2,o3⟩,els.map Zz⟩ wt ⟨w1,w2,w3⟩ se tm lf cs tc) ⟨x,y,z⟩ life now tick).c).wanted.name,.str ((Zv (Zy ⟨m1,m2,m3⟩ ad sk li ⟨⟨o1,o2,o3⟩,els.map Zz⟩ wt ⟨w1,w2,w3⟩ se tm lf cs tc) ⟨x,y,z⟩ life now tick).c).wanted.inst,.str ((Zv (Zy ⟨m1,m2,m3⟩ ad sk li ⟨⟨o1,o2,o3⟩,els.map Zz⟩ wt ⟨w1,w2,w3⟩ se tm lf cs tc) ⟨x,y,z⟩ life now tick).c).wanted.realm,.int .u64 ((Zv (Zy ⟨m1,m2,m3⟩ ad sk li ⟨⟨o1,o2,o3⟩,els.map Zz⟩ wt ⟨w1,w2,w3⟩ se tm lf cs tc) ⟨x,y,z⟩ life now tick).c).session,.int .i64 ((Zv (Zy ⟨m1,m2,m3⟩ ad sk li ⟨⟨o1,o2,o3⟩,els.map Zz⟩ wt ⟨w1,w2,w3⟩ se tm lf cs tc) ⟨x,y,z⟩ life now tick).c).time,.int .i64 ((Zv (Zy ⟨m1,m2,m3⟩ ad sk li ⟨⟨o1,o2,o3⟩,els.map Zz⟩ wt ⟨w1,w2,w3⟩ se tm lf cs tc) ⟨x,y,z⟩ life now tick).c).life,.int .i64 ((Zv (Zy ⟨m1,m2,m3⟩ ad sk li ⟨⟨o1,o2,o3⟩,els.map Zz⟩ wt ⟨w1,w2,w3⟩ se tm lf cs tc) ⟨x,y,z⟩ life now tick).c).checksum,.int .i64 ((Zv (Zy ⟨m1,m2,m3⟩ ad sk li ⟨⟨o1,o2,o3⟩,els.map Zz⟩ wt ⟨w1,w2,w3⟩ se tm lf cs tc) ⟨x,y,z⟩ life now tick).c).tick],.bs (Zv (Zy ⟨m1,m2,m3⟩ ad sk li ⟨⟨o1,o2,o3⟩,els.map Zz⟩ wt ⟨w1,w2,w3⟩ se tm lf cs tc) ⟨x,y,z⟩ life now tick).msg,.agg [.str ((Zv (Zy ⟨m1,m2,m3⟩ ad sk li ⟨⟨o1,o2,o3⟩,els.map Zz⟩ wt ⟨w1,w2,w3⟩ se tm lf cs tc) ⟨x,y,z⟩ life now tick).cred).service.name,.str ((Zv (Zy ⟨m1,m2,m3⟩ ad sk li ⟨⟨o1,o2,o3⟩,els.map Zz⟩ wt ⟨w1,w2,w3⟩ se tm lf cs tc) ⟨x,y,z⟩ life now tick).cred).service.inst,.str ((Zv (Zy ⟨m1,m2,m3⟩ ad sk li ⟨⟨o1,o2,o3⟩,els.map Zz⟩ wt ⟨w1,w2,w3⟩ se tm lf cs tc) ⟨x,y,z⟩ life now tick).cred).service.realm,.int .u64 ((Zv (Zy ⟨m1,m2,m3⟩ ad sk li ⟨⟨o1,o2,o3⟩,els.map Zz⟩ wt ⟨w1,w2,w3⟩ se tm lf cs tc) ⟨x,y,z⟩ life now tick).cred).session,.int .i64 ((Zv (Zy ⟨m1,m2,m3⟩ ad sk li ⟨⟨o1,o2,o3⟩,els.map Zz⟩ wt ⟨w1,w2,w3⟩ se tm lf cs tc) ⟨x,y,z⟩ life now tick).cred).life,.int .i64 ((Zv (Zy ⟨m1,m2,m3⟩ ad sk li ⟨⟨o1,o2,o3⟩,els.map Zz⟩ wt ⟨w1,w2,w3⟩ se tm lf cs tc) ⟨x,y,z⟩ life now tick).cred).kvno,.int .i64 ((Zv (Zy ⟨m1,m2,m3⟩ ad sk li ⟨⟨o1,o2,o3⟩,els.map Zz⟩ wt ⟨w1,w2,w3⟩ se tm lf cs tc) ⟨x,y,z⟩ life now tick).cred).issued,.bs ((Zv (Zy ⟨m1,m2,m3⟩ ad sk li ⟨⟨o1,o2,o3⟩,els.map Zz⟩ wt ⟨w1,w2,w3⟩ se tm lf cs tc) ⟨x,y,z⟩ life now tick).cred).ticket],.bs (Zv (Zy ⟨m1,m2,m3⟩ ad sk li ⟨⟨o1,o2,o3⟩,els.map Zz⟩ wt ⟨w1,w2,w3⟩ se tm lf cs tc) ⟨x,y,z⟩ life now tick).auth,.int .i64 (Zv (Zy ⟨m1,m2,m3⟩ ad sk li ⟨⟨o1,o2,o3⟩,els.map Zz⟩ wt ⟨w1,w2,w3⟩ se tm lf cs tc) ⟨x,y,z⟩ life now tick).err],[]))
 | _,_=>none
def sp4:Abs.Spec:=fun xs bl=>match xs,bl with
 | [],[]=>some (.bool true,[])
 | _,_=>none
def sp3:Abs.Spec:=fun xs bl=>match xs,bl with
 | [.agg [.str m1,.str m2,.str m3,.int .i64 ad,.int .i64 sk,.bool li,.str o1,.str o2,.str o3,.sl 8 els,.int .i64 wt,.str w1,.str w2,.str w3,.int .u64 se,.int .i64 tm,.int .i64 lf,.int .i64 cs,.int .i64 tc],.agg [.str n1,.str n2,.str n3],.int .i64 adr,.int .i64 skx,.agg [.u8 pw,.u8 ps,.bool pl,.bs pc],.bool lx,.u8 wh,.agg [.str s1,.str s2,.str s3]],[]=>chk (els.all Zp) (some (.bool true,[]))
 | _,_=>none
def tabT:List (Nat×Nat×List CT×Abs.Spec):=[(6,1,[.other],sp6),(20,1,[.int .i64,.int .i64],sp20),(22,1,[.other,.other],sp22),(24,1,[.int .i64,.int .i64],sp24),(30,1,[.str,.str],sp30),(31,1,[.str,.str],sp31),(33,1,[.int .i64],sp33),(41,1,[.other,.other],sp41),(42,1,[],sp42),(43,1,[.ptr],sp43),(46,1,[.int .i64,.int .i64],sp46),(47,1,[.sl 8,.other],sp47),(49,1,[.int .i64,.int .i64],sp49),(50,1,[.other,.other],sp50),(51,1,[.int .i64,.int .i64],sp51),(61,1,[.int .i64,.int .i64],sp61),(66,1,[.ptr,.int .i64],sp66),(67,1,[.int .i64],sp67),(69,1,[.int .i64,.int .i64],sp69),(70,1,[.int .i64],sp70),(78,1,[.str,.str],sp78),(79,1,[.int .i64],sp79),(80,1,[.int .i64],sp80),(81,1,[.other,.other],sp81),(82,1,[.bsl],sp82),(83,1,[.int .i64],sp83),(84,1,[.int .i64],sp84),(87,1,[.int .i64],sp87),(88,1,[.int .u64],sp88),(90,1,[.int .i64,.int .i64],sp90),(91,1,[.str,.u8],sp91),(5,2,[.other],sp5),(14,2,[.other,.other],sp14),(15,2,[.other,.other],sp15),(25,2,[.other,.other],sp25),(26,2,[.int .i64],sp26),(48,2,[.int .u64],sp48),(52,2,[.int .i64,.bool],sp52),(63,2,[.str],sp63),(64,2,[.str],sp64),(65,2,[.str],sp65),(68,2,[.int .u64],sp68),(72,2,[.sl 1],sp72),(73,2,[.other],sp73),(74,2,[.int .i64,.int .i64],sp74),(89,2,[.str,.u8],sp89),(9,3,[.other,.other],sp9),(10,3,[.int .i64],sp10),(18,3,[.int .i64],sp18),(40,3,[.other],sp40),(45,3,[.int .u64],sp45),(56,3,[.bsl,.str],sp56),(57,3,[.other,.other],sp57),(58,3,[.other,.int .i64],sp58),(71,3,[.bsl,.int .i64,.int .i64,.bool],sp71),(77,3,[.str,.u8],sp77),(86,3,[.bsl],sp86),(23,4,[.other],sp23),(29,4,[.other],sp29),(34,4,[.other,.other,.int .i64],sp34),(44,4,[.ptr],sp44),(53,4,[.bsl,.other],sp53),(54,4,[.bsl,.int .i64,.bool],sp54),(55,4,[.bsl,.int .i64],sp55),(62,4,[.str,.str],sp62),(76,4,[.int .i64,.int .u64,.bsl],sp76),(8,5,[.other,.int .i64,.int .i64,.bool],sp8),(27,5,[.bsl,.int .i64],sp27),(37,5,[.str],sp37),(38,5,[.str],sp38),(11,6,[.other],sp11),(13,6,[.other],sp13),(39,6,[.str],sp39),(19,7,[.other],sp19),(60,7,[.other],sp60),(21,8,[.other],sp21),(28,8,[.other],sp28),(32,8,[.other],sp32),(36,8,[.other],sp36),(85,8,[.other],sp85),(7,9,[.other,.int .i64,.int .i64,.bool],sp7),(12,9,[.other],sp12),(75,9,[.other,.bool],sp75),(16,10,[.other,.int .i64,.int .i64],sp16),(59,10,[.other,.bool,.int .u64],sp59),(35,11,[.other,.other,.bool,.other],sp35),(17,12,[.other,.other,.int .i64,.int .i64,.int .i64],sp17),(4,13,[],sp4),(3,14,[.other,.other,.int .i64,.int .i64,.other,.bool,.u8,.other],sp3)]
def globT:List (Nat×List AV):=[]
noncomputable def inlT:List (Nat×Func):=[]
def look {α:Type} (k:Nat):List (Nat×α)→Option α
 | []=>none
 | (j,x)::r=>cond (Nat.beq j k) (some x) (look k r)
def look2 {α:Type} (k m:Nat):List (Nat×Nat×List α)→List α
 | []=>[]
 | (j,i,x)::r=>cond (Nat.beq j k) (cond (Nat.beq i m) x (look2 k m r)) (look2 k m r)
noncomputable def G:Cfg2:={ ty:=fun t=>(tbl[t]?).join,keep:=fun f r=>look2 f r keepT,own:=fun f=>ownT.contains f,glob:=fun q=>look q globT,rts:=fun f=>look f rtsT,tab:=fun f=>look f tabT,inl:=fun f=>look f inlT }
end Go.Proofs.Ytmipfdjcnkljnaa
