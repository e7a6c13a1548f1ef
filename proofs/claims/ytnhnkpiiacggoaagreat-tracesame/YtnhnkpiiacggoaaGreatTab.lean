/- The table of functions of this seat. -/
import Derived.Test.YtnhnkpiiacggoaaGreatAbsSpec
import Derived.Test.YtnhnkpiiacggoaaGreatKerbDefs
import Derived.Test.YtnhnkpiiacggoaaGreatAbsPlain
import Derived.Test.YtnhnkpiiacggoaaGreatKerbKaRef
import Derived.Test.YtnhnkpiiacggoaaGreatKerbCli2
import Derived.Test.YtnhnkpiiacggoaaGreatKerbTrc
import Derived.Test.YtnhnkpiiacggoaaGreatProg
import Derived.KernelRfl
open Kerb renaming readBox→Zz,keyValid→Zy
namespace Go.Proofs.YtnhnkpiiacggoaaGreat
open Go Go.Abs
set_option linter.unusedVariables false
def tbl:List (Option TI):=[
 none,
 none,
 some ⟨1,8,.int .i64,[.int .i64 0],[.int .i64],[.int .i64]⟩,
 some ⟨1,8,.int .i64,[.int .i64 0],[.int .i64],[.int .i64]⟩,
 some ⟨1,1,.bool,[.bool false],[.bool],[.bool]⟩,
 some ⟨1,1,.u8,[.u8 0],[.u8],[.u8]⟩,
 some ⟨1,1,.u8,[.u8 0],[.u8],[.u8]⟩,
 some ⟨4,24,.struct [(0,2),(1,3),(2,4),(3,6)],[.int .i64 0,.int .i64 0,.bool false,.u8 0],[.int .i64,.int .i64,.bool,.u8],[.int .i64,.int .i64,.bool,.u8]⟩,
 none,
 some ⟨1,16,.str,[.str []],[.str],[.str]⟩,
 none,
 none,
 some ⟨1,8,.int .u64,[.int .u64 0],[.int .u64],[.int .u64]⟩,
 none,
 none,
 some ⟨1,8,.ptr 277,[.nilp],[.ptr],[]⟩,
 some ⟨1,8,.ptr 280,[.nilp],[.ptr],[]⟩,
 some ⟨1,8,.ptr 288,[.nilp],[.ptr],[]⟩,
 some ⟨1,8,.struct [(0,17)],[.nilp],[.ptr],[]⟩,
 some ⟨1,8,.struct [(0,17)],[.nilp],[.ptr],[]⟩,
 none,
 some ⟨1,4,.int .i32,[.int .i32 0],[.int .i32],[.int .i32]⟩,
 some ⟨1,24,.slice 5 true,[.nils],[.bsl],[]⟩,
 some ⟨1,2,.int .u16,[.int .u16 0],[.int .u16],[.int .u16]⟩,
 none,
 some ⟨1,8,.int .i64,[.int .i64 0],[.int .i64],[.int .i64]⟩,
 none,
 none,
 some ⟨1,8,.int .u64,[.int .u64 0],[.int .u64],[.int .u64]⟩,
 some ⟨1,8,.int .u64,[.int .u64 0],[.int .u64],[.int .u64]⟩,
 none,
 none,
 some ⟨1,24,.slice 22 false,[.nils],[.sl 1],[]⟩,
 none,
 none,
 none,
 none,
 some ⟨3,48,.struct [(0,9),(1,9),(2,9)],[.str [],.str [],.str []],[.str,.str,.str],[.str,.str,.str]⟩,
 some ⟨3,48,.struct [(0,9),(1,9),(2,9)],[.str [],.str [],.str []],[.str,.str,.str],[.str,.str,.str]⟩,
 some ⟨16,216,.struct [(0,3),(1,38),(4,38),(7,38),(10,29),(11,29),(12,29),(13,22),(14,3),(15,3)],[.int .i64 0,.str [],.str [],.str [],.str [],.str [],.str [],.str [],.str [],.str [],.int .u64 0,.int .u64 0,.int .u64 0,.nils,.int .i64 0,.int .i64 0],[.int .i64,.str,.str,.str,.str,.str,.str,.str,.str,.str,.int .u64,.int .u64,.int .u64,.bsl,.int .i64,.int .i64],[]⟩,
 some ⟨16,216,.struct [(0,3),(1,38),(4,38),(7,38),(10,29),(11,29),(12,29),(13,22),(14,3),(15,3)],[.int .i64 0,.str [],.str [],.str [],.str [],.str [],.str [],.str [],.str [],.str [],.int .u64 0,.int .u64 0,.int .u64 0,.nils,.int .i64 0,.int .i64 0],[.int .i64,.str,.str,.str,.str,.str,.str,.str,.str,.str,.int .u64,.int .u64,.int .u64,.bsl,.int .i64,.int .i64],[]⟩,
 some ⟨8,104,.struct [(0,38),(3,29),(4,3),(5,3),(6,3),(7,22)],[.str [],.str [],.str [],.int .u64 0,.int .i64 0,.int .i64 0,.int .i64 0,.nils],[.str,.str,.str,.int .u64,.int .i64,.int .i64,.int .i64,.bsl],[]⟩,
 some ⟨8,104,.struct [(0,38),(3,29),(4,3),(5,3),(6,3),(7,22)],[.str [],.str [],.str [],.int .u64 0,.int .i64 0,.int .i64 0,.int .i64 0,.nils],[.str,.str,.str,.int .u64,.int .i64,.int .i64,.int .i64,.bsl],[]⟩,
 some ⟨6,72,.struct [(0,38),(3,3),(4,3),(5,3)],[.str [],.str [],.str [],.int .i64 0,.int .i64 0,.int .i64 0],[.str,.str,.str,.int .i64,.int .i64,.int .i64],[.str,.str,.str,.int .i64,.int .i64,.int .i64]⟩,
 some ⟨6,72,.struct [(0,38),(3,3),(4,3),(5,3)],[.str [],.str [],.str [],.int .i64 0,.int .i64 0,.int .i64 0],[.str,.str,.str,.int .i64,.int .i64,.int .i64],[.str,.str,.str,.int .i64,.int .i64,.int .i64]⟩,
 some ⟨12,152,.struct [(0,38),(3,29),(4,3),(5,3),(6,3),(7,3),(8,3),(9,3),(10,22),(11,22)],[.str [],.str [],.str [],.int .u64 0,.int .i64 0,.int .i64 0,.int .i64 0,.int .i64 0,.int .i64 0,.int .i64 0,.nils,.nils],[.str,.str,.str,.int .u64,.int .i64,.int .i64,.int .i64,.int .i64,.int .i64,.int .i64,.bsl,.bsl],[]⟩,
 some ⟨12,152,.struct [(0,38),(3,29),(4,3),(5,3),(6,3),(7,3),(8,3),(9,3),(10,22),(11,22)],[.str [],.str [],.str [],.int .u64 0,.int .i64 0,.int .i64 0,.int .i64 0,.int .i64 0,.int .i64 0,.int .i64 0,.nils,.nils],[.str,.str,.str,.int .u64,.int .i64,.int .i64,.int .i64,.int .i64,.int .i64,.int .i64,.bsl,.bsl],[]⟩,
 some ⟨51,656,.struct [(0,3),(1,3),(2,38),(5,3),(6,3),(7,40),(23,42),(31,44),(37,22),(38,46),(50,29)],[.int .i64 0,.int .i64 0,.str [],.str [],.str [],.int .i64 0,.int .i64 0,.int .i64 0,.str [],.str [],.str [],.str [],.str [],.str [],.str [],.str [],.str [],.int .u64 0,.int .u64 0,.int .u64 0,.nils,.int .i64 0,.int .i64 0,.str [],.str [],.str [],.int .u64 0,.int .i64 0,.int .i64 0,.int .i64 0,.nils,.str [],.str [],.str [],.int .i64 0,.int .i64 0,.int .i64 0,.nils,.str [],.str [],.str [],.int .u64 0,.int .i64 0,.int .i64 0,.int .i64 0,.int .i64 0,.int .i64 0,.int .i64 0,.nils,.nils,.int .u64 0],[.int .i64,.int .i64,.str,.str,.str,.int .i64,.int .i64,.int .i64,.str,.str,.str,.str,.str,.str,.str,.str,.str,.int .u64,.int .u64,.int .u64,.bsl,.int .i64,.int .i64,.str,.str,.str,.int .u64,.int .i64,.int .i64,.int .i64,.bsl,.str,.str,.str,.int .i64,.int .i64,.int .i64,.bsl,.str,.str,.str,.int .u64,.int .i64,.int .i64,.int .i64,.int .i64,.int .i64,.int .i64,.bsl,.bsl,.int .u64],[]⟩,
 some ⟨51,656,.struct [(0,3),(1,3),(2,38),(5,3),(6,3),(7,40),(23,42),(31,44),(37,22),(38,46),(50,29)],[.int .i64 0,.int .i64 0,.str [],.str [],.str [],.int .i64 0,.int .i64 0,.int .i64 0,.str [],.str [],.str [],.str [],.str [],.str [],.str [],.str [],.str [],.int .u64 0,.int .u64 0,.int .u64 0,.nils,.int .i64 0,.int .i64 0,.str [],.str [],.str [],.int .u64 0,.int .i64 0,.int .i64 0,.int .i64 0,.nils,.str [],.str [],.str [],.int .i64 0,.int .i64 0,.int .i64 0,.nils,.str [],.str [],.str [],.int .u64 0,.int .i64 0,.int .i64 0,.int .i64 0,.int .i64 0,.int .i64 0,.int .i64 0,.nils,.nils,.int .u64 0],[.int .i64,.int .i64,.str,.str,.str,.int .i64,.int .i64,.int .i64,.str,.str,.str,.str,.str,.str,.str,.str,.str,.int .u64,.int .u64,.int .u64,.bsl,.int .i64,.int .i64,.str,.str,.str,.int .u64,.int .i64,.int .i64,.int .i64,.bsl,.str,.str,.str,.int .i64,.int .i64,.int .i64,.bsl,.str,.str,.str,.int .u64,.int .i64,.int .i64,.int .i64,.int .i64,.int .i64,.int .i64,.bsl,.bsl,.int .u64],[]⟩,
 some ⟨1,24,.slice 48 false,[.nils],[.sl 51],[]⟩,
 none,
 none,
 some ⟨1,8,.int .u64,[.int .u64 0],[.int .u64],[.int .u64]⟩,
 some ⟨3,40,.struct [(0,3),(1,29),(2,22)],[.int .i64 0,.int .u64 0,.nils],[.int .i64,.int .u64,.bsl],[]⟩,
 some ⟨3,40,.struct [(0,3),(1,29),(2,22)],[.int .i64 0,.int .u64 0,.nils],[.int .i64,.int .u64,.bsl],[]⟩,
 none,
 none,
 none,
 none,
 none,
 some ⟨1,24,.slice 73 false,[.nils],[.sl 4],[]⟩,
 some ⟨1,8,.ptr 66,[.nilp],[.ptr],[]⟩,
 some ⟨1,24,.slice 29 false,[.nils],[.sl 1],[]⟩,
 some ⟨2,48,.struct [(0,62),(1,32)],[.nils,.nils],[.sl 1,.sl 1],[]⟩,
 some ⟨2,48,.struct [(0,62),(1,32)],[.nils,.nils],[.sl 1,.sl 1],[]⟩,
 some ⟨57,768,.struct [(0,60),(1,3),(2,49),(3,48),(54,3),(55,64)],[.nils,.int .i64 0,.nils,.int .i64 0,.int .i64 0,.str [],.str [],.str [],.int .i64 0,.int .i64 0,.int .i64 0,.str [],.str [],.str [],.str [],.str [],.str [],.str [],.str [],.str [],.int .u64 0,.int .u64 0,.int .u64 0,.nils,.int .i64 0,.int .i64 0,.str [],.str [],.str [],.int .u64 0,.int .i64 0,.int .i64 0,.int .i64 0,.nils,.str [],.str [],.str [],.int .i64 0,.int .i64 0,.int .i64 0,.nils,.str [],.str [],.str [],.int .u64 0,.int .i64 0,.int .i64 0,.int .i64 0,.int .i64 0,.int .i64 0,.int .i64 0,.nils,.nils,.int .u64 0,.int .i64 0,.nils,.nils],[.sl 4,.int .i64,.sl 51,.int .i64,.int .i64,.str,.str,.str,.int .i64,.int .i64,.int .i64,.str,.str,.str,.str,.str,.str,.str,.str,.str,.int .u64,.int .u64,.int .u64,.bsl,.int .i64,.int .i64,.str,.str,.str,.int .u64,.int .i64,.int .i64,.int .i64,.bsl,.str,.str,.str,.int .i64,.int .i64,.int .i64,.bsl,.str,.str,.str,.int .u64,.int .i64,.int .i64,.int .i64,.int .i64,.int .i64,.int .i64,.bsl,.bsl,.int .u64,.int .i64,.sl 1,.sl 1],[]⟩,
 some ⟨57,768,.struct [(0,60),(1,3),(2,49),(3,48),(54,3),(55,64)],[.nils,.int .i64 0,.nils,.int .i64 0,.int .i64 0,.str [],.str [],.str [],.int .i64 0,.int .i64 0,.int .i64 0,.str [],.str [],.str [],.str [],.str [],.str [],.str [],.str [],.str [],.int .u64 0,.int .u64 0,.int .u64 0,.nils,.int .i64 0,.int .i64 0,.str [],.str [],.str [],.int .u64 0,.int .i64 0,.int .i64 0,.int .i64 0,.nils,.str [],.str [],.str [],.int .i64 0,.int .i64 0,.int .i64 0,.nils,.str [],.str [],.str [],.int .u64 0,.int .i64 0,.int .i64 0,.int .i64 0,.int .i64 0,.int .i64 0,.int .i64 0,.nils,.nils,.int .u64 0,.int .i64 0,.nils,.nils],[.sl 4,.int .i64,.sl 51,.int .i64,.int .i64,.str,.str,.str,.int .i64,.int .i64,.int .i64,.str,.str,.str,.str,.str,.str,.str,.str,.str,.int .u64,.int .u64,.int .u64,.bsl,.int .i64,.int .i64,.str,.str,.str,.int .u64,.int .i64,.int .i64,.int .i64,.bsl,.str,.str,.str,.int .i64,.int .i64,.int .i64,.bsl,.str,.str,.str,.int .u64,.int .i64,.int .i64,.int .i64,.int .i64,.int .i64,.int .i64,.bsl,.bsl,.int .u64,.int .i64,.sl 1,.sl 1],[]⟩,
 none,
 none,
 none,
 none,
 none,
 some ⟨4,48,.struct [(0,3),(1,3),(2,22),(3,4)],[.int .i64 0,.int .i64 0,.nils,.bool false],[.int .i64,.int .i64,.bsl,.bool],[]⟩,
 some ⟨4,48,.struct [(0,3),(1,3),(2,22),(3,4)],[.int .i64 0,.int .i64 0,.nils,.bool false],[.int .i64,.int .i64,.bsl,.bool],[]⟩,
 none,
 none,
 none,
 none,
 none,
 none,
 none,
 none,
 none,
 none,
 none,
 none,
 none,
 none,
 none,
 some ⟨6,80,.struct [(0,4),(1,4),(2,3),(3,9),(4,22),(5,22)],[.bool false,.bool false,.int .i64 0,.str [],.nils,.nils],[.bool,.bool,.int .i64,.str,.bsl,.bsl],[]⟩,
 some ⟨6,80,.struct [(0,4),(1,4),(2,3),(3,9),(4,22),(5,22)],[.bool false,.bool false,.int .i64 0,.str [],.nils,.nils],[.bool,.bool,.int .i64,.str,.bsl,.bsl],[]⟩,
 none,
 none,
 none,
 none,
 none,
 none,
 none,
 none,
 none,
 some ⟨1,8,.ptr 108,[.nilp],[.ptr],[]⟩,
 none,
 none,
 none,
 some ⟨2,48,.struct [(0,64)],[.nils,.nils],[.sl 1,.sl 1],[]⟩,
 some ⟨2,48,.struct [(0,64)],[.nils,.nils],[.sl 1,.sl 1],[]⟩,
 none,
 none,
 none,
 none,
 some ⟨1,8,.ptr 105,[.nilp],[.ptr],[]⟩,
 none,
 none,
 some ⟨1,24,.slice 4 false,[.nils],[.sl 1],[]⟩,
 none,
 none,
 none,
 none,
 none,
 some ⟨10,120,.struct [(0,4),(1,38),(4,3),(5,29),(6,3),(7,3),(8,9),(9,9)],[.bool false,.str [],.str [],.str [],.int .i64 0,.int .u64 0,.int .i64 0,.int .i64 0,.str [],.str []],[.bool,.str,.str,.str,.int .i64,.int .u64,.int .i64,.int .i64,.str,.str],[.bool,.str,.str,.str,.int .i64,.int .u64,.int .i64,.int .i64,.str,.str]⟩,
 some ⟨10,120,.struct [(0,4),(1,38),(4,3),(5,29),(6,3),(7,3),(8,9),(9,9)],[.bool false,.str [],.str [],.str [],.int .i64 0,.int .u64 0,.int .i64 0,.int .i64 0,.str [],.str []],[.bool,.str,.str,.str,.int .i64,.int .u64,.int .i64,.int .i64,.str,.str],[.bool,.str,.str,.str,.int .i64,.int .u64,.int .i64,.int .i64,.str,.str]⟩,
 none,
 none,
 none,
 none,
 none,
 none,
 none,
 none,
 none,
 none,
 none,
 none,
 none,
 none,
 none,
 some ⟨1,24,.slice 3 false,[.nils],[.sl 1],[]⟩,
 none,
 none,
 none,
 none,
 none,
 none,
 none,
 none,
 none,
 none,
 none,
 none,
 none,
 none,
 none,
 none,
 none,
 none,
 none,
 none,
 some ⟨8,104,.struct [(0,4),(1,38),(4,3),(5,3),(6,3),(7,22)],[.bool false,.str [],.str [],.str [],.int .i64 0,.int .i64 0,.int .i64 0,.nils],[.bool,.str,.str,.str,.int .i64,.int .i64,.int .i64,.bsl],[]⟩,
 some ⟨8,104,.struct [(0,4),(1,38),(4,3),(5,3),(6,3),(7,22)],[.bool false,.str [],.str [],.str [],.int .i64 0,.int .i64 0,.int .i64 0,.nils],[.bool,.str,.str,.str,.int .i64,.int .i64,.int .i64,.bsl],[]⟩,
 none,
 none,
 some ⟨10,128,.struct [(0,90),(6,3),(7,3),(8,9),(9,9)],[.bool false,.bool false,.int .i64 0,.str [],.nils,.nils,.int .i64 0,.int .i64 0,.str [],.str []],[.bool,.bool,.int .i64,.str,.bsl,.bsl,.int .i64,.int .i64,.str,.str],[]⟩,
 some ⟨10,128,.struct [(0,90),(6,3),(7,3),(8,9),(9,9)],[.bool false,.bool false,.int .i64 0,.str [],.nils,.nils,.int .i64 0,.int .i64 0,.str [],.str []],[.bool,.bool,.int .i64,.str,.bsl,.bsl,.int .i64,.int .i64,.str,.str],[]⟩,
 none,
 none,
 none,
 none,
 none,
 none,
 some ⟨10,160,.struct [(0,3),(1,38),(4,3),(5,9),(6,22),(7,9),(8,9),(9,22)],[.int .i64 0,.str [],.str [],.str [],.int .i64 0,.str [],.nils,.str [],.str [],.nils],[.int .i64,.str,.str,.str,.int .i64,.str,.bsl,.str,.str,.bsl],[]⟩,
 some ⟨10,160,.struct [(0,3),(1,38),(4,3),(5,9),(6,22),(7,9),(8,9),(9,22)],[.int .i64 0,.str [],.str [],.str [],.int .i64 0,.str [],.nils,.str [],.str [],.nils],[.int .i64,.str,.str,.str,.int .i64,.str,.bsl,.str,.str,.bsl],[]⟩,
 none,
 none,
 some ⟨3,40,.struct [(0,3),(1,25),(2,22)],[.int .i64 0,.int .i64 0,.nils],[.int .i64,.int .i64,.bsl],[]⟩,
 some ⟨3,40,.struct [(0,3),(1,25),(2,22)],[.int .i64 0,.int .i64 0,.nils],[.int .i64,.int .i64,.bsl],[]⟩,
 none,
 none,
 some ⟨5,80,.struct [(0,3),(1,38),(4,22)],[.int .i64 0,.str [],.str [],.str [],.nils],[.int .i64,.str,.str,.str,.bsl],[]⟩,
 some ⟨5,80,.struct [(0,3),(1,38),(4,22)],[.int .i64 0,.str [],.str [],.str [],.nils],[.int .i64,.str,.str,.str,.bsl],[]⟩,
 none,
 none,
 none,
 none,
 none,
 some ⟨8,104,.struct [(0,29),(1,38),(4,3),(5,3),(6,22),(7,3)],[.int .u64 0,.str [],.str [],.str [],.int .i64 0,.int .i64 0,.nils,.int .i64 0],[.int .u64,.str,.str,.str,.int .i64,.int .i64,.bsl,.int .i64],[]⟩,
 some ⟨8,104,.struct [(0,29),(1,38),(4,3),(5,3),(6,22),(7,3)],[.int .u64 0,.str [],.str [],.str [],.int .i64 0,.int .i64 0,.nils,.int .i64 0],[.int .u64,.str,.str,.str,.int .i64,.int .i64,.bsl,.int .i64],[]⟩,
 none,
 none,
 some ⟨5,48,.struct [(0,9),(1,3),(2,3),(3,3),(4,29)],[.str [],.int .i64 0,.int .i64 0,.int .i64 0,.int .u64 0],[.str,.int .i64,.int .i64,.int .i64,.int .u64],[.str,.int .i64,.int .i64,.int .i64,.int .u64]⟩,
 some ⟨5,48,.struct [(0,9),(1,3),(2,3),(3,3),(4,29)],[.str [],.int .i64 0,.int .i64 0,.int .i64 0,.int .u64 0],[.str,.int .i64,.int .i64,.int .i64,.int .u64],[.str,.int .i64,.int .i64,.int .i64,.int .u64]⟩,
 none,
 none,
 some ⟨10,128,.struct [(0,9),(1,3),(2,29),(3,3),(4,3),(5,3),(6,38),(9,22)],[.str [],.int .i64 0,.int .u64 0,.int .i64 0,.int .i64 0,.int .i64 0,.str [],.str [],.str [],.nils],[.str,.int .i64,.int .u64,.int .i64,.int .i64,.int .i64,.str,.str,.str,.bsl],[]⟩,
 some ⟨10,128,.struct [(0,9),(1,3),(2,29),(3,3),(4,3),(5,3),(6,38),(9,22)],[.str [],.int .i64 0,.int .u64 0,.int .i64 0,.int .i64 0,.int .i64 0,.str [],.str [],.str [],.nils],[.str,.int .i64,.int .u64,.int .i64,.int .i64,.int .i64,.str,.str,.str,.bsl],[]⟩,
 none,
 none,
 some ⟨10,128,.struct [(0,38),(3,38),(6,29),(7,3),(8,3),(9,3)],[.str [],.str [],.str [],.str [],.str [],.str [],.int .u64 0,.int .i64 0,.int .i64 0,.int .i64 0],[.str,.str,.str,.str,.str,.str,.int .u64,.int .i64,.int .i64,.int .i64],[.str,.str,.str,.str,.str,.str,.int .u64,.int .i64,.int .i64,.int .i64]⟩,
 some ⟨10,128,.struct [(0,38),(3,38),(6,29),(7,3),(8,3),(9,3)],[.str [],.str [],.str [],.str [],.str [],.str [],.int .u64 0,.int .i64 0,.int .i64 0,.int .i64 0],[.str,.str,.str,.str,.str,.str,.int .u64,.int .i64,.int .i64,.int .i64],[.str,.str,.str,.str,.str,.str,.int .u64,.int .i64,.int .i64,.int .i64]⟩,
 none,
 none,
 some ⟨7,96,.struct [(0,29),(1,38),(4,3),(5,3),(6,22)],[.int .u64 0,.str [],.str [],.str [],.int .i64 0,.int .i64 0,.nils],[.int .u64,.str,.str,.str,.int .i64,.int .i64,.bsl],[]⟩,
 some ⟨7,96,.struct [(0,29),(1,38),(4,3),(5,3),(6,22)],[.int .u64 0,.str [],.str [],.str [],.int .i64 0,.int .i64 0,.nils],[.int .u64,.str,.str,.str,.int .i64,.int .i64,.bsl],[]⟩,
 none,
 none,
 none,
 none,
 none,
 none,
 none,
 some ⟨1,8,.ptr 9,[.nilp],[.ptr],[]⟩,
 some ⟨1,24,.slice 209 false,[.nils],[.sl 1],[]⟩,
 none,
 none,
 none,
 none,
 none,
 none,
 none,
 none,
 none,
 some ⟨3,40,.struct [(0,22),(1,3),(2,4)],[.nils,.int .i64 0,.bool false],[.bsl,.int .i64,.bool],[]⟩,
 some ⟨3,40,.struct [(0,22),(1,3),(2,4)],[.nils,.int .i64 0,.bool false],[.bsl,.int .i64,.bool],[]⟩,
 none,
 none,
 none,
 none,
 none,
 none,
 some ⟨3,40,.struct [(0,22),(1,3),(2,4)],[.nils,.int .i64 0,.bool false],[.bsl,.int .i64,.bool],[]⟩,
 some ⟨3,40,.struct [(0,22),(1,3),(2,4)],[.nils,.int .i64 0,.bool false],[.bsl,.int .i64,.bool],[]⟩,
 none,
 some ⟨1,24,.slice 62 false,[.nils],[.sl 1],[]⟩,
 none,
 none,
 none,
 none,
 none,
 none,
 none,
 none,
 none,
 none,
 none,
 some ⟨4,4,.arr 4 5 true,[.u8 0,.u8 0,.u8 0,.u8 0],[.u8,.u8,.u8,.u8],[]⟩,
 none,
 none,
 some ⟨1,8,.ptr 221,[.nilp],[.ptr],[]⟩,
 none,
 none,
 none,
 some ⟨1,8,.ptr 229,[.nilp],[.ptr],[]⟩,
 none,
 none,
 some ⟨1,8,.int .i64,[.int .i64 0],[.int .i64],[.int .i64]⟩,
 none,
 none,
 none,
 none,
 none,
 none,
 none,
 none,
 some ⟨1,4,.int .u32,[.int .u32 0],[.int .u32],[.int .u32]⟩,
 none,
 none,
 none,
 none,
 some ⟨1,8,.int .u64,[.int .u64 0],[.int .u64],[.int .u64]⟩,
 none,
 none,
 none,
 some ⟨1,8,.ptr 3,[.nilp],[.ptr],[]⟩,
 none,
 some ⟨1,8,.ptr 267,[.nilp],[.ptr],[]⟩,
 none,
 none,
 some ⟨4,40,.struct [(0,17),(1,17),(2,17),(3,9)],[.nilp,.nilp,.nilp,.str []],[.ptr,.ptr,.ptr,.str],[]⟩,
 none,
 some ⟨0,0,.arr 0 16 false,[],[],[]⟩,
 none,
 none,
 some ⟨1,1,.u8,[.u8 0],[.u8],[.u8]⟩,
 some ⟨1,1,.u8,[.u8 0],[.u8],[.u8]⟩,
 none,
 some ⟨1,8,.ptr 5,[.nilp],[.ptr],[]⟩,
 some ⟨1,4,.int .i32,[.int .i32 0],[.int .i32],[.int .i32]⟩,
 some ⟨1,4,.int .i32,[.int .i32 0],[.int .i32],[.int .i32]⟩,
 none,
 none,
 none]
def keepT:List (Nat×Nat×List Keep):=[(3,10,[.val 16 4,.val 23 32,.val 24 3]),
 (3,13,[.val 16 4,.val 23 32,.val 24 3,.val 25 3]),
 (5,1000023,[.val 0 3]),
 (7,1000038,[.val 0 3]),
 (7,1000042,[.val 0 3]),
 (10,3,[.val 0 49,.val 1 60,.val 6 3,.val 7 25,.cells 15 [.sl 4,.int .i64,.sl 51,.int .i64,.int .i64,.str,.str,.str,.int .i64,.int .i64,.int .i64,.str,.str,.str,.str,.str,.str,.str,.str,.str,.int .u64,.int .u64,.int .u64,.bsl,.int .i64,.int .i64,.str,.str,.str,.int .u64,.int .i64,.int .i64,.int .i64,.bsl,.str,.str,.str,.int .i64,.int .i64,.int .i64,.bsl,.str,.str,.str,.int .u64,.int .i64,.int .i64,.int .i64,.int .i64,.int .i64,.int .i64,.bsl,.bsl,.int .u64,.int .i64,.sl 1,.sl 1],.ptr 8 15 0,.val 16 49,.val 17 3,.val 18 3]),
 (12,3,[.val 0 29,.rowB 3 5 false,.val 4 3]),
 (22,5,[.val 0 22,.val 4 29,.val 5 3]),
 (31,3,[.cells 4 [.sl 1,.sl 1],.ptr 4 4 0,.val 5 100,.val 11 32,.val 12 3,.val 13 3]),
 (33,5,[.val 4 29,.val 10 22,.val 11 3,.val 12 3]),
 (48,2,[.val 1 3,.val 2 86,.val 6 4,.val 12 49,.val 13 3,.val 14 3]),
 (49,2,[.val 0 22,.val 1 29,.cells 5 [.str,.str,.str,.int .i64,.int .i64,.int .i64],.ptr 5 5 0,.val 6 4,.val 11 113,.val 12 3,.val 13 3]),
 (60,1,[.val 2 24]),
 (79,3,[.rowL 3 22 1 false,.val 6 32,.val 7 3,.val 8 3]),
 (81,2,[.val 1 22,.val 4 4,.val 11 32,.val 12 3,.val 13 3]),
 (82,2,[.val 2 4,.val 10 3,.val 11 3]),
 (85,2,[.val 0 32,.val 1 57,.val 4 3,.val 7 3,.val 8 3]),
 (90,2,[.val 0 3,.val 4 4,.val 7 136,.val 8 3,.val 9 3]),
 (99,3,[.val 0 32,.val 3 3,.val 9 32,.val 10 3,.val 11 3]),
 (99,11,[.rowB 6 5 false,.val 25 32,.val 26 3,.val 27 3]),
 (100,4,[.val 0 22,.val 1 3,.cells 4 [.str,.str,.str],.ptr 4 4 0,.val 5 3,.val 6 25,.cells 7 [.str,.str,.str],.ptr 7 7 0,.val 14 210,.val 15 3,.val 16 3]),
 (111,9,[.val 9 32,.val 64 62,.val 65 3,.val 66 3]),
 (111,14,[.val 76 32,.val 77 3,.val 78 3]),
 (112,3,[.val 0 231,.val 3 3,.val 9 231,.val 10 3,.val 11 3]),
 (112,11,[.rowL 6 29 1 false,.val 25 231,.val 26 3,.val 27 3]),
 (114,4,[.val 0 62,.val 2 62,.val 3 3]),
 (114,9,[.val 0 62,.val 3 3,.val 4 62,.val 5 3]),
 (115,3,[.rowL 3 29 1 false,.val 6 62,.val 7 3,.val 8 3]),
 (121,2,[.val 0 62,.val 1 50,.val 4 3,.val 7 3,.val 8 3]),
 (124,6,[.val 0 22,.val 1 3,.val 2 3,.val 3 4,.val 12 3,.val 22 3,.val 23 3]),
 (128,3,[.val 0 22,.val 1 3,.val 2 3,.val 3 4,.barr 9 false,.ptr 9 9 0,.val 12 3,.val 13 3]),
 (134,3,[.val 0 29,.rowB 3 5 false,.val 7 3,.val 8 3]),
 (155,2,[.val 0 62,.val 1 3,.val 2 3,.val 3 3,.val 8 4,.val 9 4]),
 (168,2,[.val 0 62,.val 1 29,.val 4 3,.val 7 3,.val 8 3]),
 (170,2,[.val 0 9,.val 1 9,.val 4 4,.val 7 3,.val 8 3]),
 (185,1,[.val 0 62,.val 1 3,.val 2 3,.val 6 3]),
 (185,4,[.val 0 62,.val 1 3,.val 2 3,.val 6 3,.val 7 3]),
 (186,4,[.val 0 62,.val 6 3,.val 7 3,.val 8 3,.val 9 3]),
 (186,8,[.val 0 62,.val 6 3,.val 7 3,.val 10 3]),
 (187,5,[.val 0 62,.val 1 3,.val 6 3,.cells 7 [.int .u64],.ptr 7 7 0,.val 8 52,.val 9 3]),
 (189,2,[.val 0 62,.val 6 3,.val 7 3]),
 (190,3,[.val 0 62,.val 1 3,.val 2 3,.val 6 4,.val 7 3,.val 8 3]),
 (190,5,[.val 0 62,.val 1 3,.val 2 3,.val 7 3,.val 8 3]),
 (190,14,[.val 0 62,.val 1 3,.val 2 3,.val 7 3,.val 8 3,.val 9 3]),
 (190,20,[.val 0 62,.val 1 3,.val 2 3,.val 7 3,.val 8 3,.val 10 3]),
 (192,3,[.val 0 62,.val 1 3,.val 9 3,.val 10 3]),
 (192,5,[.val 0 62,.val 1 3,.val 9 3,.val 10 3]),
 (193,3,[.val 0 62,.val 1 3,.val 10 3,.val 11 3]),
 (193,5,[.val 0 62,.val 1 3,.val 10 3,.val 11 3]),
 (193,13,[.val 0 62,.val 1 3,.val 10 3,.val 11 3]),
 (193,15,[.val 0 62,.val 1 3,.val 10 3,.val 11 3]),
 (201,1,[.val 0 62,.val 2 3,.val 3 3,.val 8 3])]
def ownT:List Nat:=[]
def rtsT:List (Nat×List Nat):=[(6,[29]),(7,[22]),(12,[22]),(13,[4]),(19,[29]),(34,[4]),(35,[22]),(75,[4]),(76,[4]),(11,[4]),(56,[3,3,4]),(5,[22,25]),(22,[29,4]),(29,[4]),(16,[54,3,25]),(33,[29,4]),(15,[4]),(21,[54,3,25]),(9,[4]),(20,[4]),(14,[54,4]),(8,[4]),(10,[3,25]),(4,[4]),(3,[4])]
def sp6:Abs.Spec:=fun xs bl=>match xs,bl with
 | [.int .i64 n],[]=>chk (decide (0≤n)&&decide (n≤1000)) (some (.int .u64 (Kerb.long n),[]))
 | _,_=>none
def sp7:Abs.Spec:=fun xs bl=>match xs,bl with
 | [.bs b,.int .u16 how],[]=>chk (decide (b.length≤1000000)&&decide (0≤how)&&decide (how≤65535)) (some (.bs (Kerb.spoil b how),[]))
 | _,_=>none
def sp12:Abs.Spec:=fun xs bl=>match xs,bl with
 | [.int .u64 k],[]=>chk (decide (0≤k)&&decide (k<18446744073709551616)) (some (.bs (Kerb.keyBytes k),[]))
 | _,_=>none
def sp13:Abs.Spec:=fun xs bl=>match xs,bl with
 | [.bs a,.bs b],[]=>some (.bool (a==b),[])
 | _,_=>none
def sp19:Abs.Spec:=fun xs bl=>match xs,bl with
 | [.int .i64 c,.int .i64 n],[]=>some (.int .u64 (cond (Kerb.isClass c&&Kerb.isSerial n) (c*72057594037927936+n) 0),[])
 | _,_=>none
def sp34:Abs.Spec:=fun xs bl=>match xs,bl with
 | [.int .i64 k],[]=>some (.bool (Kerb.isKind k),[])
 | _,_=>none
def sp35:Abs.Spec:=fun xs bl=>match xs,bl with
 | [.bs b],[]=>chk (decide (b.length≤140737488355328)) (some (.bs b,[]))
 | _,_=>none
def sp75:Abs.Spec:=fun xs bl=>match xs,bl with
 | [.int .i64 k],[]=>some (.bool (Kerb.isClass k),[])
 | _,_=>none
def sp76:Abs.Spec:=fun xs bl=>match xs,bl with
 | [.int .i64 k],[]=>some (.bool (Kerb.isSerial k),[])
 | _,_=>none
def sp11:Abs.Spec:=fun xs bl=>match xs,bl with
 | [.int .u64 k],[]=>chk (decide (0≤k)&&decide (k<18446744073709551616)) (some (.bool (Zy k),[]))
 | _,_=>none
def sp56:Abs.Spec:=fun xs bl=>match xs,bl with
 | [.int .u64 k],[]=>chk (decide (0≤k)&&decide (k<18446744073709551616)) (some (.tup [.int .i64 (cond (Zy k) (Kerb.keyClass k) 0),.int .i64 (cond (Zy k) (Kerb.keySerial k) 0),.bool (Zy k)],[]))
 | _,_=>none
def sp5:Abs.Spec:=fun xs bl=>match xs,bl with
 | [.int .i64 kd,.int .u64 k,.bs bd],[]=>chk (decide (0≤k)&&decide (k<18446744073709551616)) (some (.tup [.bs (Kerb.makeBox kd k bd).val,.int .i64 (Kerb.makeBox kd k bd).err],[]))
 | _,_=>none
def sp22:Abs.Spec:=fun xs bl=>match xs,bl with
 | [.bs b],[]=>chk (decide (b.length≤4611686018427387904)) (some (.tup [.int .u64 (Kerb.keyRead b).1,.bool (Kerb.keyRead b).2],[]))
 | _,_=>none
def sp29:Abs.Spec:=fun xs bl=>match xs,bl with
 | [.int .u64 k],[]=>chk (decide (0≤k)&&decide (k<18446744073709551616)) (some (.bool (Zy k),[]))
 | _,_=>none
def sp16:Abs.Spec:=fun xs bl=>match xs,bl with
 | [.bs b],[]=>chk (decide (b.length≤140737488355328)) (some (.tup [.agg [.int .i64 (Zz b).box.kind,.int .u64 (Zz b).box.key,.bs (Zz b).box.body],.int .i64 (Zz b).n,.int .i64 (Zz b).err],[]))
 | _,_=>none
def sp33:Abs.Spec:=fun xs bl=>match xs,bl with
 | [.bs b],[]=>chk (decide (b.length≤4611686018427387904)) (some (.tup [.int .u64 (Kerb.keyRead b).1,.bool (Kerb.keyRead b).2],[]))
 | _,_=>none
def sp15:Abs.Spec:=fun xs bl=>match xs,bl with
 | [.bs b],[]=>chk (decide (b.length≤140737488355328)) (some (.bool (Kerb.isBox b),[]))
 | _,_=>none
def sp21:Abs.Spec:=fun xs bl=>match xs,bl with
 | [.bs b],[]=>chk (decide (b.length≤140737488355328)) (some (.tup [.agg [.int .i64 (Zz b).box.kind,.int .u64 (Zz b).box.key,.bs (Zz b).box.body],.int .i64 (Zz b).n,.int .i64 (Zz b).err],[]))
 | _,_=>none
def sp9:Abs.Spec:=fun xs bl=>match xs,bl with
 | [.bs a,.bs b],[]=>chk (decide (a.length≤140737488355328)&&decide (b.length≤140737488355328)) (some (.bool (Kerb.sameTkt a b),[]))
 | _,_=>none
def sp20:Abs.Spec:=fun xs bl=>match xs,bl with
 | [.bs b],[]=>chk (decide (b.length≤140737488355328)) (some (.bool (Kerb.isBox b),[]))
 | _,_=>none
def sp14:Abs.Spec:=fun xs bl=>match xs,bl with
 | [.bs b],[]=>chk (decide (b.length≤140737488355328)) (some (.tup [.agg [.int .i64 (Kerb.tktBox b).1.kind,.int .u64 (Kerb.tktBox b).1.key,.bs (Kerb.tktBox b).1.body],.bool (Kerb.tktBox b).2],[]))
 | _,_=>none
def sp8:Abs.Spec:=fun xs bl=>match xs,bl with
 | [.bs a,.bs b],[]=>chk (decide (a.length≤140737488355328)&&decide (b.length≤140737488355328)) (some (.bool (Kerb.sameTkt a b),[]))
 | _,_=>none
def sp10:Abs.Spec:=fun xs bl=>match xs,bl with
 | [.sl 51 evs,.sl 4 mls,.int .i64 skw],[]=>chk (Kerb.oneEv evs) (some (.tup [.int .i64 0,.int .i64 (if evs.length=0 then 0 else 109)],[]))
 | _,_=>none
def sp4:Abs.Spec:=fun xs bl=>match xs,bl with
 | [],[]=>some (.bool true,[])
 | _,_=>none
def sp3:Abs.Spec:=fun xs bl=>match xs,bl with
 | [.bs a,.bs b,.bs l,.bs m,.u8 j,.u8 k,.u8 kd,.int .u16 how],[]=>chk (decide (0≤how)&&decide (how≤65535)) (some (.bool true,[]))
 | _,_=>none
def tabT:List (Nat×Nat×List CT×Abs.Spec):=[(6,1,[.int .i64],sp6),(7,1,[.bsl,.int .u16],sp7),(12,1,[.int .u64],sp12),(13,1,[.bsl,.bsl],sp13),(19,1,[.int .i64,.int .i64],sp19),(34,1,[.int .i64],sp34),(35,1,[.bsl],sp35),(75,1,[.int .i64],sp75),(76,1,[.int .i64],sp76),(11,2,[.int .u64],sp11),(56,2,[.int .u64],sp56),(5,3,[.int .i64,.int .u64,.bsl],sp5),(22,3,[.bsl],sp22),(29,3,[.int .u64],sp29),(16,4,[.bsl],sp16),(33,4,[.bsl],sp33),(15,5,[.bsl],sp15),(21,5,[.bsl],sp21),(9,6,[.bsl,.bsl],sp9),(20,6,[.bsl],sp20),(14,7,[.bsl],sp14),(8,8,[.bsl,.bsl],sp8),(10,17,[.sl 51,.sl 4,.int .i64],sp10),(4,18,[],sp4),(3,19,[.bsl,.bsl,.bsl,.bsl,.u8,.u8,.u8,.int .u16],sp3)]
def globT:List (Nat×List AV):=[]
noncomputable def inlT:List (Nat×Func):=[(17,Tryz.f17)]
def look {α:Type} (k:Nat):List (Nat×α)→Option α
 | []=>none
 | (j,x)::r=>cond (Nat.beq j k) (some x) (look k r)
def look2 {α:Type} (k m:Nat):List (Nat×Nat×List α)→List α
 | []=>[]
 | (j,i,x)::r=>cond (Nat.beq j k) (cond (Nat.beq i m) x (look2 k m r)) (look2 k m r)
noncomputable def G:Cfg2:={ ty:=fun t=>(tbl[t]?).join,keep:=fun f r=>look2 f r keepT,own:=fun f=>ownT.contains f,glob:=fun q=>look q globT,rts:=fun f=>look f rtsT,tab:=fun f=>look f tabT,inl:=fun f=>look f inlT }
end Go.Proofs.YtnhnkpiiacggoaaGreat
