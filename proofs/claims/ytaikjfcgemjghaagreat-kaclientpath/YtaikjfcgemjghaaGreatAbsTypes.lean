/- The types of a program, as the abstract interpreter sees them. -/
import Derived.Test.YtaikjfcgemjghaaGreatAbsInv
namespace Go.Abs
set_option linter.unusedVariables false
def isU8 (P:Program) (t:Nat):Bool :=
 match P.underlying t,P.info? t with
 | some (.int .u8),some i=>i.size==1&&i.bytes==1&&(match i.zero with | some (.int .u8 0)=>true | _=>false)
 | _,_=>false
def sized (P:Program) (t:Nat):Bool:=match P.info? t with | some i=>Nat.blt 0 i.size | none=>false
def ctsOf (P:Program):Nat→Nat→Option (List CT)
 | 0,_=>none
 | n+1,t=>match P.underlying t with
  | some (.int .u8)=>some [.u8]
  | some (.int k)=>some [.int k]
  | some .bool=>some [.bool]
  | some .string=>some [.str]
  | some (.slice e)=>some [if isU8 P e then .bsl else .sl (match P.info? e with | some i=>i.size | none=>0)]
  | some (.pointer _)=>some [.ptr]
  | some (.struct fs)=>fs.toList.foldr (fun f acc=>match ctsOf P n f.type,acc with | some a,some b=>some (a++b) | _,_=>none) (some [])
  | some (.array k e)=>match ctsOf P n e with
   | some l=>some ((List.replicate k l).flatten)
   | none=>none
  | _=>none
def kindOf (P:Program) (t:Nat):Option TK :=
 match P.underlying t with
 | some (.int .u8)=>some .u8
 | some (.int k)=>some (.int k)
 | some .bool=>some .bool
 | some .string=>some .str
 | some (.slice e)=>some (.slice e (isU8 P e))
 | some (.pointer e)=>some (.ptr e)
 | some (.array n e)=>some (.arr n e (isU8 P e))
 | some (.struct fs) => if fs.toList.all (fun f => sized P f.type && f.name != "_") then some (.struct (fs.toList.map fun f => (f.offset, f.type))) else none
 | _=>none
def layoutOK (P:Program):List Field→Nat→Bool
 | [],_=>true
 | f :: r, o => f.offset == o && f.name != "_" && (match P.info? f.type with | some i => Nat.blt 0 i.size && layoutOK P r (o + i.size) | none => false)
def ctInt (k:IntKind):CT:=match k with | .u8 => .u8 | k => .int k
def joinC (a:Option (List CT)) (i:Option TypeInfo) (b:Option (List CT)):Option (List CT) :=
 match a with
 | some a=>match i with
  | some i=>match b with
   | some b=>if a.length=i.size then some (a++b) else none
   | none=>none
  | none=>none
 | none=>none
def eqCts (P:Program):Nat→Nat→Option (List CT)
 | 0,_=>none
 | n+1,t=>match P.underlying t,P.info? t with
  | some (.int k),some i=>if i.size=1 then some [ctInt k] else none
  | some .bool,some i=>if i.size=1 then some [.bool] else none
  | some .string,some i=>if i.size=1 then some [.str] else none
  | some (.struct fs),some i=>if P.stoodInHeld t=false∧layoutOK P fs.toList 0=true then fs.toList.foldr (fun f acc=>joinC (eqCts P n f.type) (P.info? f.type) acc) (some []) else none
  | _,_=>none
def mkTI (P:Program) (t:Nat):Option TI :=
 match P.info? t,kindOf P t,ctsOf P 20 t with
 | some i,some k,some cts=>match i.zero.bind fun v=>ofCells v.cells.toList with
  | some z=>if z.length=i.size&&cts.length=i.size then some ⟨i.size,i.bytes,k,z,cts,if P.eqGuardType P.depth t=false then (eqCts P 20 t).getD [] else []⟩ else none
  | none=>none
 | _,_,_=>none
end Go.Abs
