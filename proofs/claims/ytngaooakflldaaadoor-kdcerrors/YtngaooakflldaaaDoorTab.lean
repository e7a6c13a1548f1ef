/- The table of functions of this seat. -/
import Derived.Test.YtngaooakflldaaaDoorAbsSpec
import Derived.Test.YtngaooakflldaaaDoorKerbDefs
import Derived.Test.YtngaooakflldaaaDoorAbsPlain
import Derived.Test.YtngaooakflldaaaDoorProg
import Derived.KernelRfl
namespace Go.Proofs.YtngaooakflldaaaDoor
open Go.Abs
set_option linter.unusedVariables false

def tbl : List (Option TI) := [
  none,
  none,
  some ⟨1, 8, .int .i64, [.int .i64 0], [.int .i64], [.int .i64]⟩,
  some ⟨1, 8, .int .i64, [.int .i64 0], [.int .i64], [.int .i64]⟩,
  some ⟨1, 1, .bool, [.bool false], [.bool], [.bool]⟩,
  some ⟨1, 1, .u8, [.u8 0], [.u8], [.u8]⟩,
  some ⟨1, 1, .u8, [.u8 0], [.u8], [.u8]⟩,
  some ⟨4, 24, .struct [(0, 2), (1, 3), (2, 4), (3, 6)], [.int .i64 0, .int .i64 0, .bool false, .u8 0], [.int .i64, .int .i64, .bool, .u8], [.int .i64, .int .i64, .bool, .u8]⟩,
  none,
  some ⟨1, 16, .str, [.str []], [.str], [.str]⟩,
  none,
  none,
  some ⟨1, 8, .int .u64, [.int .u64 0], [.int .u64], [.int .u64]⟩,
  none,
  none,
  some ⟨1, 8, .ptr 82, [.nilp], [.ptr], []⟩,
  some ⟨1, 8, .ptr 85, [.nilp], [.ptr], []⟩,
  some ⟨1, 8, .ptr 95, [.nilp], [.ptr], []⟩,
  some ⟨1, 8, .struct [(0, 17)], [.nilp], [.ptr], []⟩,
  some ⟨1, 8, .struct [(0, 17)], [.nilp], [.ptr], []⟩,
  none,
  some ⟨1, 4, .int .i32, [.int .i32 0], [.int .i32], [.int .i32]⟩,
  some ⟨3, 48, .struct [(0, 9), (1, 9), (2, 9)], [.str [], .str [], .str []], [.str, .str, .str], [.str, .str, .str]⟩,
  some ⟨3, 48, .struct [(0, 9), (1, 9), (2, 9)], [.str [], .str [], .str []], [.str, .str, .str], [.str, .str, .str]⟩,
  some ⟨1, 8, .int .i64, [.int .i64 0], [.int .i64], [.int .i64]⟩,
  some ⟨7, 88, .struct [(0, 4), (1, 23), (4, 3), (5, 24), (6, 9)], [.bool false, .str [], .str [], .str [], .int .i64 0, .int .i64 0, .str []], [.bool, .str, .str, .str, .int .i64, .int .i64, .str], [.bool, .str, .str, .str, .int .i64, .int .i64, .str]⟩,
  some ⟨7, 88, .struct [(0, 4), (1, 23), (4, 3), (5, 24), (6, 9)], [.bool false, .str [], .str [], .str [], .int .i64 0, .int .i64 0, .str []], [.bool, .str, .str, .str, .int .i64, .int .i64, .str], [.bool, .str, .str, .str, .int .i64, .int .i64, .str]⟩,
  none,
  none,
  none,
  some ⟨1, 24, .slice 26 false, [.nils], [.sl 7], []⟩,
  none,
  some ⟨1, 24, .slice 5 true, [.nils], [.bsl], []⟩,
  none,
  none,
  none,
  none,
  none,
  none,
  some ⟨8, 104, .struct [(0, 4), (1, 23), (4, 3), (5, 3), (6, 9), (7, 9)], [.bool false, .str [], .str [], .str [], .int .i64 0, .int .i64 0, .str [], .str []], [.bool, .str, .str, .str, .int .i64, .int .i64, .str, .str], [.bool, .str, .str, .str, .int .i64, .int .i64, .str, .str]⟩,
  some ⟨8, 104, .struct [(0, 4), (1, 23), (4, 3), (5, 3), (6, 9), (7, 9)], [.bool false, .str [], .str [], .str [], .int .i64 0, .int .i64 0, .str [], .str []], [.bool, .str, .str, .str, .int .i64, .int .i64, .str, .str], [.bool, .str, .str, .str, .int .i64, .int .i64, .str, .str]⟩,
  some ⟨1, 24, .slice 9 false, [.nils], [.sl 1], []⟩,
  none,
  some ⟨10, 160, .arr 10 9 false, [.str [], .str [], .str [], .str [], .str [], .str [], .str [], .str [], .str [], .str []], [.str, .str, .str, .str, .str, .str, .str, .str, .str, .str], []⟩,
  none,
  none,
  none,
  none,
  none,
  none,
  none,
  none,
  none,
  none,
  none,
  none,
  none,
  none,
  none,
  none,
  none,
  none,
  none,
  none,
  none,
  none,
  some ⟨1, 24, .slice 3 false, [.nils], [.sl 1], []⟩,
  none,
  none,
  none,
  some ⟨1, 8, .ptr 9, [.nilp], [.ptr], []⟩,
  some ⟨1, 24, .slice 70 false, [.nils], [.sl 1], []⟩,
  none,
  none,
  none,
  none,
  some ⟨4, 4, .arr 4 5 true, [.u8 0, .u8 0, .u8 0, .u8 0], [.u8, .u8, .u8, .u8], []⟩,
  some ⟨1, 24, .slice 32 false, [.nils], [.sl 1], []⟩,
  some ⟨1, 8, .int .u64, [.int .u64 0], [.int .u64], [.int .u64]⟩,
  some ⟨1, 8, .int .u64, [.int .u64 0], [.int .u64], [.int .u64]⟩,
  none,
  some ⟨4, 40, .struct [(0, 17), (1, 17), (2, 17), (3, 9)], [.nilp, .nilp, .nilp, .str []], [.ptr, .ptr, .ptr, .str], []⟩,
  none,
  some ⟨0, 0, .arr 0 16 false, [], [], []⟩,
  none,
  none,
  none,
  some ⟨1, 4, .int .u32, [.int .u32 0], [.int .u32], [.int .u32]⟩,
  some ⟨1, 1, .u8, [.u8 0], [.u8], [.u8]⟩,
  some ⟨1, 1, .u8, [.u8 0], [.u8], [.u8]⟩,
  none,
  some ⟨1, 8, .ptr 5, [.nilp], [.ptr], []⟩,
  some ⟨1, 4, .int .i32, [.int .i32 0], [.int .i32], [.int .i32]⟩,
  some ⟨1, 4, .int .i32, [.int .i32 0], [.int .i32], [.int .i32]⟩,
  none,
  none,
  none]

def keepT : List (Nat × Nat × List Keep) := [(3, 7, [.val 1 5, .val 2 3, .cells 5 [.bool, .str, .str, .str, .int .i64, .int .i64, .str], .ptr 5 5 0, .val 10 4, .cells 11 [.bool, .str, .str, .str, .int .i64, .int .i64, .str], .ptr 11 11 0, .val 12 3]),
  (5, 2, [.val 0 41, .val 2 4, .val 3 3]),
  (9, 8, [.cells 1 [.bool, .str, .str, .str, .int .i64, .int .i64, .str], .ptr 1 1 0, .val 2 32, .val 3 24, .val 4 3]),
  (28, 4, [.val 0 32, .val 1 3, .cells 4 [.str, .str, .str], .ptr 4 4 0, .val 5 3, .val 6 24, .cells 7 [.str, .str, .str], .ptr 7 7 0, .psl 14 7 [0, 1, 2], .val 15 3, .val 16 3]),
  (39, 3, [.val 0 32, .val 1 3, .val 2 3, .val 3 4, .barr 9 false, .ptr 9 9 0, .val 12 3, .val 13 3]),
  (40, 3, [.val 0 77, .val 3 3, .val 9 77, .val 10 3, .val 11 3]),
  (40, 11, [.rowB 6 5 false, .val 25 77, .val 26 3, .val 27 3]),
  (44, 3, [.val 1 3, .val 2 3, .val 3 4, .rowB 9 5 false, .val 10 3]),
  (46, 2, [.val 0 3, .val 4 4, .val 7 66, .val 8 3, .val 9 3]),
  (47, 6, [.val 0 32, .val 1 3, .val 2 3, .val 3 4, .val 12 3, .val 22 3, .val 23 3]),
  (50, 2, [.val 0 9, .val 1 9, .val 4 4, .val 7 3, .val 8 3]),
  (53, 2, [.val 0 9, .val 1 9, .val 4 4, .val 5 3]),
  (53, 7, [.val 0 9, .val 1 9, .val 4 4, .val 5 3, .val 6 3])]

def ownT : List Nat := [44, 52, 40]

def rtsT : List (Nat × List Nat) := [(5, [4]), (7, [9]), (11, [9]), (15, [4]), (22, [4]), (24, [32]), (26, [32]), (31, [4]), (35, [41]), (38, [4]), (44, [32]), (46, [4]), (48, [24]), (51, [3]), (52, [32]), (53, [4]), (54, [3]), (13, [9]), (17, [32]), (23, [32]), (25, [32]), (37, [3]), (40, [32]), (41, [4]), (42, [4]), (43, [4]), (45, [3, 4, 24]), (47, [3, 3, 24]), (49, [3]), (6, [23]), (16, [3]), (20, [32]), (21, [4]), (27, [4, 24]), (29, [3, 3, 24]), (30, [9, 3, 24]), (39, [32]), (9, [32, 24]), (18, [32]), (19, [32]), (34, [32]), (50, [4]), (32, [4]), (33, [4]), (36, [4]), (14, [4]), (8, [32, 24]), (12, [32, 24]), (28, [23, 3, 24]), (4, [4]), (10, [26, 24]), (3, [4])]

/-- kerbsuite/kerbsuitelaw9.long -/
def sp5 : Abs.Spec := fun xs bl => match xs, bl with
  | [.sl 1 els], [] => chk (allStrs els && decide (els.length ≤ 1000)) (some (.bool (Kerb.anyLong els), []))
  | _, _ => none

/-- kerbsuite/kdcmessage.Message -/
def sp7 : Abs.Spec := fun xs bl => match xs, bl with
  | [.int .i64 code], [] => some (.str (Kerb.message code), [])
  | _, _ => none

/-- kerbsuite/kerbsuiteref9.Message -/
def sp11 : Abs.Spec := fun xs bl => match xs, bl with
  | [.int .i64 code], [] => some (.str (Kerb.message code), [])
  | _, _ => none

/-- kerbsuite/kdcmessage.within -/
def sp15 : Abs.Spec := fun xs bl => match xs, bl with
  | [.int .i64 n, .int .i64 m], [] => some (.bool (Kerb.within n m), [])
  | _, _ => none

/-- kerbsuite/kerbsuiteref9.within -/
def sp22 : Abs.Spec := fun xs bl => match xs, bl with
  | [.int .i64 n, .int .i64 m], [] => some (.bool (Kerb.within n m), [])
  | _, _ => none

/-- kerbsuite/kerbsuiteref8.Put -/
def sp24 : Abs.Spec := fun xs bl => match xs, bl with
  | [.int .i64 k, .bool little], [] => some (.bs (Kerb.header k little), [])
  | _, _ => none

/-- kerbsuite/kerbsuiteref5.PutText -/
def sp26 : Abs.Spec := fun xs bl => match xs, bl with
  | [.bs b, .str s], [] => chk (decide (b.length + s.length ≤ 70368744177664)) (some (.bs (Kerb.putText b s), []))
  | _, _ => none

/-- bytes.Equal -/
def sp31 : Abs.Spec := fun xs bl => match xs, bl with
  | [.bs a, .bs b], [] => some (.bool (a == b), [])
  | _, _ => none

/-- kerbsuite/kerbsuitedata.Realms -/
def sp35 : Abs.Spec := fun xs bl => match xs, bl with
  | [], [] => some (.sl 1 [.str [65, 84, 72], .str [66, 79, 83], .str [67, 65, 77]], [])
  | _, _ => none

/-- kerbsuite/header.isKind -/
def sp38 : Abs.Spec := fun xs bl => match xs, bl with
  | [.int .i64 k], [] => some (.bool (Kerb.isKind k), [])
  | _, _ => none

/-- kerbsuite/kerbsuiteref5.put -/
def sp44 : Abs.Spec := fun xs bl => match xs, bl with
  | [.bs b, .int .i64 n, .int .i64 k, .bool little], [] => chk (decide (k = 1 ∨ k = 2 ∨ k = 4) && decide (b.length ≤ 70368744177664)) (some (.ownB (b ++ Kerb.putN n k.toNat little), []))
  | _, _ => none

/-- kerbsuite/header.among -/
def sp46 : Abs.Spec := fun xs bl => match xs, bl with
  | [.int .i64 k, .sl 1 els], [] => chk (allInts els && decide (els.length ≤ 1000)) (some (.bool ((intsIn els).contains k), []))
  | _, _ => none

/-- kerbsuite/field.room -/
def sp48 : Abs.Spec := fun xs bl => match xs, bl with
  | [.bs b, .int .i64 pos, .int .i64 n], [] => chk (decide (b.length ≤ 4611686018427387904)) (some (.int .i64 (Kerb.room b pos n), []))
  | _, _ => none

/-- internal/bytealg.IndexByteString -/
def sp51 : Abs.Spec := fun xs bl => match xs, bl with
  | [.str s, .u8 c], [] => some (.int .i64 (Kerb.indexOf c s), [])
  | _, _ => none

/-- slices.Grow[[]byte,byte] -/
def sp52 : Abs.Spec := fun xs bl => match xs, bl with
  | [.nils, .int .i64 n], [] => chk (decide (0 ≤ n) && decide (n ≤ 140737488355328)) (some (.ownB [], []))
  | _, _ => none

/-- kerbsuite/kerbsuiteref1.text -/
def sp53 : Abs.Spec := fun xs bl => match xs, bl with
  | [.str s, .str bad], [] => chk (decide (s.length ≤ 4611686018427387904) && decide (bad.length ≤ 100)) (some (.bool (Kerb.printable s bad && decide (s.length ≤ 39)), []))
  | _, _ => none

/-- internal/bytealg.IndexByte -/
def sp54 : Abs.Spec := fun xs bl => match xs, bl with
  | [.bs s, .u8 c], [] => some (.int .i64 (Kerb.indexOf c s), [])
  | _, _ => none

/-- kerbsuite/kerbsuitedata.Realm -/
def sp13 : Abs.Spec := fun xs bl => match xs, bl with
  | [.int .i64 n], [] => chk (decide (0 ≤ n)) (some (.str (Kerb.realm n), []))
  | _, _ => none

/-- kerbsuite/header.Put -/
def sp17 : Abs.Spec := fun xs bl => match xs, bl with
  | [.int .i64 k, .bool little], [] => some (.bs (Kerb.header k little), [])
  | _, _ => none

/-- kerbsuite/kerbsuiteref5.PutPrincipal -/
def sp23 : Abs.Spec := fun xs bl => match xs, bl with
  | [.bs b, .agg [.str x, .str y, .str z]], [] => chk (decide (b.length + x.length + y.length + z.length ≤ 70368744170000)) (some (.bs (Kerb.putPrin b ⟨x, y, z⟩), []))
  | _, _ => none

/-- kerbsuite/kerbsuiteref5.PutNumber -/
def sp25 : Abs.Spec := fun xs bl => match xs, bl with
  | [.bs b, .int .i64 n, .bool little], [] => chk (decide (b.length ≤ 70368744177664)) (some (.bs (b ++ Kerb.putN n 4 little), []))
  | _, _ => none

/-- internal/stringslite.IndexByte -/
def sp37 : Abs.Spec := fun xs bl => match xs, bl with
  | [.str s, .u8 c], [] => some (.int .i64 (Kerb.indexOf c s), [])
  | _, _ => none

/-- slices.Concat[[]byte,byte] -/
def sp40 : Abs.Spec := fun xs bl => match xs, bl with
  | [.sl 1 els], [] => chk (allB els && decide ((catB els).length ≤ 140737488355328) && decide (els.length ≤ 1000)) (some (.ownB (catB els), []))
  | _, _ => none

/-- kerbsuite/kerbsuiteref1.ValidName -/
def sp41 : Abs.Spec := fun xs bl => match xs, bl with
  | [.str s], [] => chk (decide (s.length ≤ 4611686018427387904)) (some (.bool (Kerb.validName s), []))
  | _, _ => none

/-- kerbsuite/kerbsuiteref1.ValidInstance -/
def sp42 : Abs.Spec := fun xs bl => match xs, bl with
  | [.str s], [] => chk (decide (s.length ≤ 4611686018427387904)) (some (.bool (Kerb.validInst s), []))
  | _, _ => none

/-- kerbsuite/kerbsuiteref1.ValidRealm -/
def sp43 : Abs.Spec := fun xs bl => match xs, bl with
  | [.str s], [] => chk (decide (s.length ≤ 4611686018427387904)) (some (.bool (Kerb.validRealm s), []))
  | _, _ => none

/-- kerbsuite/header.Read -/
def sp45 : Abs.Spec := fun xs bl => match xs, bl with
  | [.bs b], [] => some (.tup [.int .i64 (Kerb.readHead b).kind, .bool (Kerb.readHead b).little, .int .i64 (Kerb.readHead b).err], [])
  | _, _ => none

/-- kerbsuite/field.get -/
def sp47 : Abs.Spec := fun xs bl => match xs, bl with
  | [.bs b, .int .i64 pos, .int .i64 k, .bool little], [] => chk (decide (b.length ≤ 4611686018427387904) && decide (0 ≤ k) && decide (k ≤ 4)) (some (.tup [.int .i64 (Kerb.get b pos k little).val, .int .i64 (Kerb.get b pos k little).next, .int .i64 (Kerb.get b pos k little).err], []))
  | _, _ => none

/-- bytes.IndexByte -/
def sp49 : Abs.Spec := fun xs bl => match xs, bl with
  | [.bs s, .u8 c], [] => some (.int .i64 (Kerb.indexOf c s), [])
  | _, _ => none

/-- kerbsuite/kerbsuitedata.User -/
def sp6 : Abs.Spec := fun xs bl => match xs, bl with
  | [.int .i64 n], [] => chk (decide (0 ≤ n) && decide (n ≤ 4611686018427387904)) (some (.agg [.str (Kerb.user n).name, .str (Kerb.user n).inst, .str (Kerb.user n).realm], []))
  | _, _ => none

/-- strings.IndexByte -/
def sp16 : Abs.Spec := fun xs bl => match xs, bl with
  | [.str s, .u8 c], [] => some (.int .i64 (Kerb.indexOf c s), [])
  | _, _ => none

/-- kerbsuite/field.PutText -/
def sp20 : Abs.Spec := fun xs bl => match xs, bl with
  | [.bs b, .str s], [] => chk (decide (b.length + s.length ≤ 70368744177664)) (some (.bs (Kerb.putText b s), []))
  | _, _ => none

/-- kerbsuite/kerbsuiteref1.Valid -/
def sp21 : Abs.Spec := fun xs bl => match xs, bl with
  | [.agg [.str a, .str b, .str c]], [] => chk (decide (a.length ≤ 4611686018427387904) && decide (b.length ≤ 4611686018427387904) && decide (c.length ≤ 4611686018427387904)) (some (.bool (Kerb.Prin.valid ⟨a, b, c⟩), []))
  | _, _ => none

/-- kerbsuite/header.Is -/
def sp27 : Abs.Spec := fun xs bl => match xs, bl with
  | [.bs b, .sl 1 els], [] => chk (allInts els && decide (els.length ≤ 1000)) (some (.tup [.bool (Kerb.headIs b (intsIn els)).1, .int .i64 (Kerb.headIs b (intsIn els)).2], []))
  | _, _ => none

/-- kerbsuite/field.Number -/
def sp29 : Abs.Spec := fun xs bl => match xs, bl with
  | [.bs b, .int .i64 pos, .bool little], [] => chk (decide (b.length ≤ 4611686018427387904)) (some (.tup [.int .i64 (Kerb.get b pos 4 little).val, .int .i64 (Kerb.get b pos 4 little).next, .int .i64 (Kerb.get b pos 4 little).err], []))
  | _, _ => none

/-- kerbsuite/field.Text -/
def sp30 : Abs.Spec := fun xs bl => match xs, bl with
  | [.bs b, .int .i64 pos], [] => chk (decide (b.length ≤ 4611686018427387904)) (some (.tup [.str (Kerb.text b pos).val, .int .i64 (Kerb.text b pos).next, .int .i64 (Kerb.text b pos).err], []))
  | _, _ => none

/-- kerbsuite/field.put -/
def sp39 : Abs.Spec := fun xs bl => match xs, bl with
  | [.bs b, .int .i64 n, .int .i64 k, .bool little], [] => chk (decide (k = 1 ∨ k = 2 ∨ k = 4) && decide (b.length ≤ 70368744177664)) (some (.bs (b ++ Kerb.putN n k.toNat little), []))
  | _, _ => none

/-- kerbsuite/kerbsuiteref9.EncodeError -/
def sp9 : Abs.Spec := fun xs bl => match xs, bl with
  | [.agg [.bool li, .str x, .str y, .str z, .int .i64 t, .int .i64 cd, .str tx]], [] => chk (decide (x.length ≤ 4611686018427387904) && decide (y.length ≤ 4611686018427387904) && decide (z.length ≤ 4611686018427387904) && decide (tx.length ≤ 4611686018427387904)) (some (.tup [.bs (Kerb.encodeError ⟨li, ⟨x, y, z⟩, t, cd, tx⟩).val, .int .i64 (Kerb.encodeError ⟨li, ⟨x, y, z⟩, t, cd, tx⟩).err], []))
  | _, _ => none

/-- kerbsuite/field.PutPrincipal -/
def sp18 : Abs.Spec := fun xs bl => match xs, bl with
  | [.bs b, .agg [.str x, .str y, .str z]], [] => chk (decide (b.length + x.length + y.length + z.length ≤ 70368744170000)) (some (.bs (Kerb.putPrin b ⟨x, y, z⟩), []))
  | _, _ => none

/-- kerbsuite/field.PutNumber -/
def sp19 : Abs.Spec := fun xs bl => match xs, bl with
  | [.bs b, .int .i64 n, .bool little], [] => chk (decide (b.length ≤ 70368744177664)) (some (.bs (b ++ Kerb.putN n 4 little), []))
  | _, _ => none

/-- kerbsuite/field.PutOctet -/
def sp34 : Abs.Spec := fun xs bl => match xs, bl with
  | [.bs b, .int .i64 n], [] => chk (decide (b.length ≤ 70368744177664)) (some (.bs (b ++ Kerb.putN n 1 false), []))
  | _, _ => none

/-- kerbsuite/principal.printable -/
def sp50 : Abs.Spec := fun xs bl => match xs, bl with
  | [.str s, .str bad], [] => chk (decide (s.length ≤ 4611686018427387904)) (some (.bool (Kerb.printable s bad), []))
  | _, _ => none

/-- kerbsuite/principal.ValidName -/
def sp32 : Abs.Spec := fun xs bl => match xs, bl with
  | [.str s], [] => chk (decide (s.length ≤ 4611686018427387904)) (some (.bool (Kerb.validName s), []))
  | _, _ => none

/-- kerbsuite/principal.ValidInstance -/
def sp33 : Abs.Spec := fun xs bl => match xs, bl with
  | [.str s], [] => chk (decide (s.length ≤ 4611686018427387904)) (some (.bool (Kerb.validInst s), []))
  | _, _ => none

/-- kerbsuite/principal.ValidRealm -/
def sp36 : Abs.Spec := fun xs bl => match xs, bl with
  | [.str s], [] => chk (decide (s.length ≤ 4611686018427387904)) (some (.bool (Kerb.validRealm s), []))
  | _, _ => none

/-- kerbsuite/principal.Valid -/
def sp14 : Abs.Spec := fun xs bl => match xs, bl with
  | [.agg [.str a, .str b, .str c]], [] => chk (decide (a.length ≤ 4611686018427387904) && decide (b.length ≤ 4611686018427387904) && decide (c.length ≤ 4611686018427387904)) (some (.bool (Kerb.Prin.valid ⟨a, b, c⟩), []))
  | _, _ => none

/-- kerbsuite/kdcmessage.EncodeError -/
def sp8 : Abs.Spec := fun xs bl => match xs, bl with
  | [.agg [.bool li, .str x, .str y, .str z, .int .i64 t, .int .i64 cd, .str tx]], [] => chk (decide (x.length ≤ 4611686018427387904) && decide (y.length ≤ 4611686018427387904) && decide (z.length ≤ 4611686018427387904) && decide (tx.length ≤ 4611686018427387904)) (some (.tup [.bs (Kerb.encodeError ⟨li, ⟨x, y, z⟩, t, cd, tx⟩).val, .int .i64 (Kerb.encodeError ⟨li, ⟨x, y, z⟩, t, cd, tx⟩).err], []))
  | _, _ => none

/-- kerbsuite/kdcmessage.EncodeRequest -/
def sp12 : Abs.Spec := fun xs bl => match xs, bl with
  | [.agg [.bool li, .str x, .str y, .str z, .int .i64 t, .int .i64 lf, .str sv, .str ins]], [] => chk (decide (x.length ≤ 4611686018427387904) && decide (y.length ≤ 4611686018427387904) && decide (z.length ≤ 4611686018427387904) && decide (sv.length ≤ 4611686018427387904) && decide (ins.length ≤ 4611686018427387904)) (some (.tup [.bs (Kerb.encodeRequest ⟨li, ⟨x, y, z⟩, t, lf, sv, ins⟩).val, .int .i64 (Kerb.encodeRequest ⟨li, ⟨x, y, z⟩, t, lf, sv, ins⟩).err], []))
  | _, _ => none

/-- kerbsuite/field.Principal -/
def sp28 : Abs.Spec := fun xs bl => match xs, bl with
  | [.bs b, .int .i64 pos], [] => chk (decide (b.length ≤ 4611686018427387904)) (some (.tup [.agg [.str (Kerb.prin b pos).val.name, .str (Kerb.prin b pos).val.inst, .str (Kerb.prin b pos).val.realm], .int .i64 (Kerb.prin b pos).next, .int .i64 (Kerb.prin b pos).err], []))
  | _, _ => none

/-- kerbsuite/kerbsuitelaw9.awake -/
def sp4 : Abs.Spec := fun xs bl => match xs, bl with
  | [], [] => some (.bool true, [])
  | _, _ => none

/-- kerbsuite/kdcmessage.DecodeError -/
def sp10 : Abs.Spec := fun xs bl => match xs, bl with
  | [.bs b], [] => chk (decide (b.length ≤ 140737488355328)) (some (.tup [.agg [.bool ((Kerb.decodeError b).val).little, .str ((Kerb.decodeError b).val).client.name, .str ((Kerb.decodeError b).val).client.inst, .str ((Kerb.decodeError b).val).client.realm, .int .i64 ((Kerb.decodeError b).val).time, .int .i64 ((Kerb.decodeError b).val).code, .str ((Kerb.decodeError b).val).text], .int .i64 (Kerb.decodeError b).err], []))
  | _, _ => none

/-- kerbsuite/kerbsuitelaw9.KdcErrors -/
def sp3 : Abs.Spec := fun xs bl => match xs, bl with
  | [.agg [.bool li, .str x, .str y, .str z, .int .i64 t, .int .i64 cd, .str tx], .u8 who, .int .i64 code, .str text, .bool little], [] => some (.bool true, [])
  | _, _ => none

def tabT : List (Nat × Nat × List CT × Abs.Spec) := [(5, 1, [.sl 1], sp5), (7, 1, [.int .i64], sp7), (11, 1, [.int .i64], sp11), (15, 1, [.int .i64, .int .i64], sp15), (22, 1, [.int .i64, .int .i64], sp22), (24, 1, [.int .i64, .bool], sp24), (26, 1, [.bsl, .str], sp26), (31, 1, [.bsl, .bsl], sp31), (35, 1, [], sp35), (38, 1, [.int .i64], sp38), (44, 1, [.bsl, .int .i64, .int .i64, .bool], sp44), (46, 1, [.int .i64, .sl 1], sp46), (48, 1, [.bsl, .int .i64, .int .i64], sp48), (51, 1, [.str, .u8], sp51), (52, 1, [.other, .other], sp52), (53, 1, [.str, .str], sp53), (54, 1, [.bsl, .u8], sp54), (13, 2, [.int .i64], sp13), (17, 2, [.int .i64, .bool], sp17), (23, 2, [.bsl, .other], sp23), (25, 2, [.bsl, .int .i64, .bool], sp25), (37, 2, [.str, .u8], sp37), (40, 2, [.sl 1], sp40), (41, 2, [.str], sp41), (42, 2, [.str], sp42), (43, 2, [.str], sp43), (45, 2, [.bsl], sp45), (47, 2, [.bsl, .int .i64, .int .i64, .bool], sp47), (49, 2, [.bsl, .u8], sp49), (6, 3, [.int .i64], sp6), (16, 3, [.str, .u8], sp16), (20, 3, [.bsl, .str], sp20), (21, 3, [.other], sp21), (27, 3, [.bsl, .sl 1], sp27), (29, 3, [.bsl, .int .i64, .bool], sp29), (30, 3, [.bsl, .int .i64], sp30), (39, 3, [.bsl, .int .i64, .int .i64, .bool], sp39), (9, 4, [.other], sp9), (18, 4, [.bsl, .other], sp18), (19, 4, [.bsl, .int .i64, .bool], sp19), (34, 4, [.bsl, .int .i64], sp34), (50, 4, [.str, .str], sp50), (32, 5, [.str], sp32), (33, 5, [.str], sp33), (36, 6, [.str], sp36), (14, 7, [.other], sp14), (8, 8, [.other], sp8), (12, 8, [.other], sp12), (28, 8, [.bsl, .int .i64], sp28), (4, 9, [], sp4), (10, 9, [.bsl], sp10), (3, 10, [.other, .u8, .int .i64, .str, .bool], sp3)]

def globT : List (Nat × List AV) := [(0, [.str [99, 108, 105, 101, 110, 116, 32, 101, 120, 112, 105, 114, 101, 100], .str [115, 101, 114, 118, 105, 99, 101, 32, 101, 120, 112, 105, 114, 101, 100], .str [110, 111, 32, 108, 105, 102, 101, 116, 105, 109, 101, 32, 108, 101, 102, 116], .str [112, 114, 111, 116, 111, 99, 111, 108, 32, 118, 101, 114, 115, 105, 111, 110], .str [110, 111, 116, 32, 97, 32, 99, 108, 105, 101, 110, 116], .str [110, 111, 116, 32, 97, 32, 115, 101, 114, 118, 105, 99, 101], .str [98, 121, 116, 101, 32, 111, 114, 100, 101, 114], .str [112, 114, 105, 110, 99, 105, 112, 97, 108, 32, 117, 110, 107, 110, 111, 119, 110], .str [112, 114, 105, 110, 99, 105, 112, 97, 108, 32, 110, 111, 116, 32, 117, 110, 105, 113, 117, 101], .str [110, 111, 32, 107, 101, 121]])]

def look {α : Type} (k : Nat) : List (Nat × α) → Option α
  | [] => none
  | (j, x) :: r => cond (Nat.beq j k) (some x) (look k r)
def look2 {α : Type} (k m : Nat) : List (Nat × Nat × List α) → List α
  | [] => []
  | (j, i, x) :: r => cond (Nat.beq j k) (cond (Nat.beq i m) x (look2 k m r)) (look2 k m r)
def G : Cfg2 := { ty := fun t => (tbl[t]?).join, keep := fun f r => look2 f r keepT, own := fun f => ownT.contains f, glob := fun q => look q globT, rts := fun f => look f rtsT, tab := fun f => look f tabT }
end Go.Proofs.YtngaooakflldaaaDoor
