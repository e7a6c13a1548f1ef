/- The table of functions of this seat. -/
import Derived.Test.YtngaooakflldaaaAbsSpec
import Derived.Test.YtngaooakflldaaaKerbDefs
import Derived.Test.YtngaooakflldaaaAbsPlain
import Derived.Test.YtngaooakflldaaaProg
import Derived.KernelRfl
namespace Go.Proofs.Ytngaooakflldaaa
open Go.Abs
set_option linter.unusedVariables false

def tbl : List (Option TI) := [
  none,
  none,
  some ⟨1, 8, .int .i64, [.int .i64 0], [.int .i64], [.int .i64]⟩,
  some ⟨1, 8, .int .i64, [.int .i64 0], [.int .i64], [.int .i64]⟩,
  some ⟨1, 1, .bool, [.bool false], [.bool], [.bool]⟩,
  some ⟨1, 1, .u8, [.u8 0], [.u8], [.u8]⟩,
  some ⟨1, 1, .u8, [.u8 0], [.u8], [.u8]⟩,
  some ⟨4, 24, .struct [(0, 2), (1, 3), (2, 4), (3, 6)], [.int .i64 0, .int .i64 0, .bool false, .u8 0], [.int .i64, .int .i64, .bool, .u8], [.int .i64, .int .i64, .bool, .u8]⟩,
  none,
  some ⟨1, 16, .str, [.str []], [.str], [.str]⟩,
  none,
  none,
  some ⟨1, 8, .int .u64, [.int .u64 0], [.int .u64], [.int .u64]⟩,
  none,
  none,
  some ⟨1, 8, .ptr 119, [.nilp], [.ptr], []⟩,
  some ⟨1, 8, .ptr 122, [.nilp], [.ptr], []⟩,
  some ⟨1, 8, .ptr 132, [.nilp], [.ptr], []⟩,
  some ⟨1, 8, .struct [(0, 17)], [.nilp], [.ptr], []⟩,
  some ⟨1, 8, .struct [(0, 17)], [.nilp], [.ptr], []⟩,
  none,
  some ⟨1, 4, .int .i32, [.int .i32 0], [.int .i32], [.int .i32]⟩,
  some ⟨3, 48, .struct [(0, 9), (1, 9), (2, 9)], [.str [], .str [], .str []], [.str, .str, .str], [.str, .str, .str]⟩,
  some ⟨3, 48, .struct [(0, 9), (1, 9), (2, 9)], [.str [], .str [], .str []], [.str, .str, .str], [.str, .str, .str]⟩,
  some ⟨8, 104, .struct [(0, 4), (1, 23), (4, 3), (5, 3), (6, 9), (7, 9)], [.bool false, .str [], .str [], .str [], .int .i64 0, .int .i64 0, .str [], .str []], [.bool, .str, .str, .str, .int .i64, .int .i64, .str, .str], [.bool, .str, .str, .str, .int .i64, .int .i64, .str, .str]⟩,
  some ⟨8, 104, .struct [(0, 4), (1, 23), (4, 3), (5, 3), (6, 9), (7, 9)], [.bool false, .str [], .str [], .str [], .int .i64 0, .int .i64 0, .str [], .str []], [.bool, .str, .str, .str, .int .i64, .int .i64, .str, .str], [.bool, .str, .str, .str, .int .i64, .int .i64, .str, .str]⟩,
  some ⟨1, 24, .slice 5 true, [.nils], [.bsl], []⟩,
  none,
  none,
  none,
  some ⟨1, 24, .slice 25 false, [.nils], [.sl 8], []⟩,
  some ⟨1, 8, .int .i64, [.int .i64 0], [.int .i64], [.int .i64]⟩,
  none,
  none,
  none,
  none,
  none,
  some ⟨8, 104, .struct [(0, 4), (1, 23), (4, 3), (5, 3), (6, 3), (7, 26)], [.bool false, .str [], .str [], .str [], .int .i64 0, .int .i64 0, .int .i64 0, .nils], [.bool, .str, .str, .str, .int .i64, .int .i64, .int .i64, .bsl], []⟩,
  some ⟨8, 104, .struct [(0, 4), (1, 23), (4, 3), (5, 3), (6, 3), (7, 26)], [.bool false, .str [], .str [], .str [], .int .i64 0, .int .i64 0, .int .i64 0, .nils], [.bool, .str, .str, .str, .int .i64, .int .i64, .int .i64, .bsl], []⟩,
  some ⟨1, 2, .int .u16, [.int .u16 0], [.int .u16], [.int .u16]⟩,
  none,
  some ⟨1, 24, .slice 38 false, [.nils], [.sl 8], []⟩,
  none,
  none,
  none,
  none,
  none,
  some ⟨1, 8, .int .u64, [.int .u64 0], [.int .u64], [.int .u64]⟩,
  some ⟨1, 8, .int .u64, [.int .u64 0], [.int .u64], [.int .u64]⟩,
  some ⟨8, 104, .struct [(0, 48), (1, 23), (4, 3), (5, 3), (6, 26), (7, 3)], [.int .u64 0, .str [], .str [], .str [], .int .i64 0, .int .i64 0, .nils, .int .i64 0], [.int .u64, .str, .str, .str, .int .i64, .int .i64, .bsl, .int .i64], []⟩,
  some ⟨8, 104, .struct [(0, 48), (1, 23), (4, 3), (5, 3), (6, 26), (7, 3)], [.int .u64 0, .str [], .str [], .str [], .int .i64 0, .int .i64 0, .nils, .int .i64 0], [.int .u64, .str, .str, .str, .int .i64, .int .i64, .bsl, .int .i64], []⟩,
  none,
  some ⟨1, 24, .slice 50 false, [.nils], [.sl 8], []⟩,
  none,
  none,
  none,
  none,
  none,
  none,
  some ⟨1, 24, .slice 9 false, [.nils], [.sl 1], []⟩,
  some ⟨10, 120, .struct [(0, 4), (1, 23), (4, 3), (5, 48), (6, 3), (7, 3), (8, 9), (9, 9)], [.bool false, .str [], .str [], .str [], .int .i64 0, .int .u64 0, .int .i64 0, .int .i64 0, .str [], .str []], [.bool, .str, .str, .str, .int .i64, .int .u64, .int .i64, .int .i64, .str, .str], [.bool, .str, .str, .str, .int .i64, .int .u64, .int .i64, .int .i64, .str, .str]⟩,
  some ⟨10, 120, .struct [(0, 4), (1, 23), (4, 3), (5, 48), (6, 3), (7, 3), (8, 9), (9, 9)], [.bool false, .str [], .str [], .str [], .int .i64 0, .int .u64 0, .int .i64 0, .int .i64 0, .str [], .str []], [.bool, .str, .str, .str, .int .i64, .int .u64, .int .i64, .int .i64, .str, .str], [.bool, .str, .str, .str, .int .i64, .int .u64, .int .i64, .int .i64, .str, .str]⟩,
  none,
  none,
  none,
  none,
  none,
  none,
  none,
  none,
  none,
  none,
  none,
  none,
  none,
  none,
  none,
  none,
  none,
  none,
  none,
  none,
  none,
  none,
  none,
  none,
  none,
  none,
  none,
  none,
  none,
  some ⟨1, 8, .ptr 93, [.nilp], [.ptr], []⟩,
  some ⟨2, 32, .struct [(0, 26), (1, 3)], [.nils, .int .i64 0], [.bsl, .int .i64], []⟩,
  some ⟨2, 32, .struct [(0, 26), (1, 3)], [.nils, .int .i64 0], [.bsl, .int .i64], []⟩,
  none,
  none,
  none,
  none,
  none,
  some ⟨1, 24, .slice 3 false, [.nils], [.sl 1], []⟩,
  none,
  none,
  none,
  some ⟨1, 8, .ptr 9, [.nilp], [.ptr], []⟩,
  some ⟨1, 24, .slice 103 false, [.nils], [.sl 1], []⟩,
  none,
  none,
  none,
  some ⟨1, 24, .slice 26 false, [.nils], [.sl 1], []⟩,
  none,
  none,
  none,
  some ⟨1, 8, .int .u64, [.int .u64 0], [.int .u64], [.int .u64]⟩,
  none,
  some ⟨1, 24, .slice 23 false, [.nils], [.sl 3], []⟩,
  none,
  some ⟨4, 4, .arr 4 5 true, [.u8 0, .u8 0, .u8 0, .u8 0], [.u8, .u8, .u8, .u8], []⟩,
  none,
  some ⟨4, 40, .struct [(0, 17), (1, 17), (2, 17), (3, 9)], [.nilp, .nilp, .nilp, .str []], [.ptr, .ptr, .ptr, .str], []⟩,
  none,
  some ⟨0, 0, .arr 0 16 false, [], [], []⟩,
  none,
  none,
  none,
  some ⟨1, 4, .int .u32, [.int .u32 0], [.int .u32], [.int .u32]⟩,
  some ⟨1, 1, .u8, [.u8 0], [.u8], [.u8]⟩,
  some ⟨1, 1, .u8, [.u8 0], [.u8], [.u8]⟩,
  none,
  some ⟨1, 8, .ptr 5, [.nilp], [.ptr], []⟩,
  some ⟨1, 4, .int .i32, [.int .i32 0], [.int .i32], [.int .i32]⟩,
  some ⟨1, 4, .int .i32, [.int .i32 0], [.int .i32], [.int .i32]⟩,
  none,
  none,
  none]

def keepT : List (Nat × Nat × List Keep) := [(3, 6, [.val 1 26, .val 2 4, .cells 3 [.bool, .str, .str, .str, .int .i64, .int .i64, .str, .str], .ptr 3 3 0, .val 6 4, .val 7 3]),
  (4, 7, [.val 1 26, .val 2 26, .val 3 4, .cells 5 [.bool, .str, .str, .str, .int .i64, .int .i64, .int .i64, .bsl], .ptr 5 5 0, .val 10 4, .cells 11 [.bool, .str, .str, .str, .int .i64, .int .i64, .int .i64, .bsl], .ptr 11 11 0, .val 12 3]),
  (5, 6, [.val 1 26, .val 2 26, .val 3 4, .cells 4 [.int .u64, .str, .str, .str, .int .i64, .int .i64, .bsl, .int .i64], .ptr 4 4 0, .val 8 4, .val 9 3]),
  (7, 2, [.val 0 59, .val 2 4, .val 3 3]),
  (43, 4, [.val 0 26, .val 1 3, .cells 4 [.str, .str, .str], .ptr 4 4 0, .val 5 3, .val 6 31, .cells 7 [.str, .str, .str], .ptr 7 7 0, .psl 14 7 [0, 1, 2], .val 15 3, .val 16 3]),
  (49, 3, [.val 0 108, .val 3 3, .val 9 108, .val 10 3, .val 11 3]),
  (49, 11, [.rowB 6 5 false, .val 25 108, .val 26 3, .val 27 3]),
  (54, 3, [.val 0 48, .rowB 3 5 false, .val 7 3, .val 8 3]),
  (58, 3, [.val 0 48, .rowB 3 5 false, .val 4 3]),
  (59, 2, [.rowB 3 5 false]),
  (60, 5, [.val 4 48, .val 10 26, .val 11 3, .val 12 3]),
  (65, 3, [.val 0 3, .cells 2 [.str, .str, .str], .ptr 2 2 0, .val 3 9, .val 4 3]),
  (65, 7, [.val 0 3, .cells 2 [.str, .str, .str], .ptr 2 2 0, .val 3 9, .val 5 3]),
  (67, 2, [.val 0 9, .val 1 9, .val 4 4, .val 7 3, .val 8 3]),
  (69, 3, [.val 0 26, .val 1 3, .val 2 3, .val 3 4, .barr 9 false, .ptr 9 9 0, .val 12 3, .val 13 3]),
  (71, 2, [.val 0 9, .val 1 9, .val 4 4, .val 5 3]),
  (71, 7, [.val 0 9, .val 1 9, .val 4 4, .val 5 3, .val 6 3]),
  (72, 3, [.val 1 3, .val 2 3, .val 3 4, .rowB 9 5 false, .val 10 3]),
  (74, 2, [.val 0 3, .val 4 4, .val 7 99, .val 8 3, .val 9 3]),
  (75, 6, [.val 0 26, .val 1 3, .val 2 3, .val 3 4, .val 12 3, .val 22 3, .val 23 3])]

def ownT : List Nat := [72, 78, 39, 49, 57]

def rtsT : List (Nat × List Nat) := [(7, [4]), (21, [4]), (27, [4]), (36, [4]), (41, [26]), (47, [4]), (54, [26]), (58, [26]), (59, [26]), (62, [3]), (63, [48]), (65, [23]), (68, [4]), (71, [4]), (72, [26]), (76, [31]), (78, [26]), (79, [26]), (81, [48]), (82, [59]), (84, [3]), (85, [4]), (86, [4]), (88, [3]), (28, [26]), (34, [4]), (35, [4]), (37, [26]), (39, [26]), (40, [26]), (49, [26]), (52, [26, 3, 31]), (56, [4]), (61, [9]), (70, [4]), (75, [3, 3, 31]), (77, [3]), (80, [3, 3, 4]), (87, [3]), (22, [23]), (32, [26]), (33, [4]), (44, [3, 3, 31]), (45, [3, 3, 31]), (46, [9, 3, 31]), (53, [4]), (55, [26]), (57, [26]), (64, [23]), (69, [26]), (83, [3]), (19, [26, 31]), (23, [61]), (29, [26]), (30, [26]), (31, [26]), (60, [48, 4]), (67, [4]), (17, [50]), (25, [4]), (26, [4]), (66, [4]), (24, [4]), (9, [26, 31]), (18, [26, 31]), (43, [23, 3, 31]), (6, [4]), (20, [50, 31]), (5, [4])]

/-- kerbsuite/kerbsuitelaw9.long -/
def sp7 : Abs.Spec := fun xs bl => match xs, bl with
  | [.sl 1 els], [] => chk (allStrs els && decide (els.length ≤ 1000)) (some (.bool (Kerb.anyLong els), []))
  | _, _ => none

/-- kerbsuite/kerbsuiteref9.SamePart -/
def sp21 : Abs.Spec := fun xs bl => match xs, bl with
  | [.agg [.int .u64 k, .str x, .str y, .str z, .int .i64 lf, .int .i64 kv, .bs tk, .int .i64 t], .agg [.int .u64 k2, .str x2, .str y2, .str z2, .int .i64 lf2, .int .i64 kv2, .bs tk2, .int .i64 t2]], [] => some (.bool (k == k2 && (x == x2 && (y == y2 && z == z2)) && lf == lf2 && kv == kv2 && tk == tk2 && t == t2), [])
  | _, _ => none

/-- kerbsuite/kdcmessage.within -/
def sp27 : Abs.Spec := fun xs bl => match xs, bl with
  | [.int .i64 n, .int .i64 m], [] => some (.bool (Kerb.within n m), [])
  | _, _ => none

/-- kerbsuite/kerbsuiteref9.within -/
def sp36 : Abs.Spec := fun xs bl => match xs, bl with
  | [.int .i64 n, .int .i64 m], [] => some (.bool (Kerb.within n m), [])
  | _, _ => none

/-- kerbsuite/kerbsuiteref5.PutText -/
def sp41 : Abs.Spec := fun xs bl => match xs, bl with
  | [.bs b, .str s], [] => chk (decide (b.length + s.length ≤ 70368744177664)) (some (.bs (Kerb.putText b s), []))
  | _, _ => none

/-- bytes.Equal -/
def sp47 : Abs.Spec := fun xs bl => match xs, bl with
  | [.bs a, .bs b], [] => some (.bool (a == b), [])
  | _, _ => none

/-- kerbsuite/key.Bytes -/
def sp54 : Abs.Spec := fun xs bl => match xs, bl with
  | [.int .u64 k], [] => chk (decide (0 ≤ k) && decide (k < 18446744073709551616)) (some (.bs (Kerb.keyBytes k), []))
  | _, _ => none

/-- kerbsuite/kerbsuiteref3.Bytes -/
def sp58 : Abs.Spec := fun xs bl => match xs, bl with
  | [.int .u64 k], [] => chk (decide (0 ≤ k) && decide (k < 18446744073709551616)) (some (.bs (Kerb.keyBytes k), []))
  | _, _ => none

/-- kerbsuite/kerbsuiteref5.Pad -/
def sp59 : Abs.Spec := fun xs bl => match xs, bl with
  | [.bs b], [] => chk (decide (b.length ≤ 70368744177664)) (some (.bs (Kerb.pad b), []))
  | _, _ => none

/-- (*kerbsuite/kerbsuitedata.Source).Next -/
def sp62 : Abs.Spec := fun xs bl => match xs, bl with
  | [.ptr 0 0, .int .i64 n], [(0, [.bs l, .int .i64 pos])] => chk (decide (l.length ≤ 4611686018427387904) && decide (0 ≤ pos)) (some (.int .i64 (Kerb.next l pos n), [[.bs l, .int .i64 (Kerb.nextPos l pos n)]]))
  | _, _ => none

/-- kerbsuite/kerbsuitedata.Session -/
def sp63 : Abs.Spec := fun xs bl => match xs, bl with
  | [.int .i64 n], [] => chk (decide (0 ≤ n) && decide (n ≤ 1000)) (some (.int .u64 (Kerb.session n), []))
  | _, _ => none

/-- kerbsuite/kerbsuitedata.Longest -/
def sp65 : Abs.Spec := fun xs bl => match xs, bl with
  | [.int .i64 n], [] => chk (decide (0 ≤ n) && decide (n ≤ 1)) (some (.agg [.str (Kerb.longest n).name, .str (Kerb.longest n).inst, .str (Kerb.longest n).realm], []))
  | _, _ => none

/-- kerbsuite/header.isKind -/
def sp68 : Abs.Spec := fun xs bl => match xs, bl with
  | [.int .i64 k], [] => some (.bool (Kerb.isKind k), [])
  | _, _ => none

/-- kerbsuite/kerbsuiteref1.text -/
def sp71 : Abs.Spec := fun xs bl => match xs, bl with
  | [.str s, .str bad], [] => chk (decide (s.length ≤ 4611686018427387904) && decide (bad.length ≤ 100)) (some (.bool (Kerb.printable s bad && decide (s.length ≤ 39)), []))
  | _, _ => none

/-- kerbsuite/kerbsuiteref5.put -/
def sp72 : Abs.Spec := fun xs bl => match xs, bl with
  | [.bs b, .int .i64 n, .int .i64 k, .bool little], [] => chk (decide (k = 1 ∨ k = 2 ∨ k = 4) && decide (b.length ≤ 70368744177664)) (some (.ownB (b ++ Kerb.putN n k.toNat little), []))
  | _, _ => none

/-- kerbsuite/field.room -/
def sp76 : Abs.Spec := fun xs bl => match xs, bl with
  | [.bs b, .int .i64 pos, .int .i64 n], [] => chk (decide (b.length ≤ 4611686018427387904)) (some (.int .i64 (Kerb.room b pos n), []))
  | _, _ => none

/-- slices.Grow[[]byte,byte] -/
def sp78 : Abs.Spec := fun xs bl => match xs, bl with
  | [.nils, .int .i64 n], [] => chk (decide (0 ≤ n) && decide (n ≤ 140737488355328)) (some (.ownB [], []))
  | _, _ => none

/-- bytes.Clone -/
def sp79 : Abs.Spec := fun xs bl => match xs, bl with
  | [.bs b], [] => chk (decide (b.length ≤ 140737488355328)) (some (.bs b, []))
  | _, _ => none

/-- kerbsuite/kerbsuiteref3.Make -/
def sp81 : Abs.Spec := fun xs bl => match xs, bl with
  | [.int .i64 c, .int .i64 n], [] => some (.int .u64 (cond (Kerb.isClass c && Kerb.isSerial n) (c * 72057594037927936 + n) 0), [])
  | _, _ => none

/-- kerbsuite/kerbsuitedata.Realms -/
def sp82 : Abs.Spec := fun xs bl => match xs, bl with
  | [], [] => some (.sl 1 [.str [65, 84, 72], .str [66, 79, 83], .str [67, 65, 77]], [])
  | _, _ => none

/-- internal/bytealg.IndexByte -/
def sp84 : Abs.Spec := fun xs bl => match xs, bl with
  | [.bs s, .u8 c], [] => some (.int .i64 (Kerb.indexOf c s), [])
  | _, _ => none

/-- kerbsuite/key.isClass -/
def sp85 : Abs.Spec := fun xs bl => match xs, bl with
  | [.int .i64 k], [] => some (.bool (Kerb.isClass k), [])
  | _, _ => none

/-- kerbsuite/key.isSerial -/
def sp86 : Abs.Spec := fun xs bl => match xs, bl with
  | [.int .i64 k], [] => some (.bool (Kerb.isSerial k), [])
  | _, _ => none

/-- internal/bytealg.IndexByteString -/
def sp88 : Abs.Spec := fun xs bl => match xs, bl with
  | [.str s, .u8 c], [] => some (.int .i64 (Kerb.indexOf c s), [])
  | _, _ => none

/-- kerbsuite/header.Put -/
def sp28 : Abs.Spec := fun xs bl => match xs, bl with
  | [.int .i64 k, .bool little], [] => some (.bs (Kerb.header k little), [])
  | _, _ => none

/-- kerbsuite/kerbsuiteref1.ValidName -/
def sp34 : Abs.Spec := fun xs bl => match xs, bl with
  | [.str s], [] => chk (decide (s.length ≤ 4611686018427387904)) (some (.bool (Kerb.validName s), []))
  | _, _ => none

/-- kerbsuite/kerbsuiteref1.ValidInstance -/
def sp35 : Abs.Spec := fun xs bl => match xs, bl with
  | [.str s], [] => chk (decide (s.length ≤ 4611686018427387904)) (some (.bool (Kerb.validInst s), []))
  | _, _ => none

/-- kerbsuite/kerbsuiteref5.PutPrincipal -/
def sp37 : Abs.Spec := fun xs bl => match xs, bl with
  | [.bs b, .agg [.str x, .str y, .str z]], [] => chk (decide (b.length + x.length + y.length + z.length ≤ 70368744170000)) (some (.bs (Kerb.putPrin b ⟨x, y, z⟩), []))
  | _, _ => none

/-- kerbsuite/kerbsuiteref5.PutOctet -/
def sp39 : Abs.Spec := fun xs bl => match xs, bl with
  | [.bs b, .int .i64 n], [] => chk (decide (b.length ≤ 70368744177664)) (some (.ownB (b ++ Kerb.putN n 1 false), []))
  | _, _ => none

/-- kerbsuite/kerbsuiteref5.PutNumber -/
def sp40 : Abs.Spec := fun xs bl => match xs, bl with
  | [.bs b, .int .i64 n, .bool little], [] => chk (decide (b.length ≤ 70368744177664)) (some (.bs (b ++ Kerb.putN n 4 little), []))
  | _, _ => none

/-- slices.Concat[[]byte,byte] -/
def sp49 : Abs.Spec := fun xs bl => match xs, bl with
  | [.sl 1 els], [] => chk (allB els && decide ((catB els).length ≤ 140737488355328) && decide (els.length ≤ 1000)) (some (.ownB (catB els), []))
  | _, _ => none

/-- kerbsuite/field.Bytes -/
def sp52 : Abs.Spec := fun xs bl => match xs, bl with
  | [.bs b, .int .i64 pos, .int .i64 n], [] => chk (decide (b.length ≤ 140737488355328)) (some (.tup [.bs (Kerb.bytes b pos n).val, .int .i64 (Kerb.bytes b pos n).next, .int .i64 (Kerb.bytes b pos n).err], []))
  | _, _ => none

/-- kerbsuite/kerbsuiteref3.Valid -/
def sp56 : Abs.Spec := fun xs bl => match xs, bl with
  | [.int .u64 k], [] => chk (decide (0 ≤ k) && decide (k < 18446744073709551616)) (some (.bool (Kerb.keyValid k), []))
  | _, _ => none

/-- kerbsuite/kerbsuitedata.Realm -/
def sp61 : Abs.Spec := fun xs bl => match xs, bl with
  | [.int .i64 n], [] => chk (decide (0 ≤ n)) (some (.str (Kerb.realm n), []))
  | _, _ => none

/-- kerbsuite/kerbsuiteref1.ValidRealm -/
def sp70 : Abs.Spec := fun xs bl => match xs, bl with
  | [.str s], [] => chk (decide (s.length ≤ 4611686018427387904)) (some (.bool (Kerb.validRealm s), []))
  | _, _ => none

/-- kerbsuite/field.get -/
def sp75 : Abs.Spec := fun xs bl => match xs, bl with
  | [.bs b, .int .i64 pos, .int .i64 k, .bool little], [] => chk (decide (b.length ≤ 4611686018427387904) && decide (0 ≤ k) && decide (k ≤ 4)) (some (.tup [.int .i64 (Kerb.get b pos k little).val, .int .i64 (Kerb.get b pos k little).next, .int .i64 (Kerb.get b pos k little).err], []))
  | _, _ => none

/-- bytes.IndexByte -/
def sp77 : Abs.Spec := fun xs bl => match xs, bl with
  | [.bs s, .u8 c], [] => some (.int .i64 (Kerb.indexOf c s), [])
  | _, _ => none

/-- kerbsuite/key.split -/
def sp80 : Abs.Spec := fun xs bl => match xs, bl with
  | [.int .u64 k], [] => chk (decide (0 ≤ k) && decide (k < 18446744073709551616)) (some (.tup [.int .i64 (cond (Kerb.keyValid k) (Kerb.keyClass k) 0), .int .i64 (cond (Kerb.keyValid k) (Kerb.keySerial k) 0), .bool (Kerb.keyValid k)], []))
  | _, _ => none

/-- internal/stringslite.IndexByte -/
def sp87 : Abs.Spec := fun xs bl => match xs, bl with
  | [.str s, .u8 c], [] => some (.int .i64 (Kerb.indexOf c s), [])
  | _, _ => none

/-- kerbsuite/kerbsuitedata.User -/
def sp22 : Abs.Spec := fun xs bl => match xs, bl with
  | [.int .i64 n], [] => chk (decide (0 ≤ n) && decide (n ≤ 4611686018427387904)) (some (.agg [.str (Kerb.user n).name, .str (Kerb.user n).inst, .str (Kerb.user n).realm], []))
  | _, _ => none

/-- kerbsuite/field.PutText -/
def sp32 : Abs.Spec := fun xs bl => match xs, bl with
  | [.bs b, .str s], [] => chk (decide (b.length + s.length ≤ 70368744177664)) (some (.bs (Kerb.putText b s), []))
  | _, _ => none

/-- kerbsuite/kerbsuiteref1.Valid -/
def sp33 : Abs.Spec := fun xs bl => match xs, bl with
  | [.agg [.str a, .str b, .str c]], [] => chk (decide (a.length ≤ 4611686018427387904) && decide (b.length ≤ 4611686018427387904) && decide (c.length ≤ 4611686018427387904)) (some (.bool (Kerb.Prin.valid ⟨a, b, c⟩), []))
  | _, _ => none

/-- kerbsuite/field.Number -/
def sp44 : Abs.Spec := fun xs bl => match xs, bl with
  | [.bs b, .int .i64 pos, .bool little], [] => chk (decide (b.length ≤ 4611686018427387904)) (some (.tup [.int .i64 (Kerb.get b pos 4 little).val, .int .i64 (Kerb.get b pos 4 little).next, .int .i64 (Kerb.get b pos 4 little).err], []))
  | _, _ => none

/-- kerbsuite/field.Octet -/
def sp45 : Abs.Spec := fun xs bl => match xs, bl with
  | [.bs b, .int .i64 pos], [] => chk (decide (b.length ≤ 4611686018427387904)) (some (.tup [.int .i64 (Kerb.get b pos 1 false).val, .int .i64 (Kerb.get b pos 1 false).next, .int .i64 (Kerb.get b pos 1 false).err], []))
  | _, _ => none

/-- kerbsuite/field.Text -/
def sp46 : Abs.Spec := fun xs bl => match xs, bl with
  | [.bs b, .int .i64 pos], [] => chk (decide (b.length ≤ 4611686018427387904)) (some (.tup [.str (Kerb.text b pos).val, .int .i64 (Kerb.text b pos).next, .int .i64 (Kerb.text b pos).err], []))
  | _, _ => none

/-- kerbsuite/key.Valid -/
def sp53 : Abs.Spec := fun xs bl => match xs, bl with
  | [.int .u64 k], [] => chk (decide (0 ≤ k) && decide (k < 18446744073709551616)) (some (.bool (Kerb.keyValid k), []))
  | _, _ => none

/-- kerbsuite/field.Pad -/
def sp55 : Abs.Spec := fun xs bl => match xs, bl with
  | [.bs b], [] => chk (decide (b.length ≤ 70368744177664)) (some (.bs (Kerb.pad b), []))
  | _, _ => none

/-- kerbsuite/kerbsuiteref5.PutOrder -/
def sp57 : Abs.Spec := fun xs bl => match xs, bl with
  | [.bs b, .bool little], [] => chk (decide (b.length ≤ 70368744177664)) (some (.ownB (b ++ Kerb.putN (cond little 1 0) 1 false), []))
  | _, _ => none

/-- kerbsuite/kerbsuitedata.Service -/
def sp64 : Abs.Spec := fun xs bl => match xs, bl with
  | [.int .i64 n], [] => chk (decide (0 ≤ n) && decide (n ≤ 4611686018427387904)) (some (.agg [.str (Kerb.service n).name, .str (Kerb.service n).inst, .str (Kerb.service n).realm], []))
  | _, _ => none

/-- kerbsuite/field.put -/
def sp69 : Abs.Spec := fun xs bl => match xs, bl with
  | [.bs b, .int .i64 n, .int .i64 k, .bool little], [] => chk (decide (k = 1 ∨ k = 2 ∨ k = 4) && decide (b.length ≤ 70368744177664)) (some (.bs (b ++ Kerb.putN n k.toNat little), []))
  | _, _ => none

/-- strings.IndexByte -/
def sp83 : Abs.Spec := fun xs bl => match xs, bl with
  | [.str s, .u8 c], [] => some (.int .i64 (Kerb.indexOf c s), [])
  | _, _ => none

/-- kerbsuite/kerbsuiteref9.EncodePart -/
def sp19 : Abs.Spec := fun xs bl => match xs, bl with
  | [.agg [.int .u64 k, .str x, .str y, .str z, .int .i64 lf, .int .i64 kv, .bs tk, .int .i64 t], .bool little], [] => chk (decide (x.length ≤ 4611686018427387904) && decide (y.length ≤ 4611686018427387904) && decide (z.length ≤ 4611686018427387904) && decide (0 ≤ k) && decide (k < 18446744073709551616)) (some (.tup [.bs (Kerb.encodePart ⟨k, ⟨x, y, z⟩, lf, kv, tk, t⟩ little).val, .int .i64 (Kerb.encodePart ⟨k, ⟨x, y, z⟩, lf, kv, tk, t⟩ little).err], []))
  | _, _ => none

/-- kerbsuite/kerbsuitedata.Ticket -/
def sp23 : Abs.Spec := fun xs bl => match xs, bl with
  | [.bs l], [] => chk (decide (l.length ≤ 4611686018427387904)) (some (.agg [.bool (Kerb.ticket l).little, .str (Kerb.ticket l).client.name, .str (Kerb.ticket l).client.inst, .str (Kerb.ticket l).client.realm, .int .i64 (Kerb.ticket l).address, .int .u64 (Kerb.ticket l).session, .int .i64 (Kerb.ticket l).life, .int .i64 (Kerb.ticket l).issued, .str (Kerb.ticket l).service, .str (Kerb.ticket l).inst], []))
  | _, _ => none

/-- kerbsuite/field.PutPrincipal -/
def sp29 : Abs.Spec := fun xs bl => match xs, bl with
  | [.bs b, .agg [.str x, .str y, .str z]], [] => chk (decide (b.length + x.length + y.length + z.length ≤ 70368744170000)) (some (.bs (Kerb.putPrin b ⟨x, y, z⟩), []))
  | _, _ => none

/-- kerbsuite/field.PutNumber -/
def sp30 : Abs.Spec := fun xs bl => match xs, bl with
  | [.bs b, .int .i64 n, .bool little], [] => chk (decide (b.length ≤ 70368744177664)) (some (.bs (b ++ Kerb.putN n 4 little), []))
  | _, _ => none

/-- kerbsuite/field.PutOctet -/
def sp31 : Abs.Spec := fun xs bl => match xs, bl with
  | [.bs b, .int .i64 n], [] => chk (decide (b.length ≤ 70368744177664)) (some (.bs (b ++ Kerb.putN n 1 false), []))
  | _, _ => none

/-- kerbsuite/key.Read -/
def sp60 : Abs.Spec := fun xs bl => match xs, bl with
  | [.bs b], [] => chk (decide (b.length ≤ 4611686018427387904)) (some (.tup [.int .u64 (Kerb.keyRead b).1, .bool (Kerb.keyRead b).2], []))
  | _, _ => none

/-- kerbsuite/principal.printable -/
def sp67 : Abs.Spec := fun xs bl => match xs, bl with
  | [.str s, .str bad], [] => chk (decide (s.length ≤ 4611686018427387904)) (some (.bool (Kerb.printable s bad), []))
  | _, _ => none

/-- kerbsuite/kerbsuitelaw9.part -/
def sp17 : Abs.Spec := fun xs bl => match xs, bl with
  | [.bs l, .bs tk], [] => chk (decide (l.length ≤ 4611686018427387904)) (some (.agg [.int .u64 (Kerb.ticket l).session, .str (Kerb.ticket l).client.name, .str (Kerb.ticket l).client.inst, .str (Kerb.ticket l).client.realm, .int .i64 (Kerb.ticket l).life, .int .i64 (Kerb.ticket l).life, .bs (tk.take 255), .int .i64 (Kerb.ticket l).issued], []))
  | _, _ => none

/-- kerbsuite/principal.ValidName -/
def sp25 : Abs.Spec := fun xs bl => match xs, bl with
  | [.str s], [] => chk (decide (s.length ≤ 4611686018427387904)) (some (.bool (Kerb.validName s), []))
  | _, _ => none

/-- kerbsuite/principal.ValidInstance -/
def sp26 : Abs.Spec := fun xs bl => match xs, bl with
  | [.str s], [] => chk (decide (s.length ≤ 4611686018427387904)) (some (.bool (Kerb.validInst s), []))
  | _, _ => none

/-- kerbsuite/principal.ValidRealm -/
def sp66 : Abs.Spec := fun xs bl => match xs, bl with
  | [.str s], [] => chk (decide (s.length ≤ 4611686018427387904)) (some (.bool (Kerb.validRealm s), []))
  | _, _ => none

/-- kerbsuite/principal.Valid -/
def sp24 : Abs.Spec := fun xs bl => match xs, bl with
  | [.agg [.str a, .str b, .str c]], [] => chk (decide (a.length ≤ 4611686018427387904) && decide (b.length ≤ 4611686018427387904) && decide (c.length ≤ 4611686018427387904)) (some (.bool (Kerb.Prin.valid ⟨a, b, c⟩), []))
  | _, _ => none

/-- kerbsuite/kdcmessage.EncodeRequest -/
def sp9 : Abs.Spec := fun xs bl => match xs, bl with
  | [.agg [.bool li, .str x, .str y, .str z, .int .i64 t, .int .i64 lf, .str sv, .str ins]], [] => chk (decide (x.length ≤ 4611686018427387904) && decide (y.length ≤ 4611686018427387904) && decide (z.length ≤ 4611686018427387904) && decide (sv.length ≤ 4611686018427387904) && decide (ins.length ≤ 4611686018427387904)) (some (.tup [.bs (Kerb.encodeRequest ⟨li, ⟨x, y, z⟩, t, lf, sv, ins⟩).val, .int .i64 (Kerb.encodeRequest ⟨li, ⟨x, y, z⟩, t, lf, sv, ins⟩).err], []))
  | _, _ => none

/-- kerbsuite/kdcmessage.EncodePart -/
def sp18 : Abs.Spec := fun xs bl => match xs, bl with
  | [.agg [.int .u64 k, .str x, .str y, .str z, .int .i64 lf, .int .i64 kv, .bs tk, .int .i64 t], .bool little], [] => chk (decide (x.length ≤ 4611686018427387904) && decide (y.length ≤ 4611686018427387904) && decide (z.length ≤ 4611686018427387904) && decide (0 ≤ k) && decide (k < 18446744073709551616)) (some (.tup [.bs (Kerb.encodePart ⟨k, ⟨x, y, z⟩, lf, kv, tk, t⟩ little).val, .int .i64 (Kerb.encodePart ⟨k, ⟨x, y, z⟩, lf, kv, tk, t⟩ little).err], []))
  | _, _ => none

/-- kerbsuite/field.Principal -/
def sp43 : Abs.Spec := fun xs bl => match xs, bl with
  | [.bs b, .int .i64 pos], [] => chk (decide (b.length ≤ 4611686018427387904)) (some (.tup [.agg [.str (Kerb.prin b pos).val.name, .str (Kerb.prin b pos).val.inst, .str (Kerb.prin b pos).val.realm], .int .i64 (Kerb.prin b pos).next, .int .i64 (Kerb.prin b pos).err], []))
  | _, _ => none

/-- kerbsuite/kerbsuitelaw9.awake -/
def sp6 : Abs.Spec := fun xs bl => match xs, bl with
  | [], [] => some (.bool true, [])
  | _, _ => none

/-- kerbsuite/kdcmessage.DecodePart -/
def sp20 : Abs.Spec := fun xs bl => match xs, bl with
  | [.bs b, .bool little], [] => chk (decide (b.length ≤ 140737488355328)) (some (.tup [.agg [.int .u64 ((Kerb.decodePart b little).val).session, .str ((Kerb.decodePart b little).val).service.name, .str ((Kerb.decodePart b little).val).service.inst, .str ((Kerb.decodePart b little).val).service.realm, .int .i64 ((Kerb.decodePart b little).val).life, .int .i64 ((Kerb.decodePart b little).val).kvno, .bs ((Kerb.decodePart b little).val).ticket, .int .i64 ((Kerb.decodePart b little).val).time], .int .i64 (Kerb.decodePart b little).err], []))
  | _, _ => none

/-- kerbsuite/kerbsuitelaw9.KdcParts -/
def sp5 : Abs.Spec := fun xs bl => match xs, bl with
  | [.agg [.int .u64 k, .str x, .str y, .str z, .int .i64 lf, .int .i64 kv, .bs tk, .int .i64 t], .bs l, .bs ticket, .bool little], [] => chk (decide (0 ≤ k) && decide (k < 18446744073709551616)) (some (.bool true, []))
  | _, _ => none

def tabT : List (Nat × Nat × List CT × Abs.Spec) := [(7, 1, [.sl 1], sp7), (21, 1, [.other, .other], sp21), (27, 1, [.int .i64, .int .i64], sp27), (36, 1, [.int .i64, .int .i64], sp36), (41, 1, [.bsl, .str], sp41), (47, 1, [.bsl, .bsl], sp47), (54, 1, [.int .u64], sp54), (58, 1, [.int .u64], sp58), (59, 1, [.bsl], sp59), (62, 1, [.ptr, .int .i64], sp62), (63, 1, [.int .i64], sp63), (65, 1, [.int .i64], sp65), (68, 1, [.int .i64], sp68), (71, 1, [.str, .str], sp71), (72, 1, [.bsl, .int .i64, .int .i64, .bool], sp72), (76, 1, [.bsl, .int .i64, .int .i64], sp76), (78, 1, [.other, .other], sp78), (79, 1, [.bsl], sp79), (81, 1, [.int .i64, .int .i64], sp81), (82, 1, [], sp82), (84, 1, [.bsl, .u8], sp84), (85, 1, [.int .i64], sp85), (86, 1, [.int .i64], sp86), (88, 1, [.str, .u8], sp88), (28, 2, [.int .i64, .bool], sp28), (34, 2, [.str], sp34), (35, 2, [.str], sp35), (37, 2, [.bsl, .other], sp37), (39, 2, [.bsl, .int .i64], sp39), (40, 2, [.bsl, .int .i64, .bool], sp40), (49, 2, [.sl 1], sp49), (52, 2, [.bsl, .int .i64, .int .i64], sp52), (56, 2, [.int .u64], sp56), (61, 2, [.int .i64], sp61), (70, 2, [.str], sp70), (75, 2, [.bsl, .int .i64, .int .i64, .bool], sp75), (77, 2, [.bsl, .u8], sp77), (80, 2, [.int .u64], sp80), (87, 2, [.str, .u8], sp87), (22, 3, [.int .i64], sp22), (32, 3, [.bsl, .str], sp32), (33, 3, [.other], sp33), (44, 3, [.bsl, .int .i64, .bool], sp44), (45, 3, [.bsl, .int .i64], sp45), (46, 3, [.bsl, .int .i64], sp46), (53, 3, [.int .u64], sp53), (55, 3, [.bsl], sp55), (57, 3, [.bsl, .bool], sp57), (64, 3, [.int .i64], sp64), (69, 3, [.bsl, .int .i64, .int .i64, .bool], sp69), (83, 3, [.str, .u8], sp83), (19, 4, [.other, .bool], sp19), (23, 4, [.bsl], sp23), (29, 4, [.bsl, .other], sp29), (30, 4, [.bsl, .int .i64, .bool], sp30), (31, 4, [.bsl, .int .i64], sp31), (60, 4, [.bsl], sp60), (67, 4, [.str, .str], sp67), (17, 5, [.bsl, .bsl], sp17), (25, 5, [.str], sp25), (26, 5, [.str], sp26), (66, 6, [.str], sp66), (24, 7, [.other], sp24), (9, 8, [.other], sp9), (18, 8, [.other, .bool], sp18), (43, 8, [.bsl, .int .i64], sp43), (6, 9, [], sp6), (20, 9, [.bsl, .bool], sp20), (5, 10, [.other, .bsl, .bsl, .bool], sp5)]

def look {α : Type} (k : Nat) : List (Nat × α) → Option α
  | [] => none
  | (j, x) :: r => cond (Nat.beq j k) (some x) (look k r)
def look2 {α : Type} (k m : Nat) : List (Nat × Nat × List α) → List α
  | [] => []
  | (j, i, x) :: r => cond (Nat.beq j k) (cond (Nat.beq i m) x (look2 k m r)) (look2 k m r)
def G : Cfg2 := { ty := fun t => (tbl[t]?).join, keep := fun f r => look2 f r keepT, own := fun f => ownT.contains f, glob := fun _ => none, rts := fun f => look f rtsT, tab := fun f => look f tabT }
end Go.Proofs.Ytngaooakflldaaa
