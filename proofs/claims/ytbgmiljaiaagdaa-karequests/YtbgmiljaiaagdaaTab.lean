/- The table of functions of this seat. -/
import Derived.Test.YtbgmiljaiaagdaaAbsSpec
import Derived.Test.YtbgmiljaiaagdaaKerbDefs
import Derived.Test.YtbgmiljaiaagdaaAbsPlain
import Derived.Test.YtbgmiljaiaagdaaKerbAt
import Derived.Test.YtbgmiljaiaagdaaKerbKa
import Derived.Test.YtbgmiljaiaagdaaProg
import Derived.KernelRfl
namespace Go.Proofs.Ytbgmiljaiaagdaa
open Go.Abs
set_option linter.unusedVariables false

def tbl : List (Option TI) := [
  none,
  none,
  some ⟨1, 8, .int .i64, [.int .i64 0], [.int .i64], [.int .i64]⟩,
  some ⟨1, 8, .int .i64, [.int .i64 0], [.int .i64], [.int .i64]⟩,
  some ⟨1, 1, .bool, [.bool false], [.bool], [.bool]⟩,
  some ⟨1, 1, .u8, [.u8 0], [.u8], [.u8]⟩,
  some ⟨1, 1, .u8, [.u8 0], [.u8], [.u8]⟩,
  some ⟨4, 24, .struct [(0, 2), (1, 3), (2, 4), (3, 6)], [.int .i64 0, .int .i64 0, .bool false, .u8 0], [.int .i64, .int .i64, .bool, .u8], [.int .i64, .int .i64, .bool, .u8]⟩,
  none,
  some ⟨1, 16, .str, [.str []], [.str], [.str]⟩,
  none,
  none,
  some ⟨1, 8, .int .u64, [.int .u64 0], [.int .u64], [.int .u64]⟩,
  none,
  none,
  some ⟨1, 8, .ptr 133, [.nilp], [.ptr], []⟩,
  some ⟨1, 8, .ptr 136, [.nilp], [.ptr], []⟩,
  some ⟨1, 8, .ptr 144, [.nilp], [.ptr], []⟩,
  some ⟨1, 8, .struct [(0, 17)], [.nilp], [.ptr], []⟩,
  some ⟨1, 8, .struct [(0, 17)], [.nilp], [.ptr], []⟩,
  none,
  some ⟨1, 4, .int .i32, [.int .i32 0], [.int .i32], [.int .i32]⟩,
  some ⟨3, 48, .struct [(0, 9), (1, 9), (2, 9)], [.str [], .str [], .str []], [.str, .str, .str], [.str, .str, .str]⟩,
  some ⟨3, 48, .struct [(0, 9), (1, 9), (2, 9)], [.str [], .str [], .str []], [.str, .str, .str], [.str, .str, .str]⟩,
  some ⟨1, 24, .slice 5 true, [.nils], [.bsl], []⟩,
  some ⟨10, 160, .struct [(0, 3), (1, 23), (4, 3), (5, 9), (6, 24), (7, 9), (8, 9), (9, 24)], [.int .i64 0, .str [], .str [], .str [], .int .i64 0, .str [], .nils, .str [], .str [], .nils], [.int .i64, .str, .str, .str, .int .i64, .str, .bsl, .str, .str, .bsl], []⟩,
  some ⟨10, 160, .struct [(0, 3), (1, 23), (4, 3), (5, 9), (6, 24), (7, 9), (8, 9), (9, 24)], [.int .i64 0, .str [], .str [], .str [], .int .i64 0, .str [], .nils, .str [], .str [], .nils], [.int .i64, .str, .str, .str, .int .i64, .str, .bsl, .str, .str, .bsl], []⟩,
  some ⟨1, 4, .int .u32, [.int .u32 0], [.int .u32], [.int .u32]⟩,
  some ⟨12, 80, .struct [(0, 5), (1, 5), (2, 5), (3, 5), (4, 5), (5, 27), (6, 27), (7, 27), (8, 5), (9, 24), (10, 24), (11, 5)], [.u8 0, .u8 0, .u8 0, .u8 0, .u8 0, .int .u32 0, .int .u32 0, .int .u32 0, .u8 0, .nils, .nils, .u8 0], [.u8, .u8, .u8, .u8, .u8, .int .u32, .int .u32, .int .u32, .u8, .bsl, .bsl, .u8], []⟩,
  some ⟨12, 80, .struct [(0, 5), (1, 5), (2, 5), (3, 5), (4, 5), (5, 27), (6, 27), (7, 27), (8, 5), (9, 24), (10, 24), (11, 5)], [.u8 0, .u8 0, .u8 0, .u8 0, .u8 0, .int .u32 0, .int .u32 0, .int .u32 0, .u8 0, .nils, .nils, .u8 0], [.u8, .u8, .u8, .u8, .u8, .int .u32, .int .u32, .int .u32, .u8, .bsl, .bsl, .u8], []⟩,
  none,
  none,
  none,
  some ⟨1, 24, .slice 26 false, [.nils], [.sl 10], []⟩,
  some ⟨1, 8, .int .i64, [.int .i64 0], [.int .i64], [.int .i64]⟩,
  none,
  none,
  none,
  none,
  some ⟨3, 40, .struct [(0, 3), (1, 34), (2, 24)], [.int .i64 0, .int .i64 0, .nils], [.int .i64, .int .i64, .bsl], []⟩,
  some ⟨3, 40, .struct [(0, 3), (1, 34), (2, 24)], [.int .i64 0, .int .i64 0, .nils], [.int .i64, .int .i64, .bsl], []⟩,
  none,
  none,
  none,
  none,
  some ⟨1, 2, .int .u16, [.int .u16 0], [.int .u16], [.int .u16]⟩,
  some ⟨1, 24, .slice 40 false, [.nils], [.sl 3], []⟩,
  none,
  none,
  none,
  some ⟨1, 8, .int .u64, [.int .u64 0], [.int .u64], [.int .u64]⟩,
  some ⟨1, 8, .int .u64, [.int .u64 0], [.int .u64], [.int .u64]⟩,
  some ⟨10, 128, .struct [(0, 9), (1, 3), (2, 51), (3, 3), (4, 3), (5, 3), (6, 23), (9, 24)], [.str [], .int .i64 0, .int .u64 0, .int .i64 0, .int .i64 0, .int .i64 0, .str [], .str [], .str [], .nils], [.str, .int .i64, .int .u64, .int .i64, .int .i64, .int .i64, .str, .str, .str, .bsl], []⟩,
  some ⟨10, 128, .struct [(0, 9), (1, 3), (2, 51), (3, 3), (4, 3), (5, 3), (6, 23), (9, 24)], [.str [], .int .i64 0, .int .u64 0, .int .i64 0, .int .i64 0, .int .i64 0, .str [], .str [], .str [], .nils], [.str, .int .i64, .int .u64, .int .i64, .int .i64, .int .i64, .str, .str, .str, .bsl], []⟩,
  none,
  some ⟨1, 24, .slice 53 false, [.nils], [.sl 10], []⟩,
  none,
  none,
  none,
  none,
  none,
  some ⟨5, 48, .struct [(0, 9), (1, 3), (2, 3), (3, 3), (4, 51)], [.str [], .int .i64 0, .int .i64 0, .int .i64 0, .int .u64 0], [.str, .int .i64, .int .i64, .int .i64, .int .u64], [.str, .int .i64, .int .i64, .int .i64, .int .u64]⟩,
  some ⟨5, 48, .struct [(0, 9), (1, 3), (2, 3), (3, 3), (4, 51)], [.str [], .int .i64 0, .int .i64 0, .int .i64 0, .int .u64 0], [.str, .int .i64, .int .i64, .int .i64, .int .u64], [.str, .int .i64, .int .i64, .int .i64, .int .u64]⟩,
  none,
  some ⟨1, 24, .slice 62 false, [.nils], [.sl 5], []⟩,
  none,
  none,
  none,
  none,
  none,
  none,
  none,
  none,
  none,
  none,
  none,
  none,
  none,
  none,
  none,
  none,
  none,
  some ⟨3, 40, .struct [(0, 24), (1, 3), (2, 4)], [.nils, .int .i64 0, .bool false], [.bsl, .int .i64, .bool], []⟩,
  some ⟨3, 40, .struct [(0, 24), (1, 3), (2, 4)], [.nils, .int .i64 0, .bool false], [.bsl, .int .i64, .bool], []⟩,
  none,
  none,
  none,
  none,
  none,
  some ⟨1, 24, .slice 9 false, [.nils], [.sl 1], []⟩,
  none,
  none,
  none,
  none,
  none,
  none,
  none,
  none,
  some ⟨1, 24, .slice 23 false, [.nils], [.sl 3], []⟩,
  none,
  none,
  none,
  some ⟨1, 24, .slice 3 false, [.nils], [.sl 1], []⟩,
  none,
  none,
  none,
  some ⟨1, 8, .ptr 83, [.nilp], [.ptr], []⟩,
  none,
  none,
  none,
  none,
  none,
  none,
  none,
  none,
  none,
  none,
  none,
  some ⟨1, 8, .int .u64, [.int .u64 0], [.int .u64], [.int .u64]⟩,
  none,
  none,
  none,
  some ⟨4, 4, .arr 4 5 true, [.u8 0, .u8 0, .u8 0, .u8 0], [.u8, .u8, .u8, .u8], []⟩,
  some ⟨1, 24, .slice 24 false, [.nils], [.sl 1], []⟩,
  none,
  none,
  none,
  some ⟨1, 8, .ptr 9, [.nilp], [.ptr], []⟩,
  some ⟨1, 24, .slice 127 false, [.nils], [.sl 1], []⟩,
  none,
  none,
  none,
  some ⟨4, 40, .struct [(0, 17), (1, 17), (2, 17), (3, 9)], [.nilp, .nilp, .nilp, .str []], [.ptr, .ptr, .ptr, .str], []⟩,
  none,
  some ⟨0, 0, .arr 0 16 false, [], [], []⟩,
  none,
  none,
  some ⟨1, 1, .u8, [.u8 0], [.u8], [.u8]⟩,
  some ⟨1, 1, .u8, [.u8 0], [.u8], [.u8]⟩,
  none,
  some ⟨1, 8, .ptr 5, [.nilp], [.ptr], []⟩,
  some ⟨1, 4, .int .i32, [.int .i32 0], [.int .i32], [.int .i32]⟩,
  some ⟨1, 4, .int .i32, [.int .i32 0], [.int .i32], [.int .i32]⟩,
  none,
  none,
  none]

def keepT : List (Nat × Nat × List Keep) := [(3, 6, [.cells 2 [.int .i64, .str, .str, .str, .int .i64, .str, .bsl, .str, .str, .bsl], .ptr 2 2 0, .cells 3 [.u8, .u8, .u8, .u8, .u8, .int .u32, .int .u32, .int .u32, .u8, .bsl, .bsl, .u8], .ptr 3 3 0, .val 4 4, .val 5 3]),
  (4, 6, [.val 1 5, .val 2 5, .val 3 24, .val 4 45, .cells 5 [.int .i64, .int .i64, .bsl], .ptr 5 5 0, .val 10 4, .val 11 3]),
  (5, 6, [.cells 2 [.str, .int .i64, .int .u64, .int .i64, .int .i64, .int .i64, .str, .str, .str, .bsl], .ptr 2 2 0, .cells 3 [.u8, .u8, .u8, .u8, .u8, .int .u32, .int .u32, .int .u32, .u8, .bsl, .bsl, .u8], .ptr 3 3 0, .val 4 4, .val 5 3]),
  (6, 6, [.cells 2 [.str, .int .i64, .int .i64, .int .i64, .int .u64], .ptr 2 2 0, .cells 3 [.u8, .u8, .u8, .u8, .u8, .int .u32, .int .u32, .int .u32, .u8, .bsl, .bsl, .u8], .ptr 3 3 0, .val 4 4, .val 5 3]),
  (11, 2000001, [.cells 1 [.int .i64, .str, .str, .str, .int .i64, .str, .bsl, .str, .str, .bsl], .ptr 1 1 0, .val 13 4]),
  (11, 2000003, [.cells 1 [.int .i64, .str, .str, .str, .int .i64, .str, .bsl, .str, .str, .bsl], .ptr 1 1 0, .val 46 4]),
  (11, 2000005, [.cells 1 [.int .i64, .str, .str, .str, .int .i64, .str, .bsl, .str, .str, .bsl], .ptr 1 1 0, .val 56 4]),
  (11, 2000007, [.cells 1 [.int .i64, .str, .str, .str, .int .i64, .str, .bsl, .str, .str, .bsl], .ptr 1 1 0, .val 72 4]),
  (11, 2000009, [.cells 1 [.int .i64, .str, .str, .str, .int .i64, .str, .bsl, .str, .str, .bsl], .ptr 1 1 0, .val 113 4]),
  (60, 3, [.val 0 51, .rowB 3 5 false, .val 7 3, .val 8 3]),
  (63, 2, [.rowB 3 5 false]),
  (65, 3, [.val 0 51, .rowB 3 5 false, .val 4 3]),
  (77, 3, [.val 0 24, .val 1 3, .val 2 3, .val 3 4, .barr 9 false, .ptr 9 9 0, .val 12 3, .val 13 3]),
  (78, 3, [.val 0 123, .val 3 3, .val 9 123, .val 10 3, .val 11 3]),
  (78, 11, [.rowB 6 5 false, .val 25 123, .val 26 3, .val 27 3]),
  (80, 2, [.val 0 9, .val 1 9, .val 4 4, .val 5 3]),
  (80, 7, [.val 0 9, .val 1 9, .val 4 4, .val 5 3, .val 6 3]),
  (81, 3, [.val 1 3, .val 2 3, .val 3 4, .rowB 9 5 false, .val 10 3]),
  (83, 2, [.val 0 3, .val 4 4, .val 7 102, .val 8 3, .val 9 3]),
  (88, 4, [.val 0 24, .val 1 3, .cells 4 [.str, .str, .str], .ptr 4 4 0, .val 5 3, .val 6 34, .cells 7 [.str, .str, .str], .ptr 7 7 0, .psl 14 7 [0, 1, 2], .val 15 3, .val 16 3]),
  (93, 5, [.val 4 51, .val 10 24, .val 11 3, .val 12 3]),
  (95, 2, [.val 0 9, .val 1 9, .val 4 4, .val 7 3, .val 8 3]),
  (97, 6, [.val 0 24, .val 1 3, .val 2 3, .val 3 4, .val 12 3, .val 22 3, .val 23 3])]

def ownT : List Nat := [81, 96, 42, 46, 78, 77, 31, 58, 79]

def rtsT : List (Nat × List Nat) := [(8, [4]), (14, [4]), (36, [4]), (41, [4]), (43, [24]), (45, [24]), (53, [4]), (54, [4]), (55, [4]), (59, [4]), (60, [24]), (76, [4]), (80, [4]), (81, [24]), (83, [4]), (85, [4]), (94, [89]), (96, [24]), (98, [34]), (100, [24]), (103, [3]), (104, [4]), (105, [4]), (107, [3]), (30, [24]), (38, [4]), (39, [4]), (40, [4]), (42, [24]), (44, [24]), (46, [24]), (71, [9]), (78, [24]), (82, [3, 4, 34]), (87, [24, 3, 34]), (97, [3, 3, 34]), (99, [3]), (101, [3, 3, 4]), (106, [3]), (27, [23]), (28, [23]), (32, [24]), (37, [4]), (47, [4, 34]), (50, [24]), (61, [24]), (77, [24]), (84, [3, 3, 34]), (86, [9, 3, 34]), (89, [3, 3, 34]), (90, [4]), (102, [3]), (9, [26]), (11, [24, 34]), (31, [24]), (34, [24]), (48, [3]), (49, [9]), (52, [3]), (58, [24]), (79, [24]), (95, [4]), (33, [24]), (35, [24]), (74, [4]), (75, [4]), (15, [24, 34]), (73, [4]), (13, [40, 34]), (72, [4]), (29, [34]), (57, [34]), (88, [23, 3, 34]), (10, [24, 34]), (19, [24, 34]), (51, [23]), (12, [26, 34]), (7, [4]), (3, [4])]

/-- kerbsuite/kerbsuitelaw22.longName -/
def sp8 : Abs.Spec := fun xs bl => match xs, bl with
  | [.agg [.str x, .str y, .str z]], [] => some (.bool (decide (100 < x.length) || (decide (100 < y.length) || decide (100 < z.length))), [])
  | _, _ => none

/-- kerbsuite/kerbsuiteref22.SameRequest -/
def sp14 : Abs.Spec := fun xs bl => match xs, bl with
  | [.agg [.int .i64 op, .str ux, .str uy, .str uz, .int .i64 kv, .str rl, .bs tk, .str sv, .str ins, .bs bx], .agg [.int .i64 op2, .str ux2, .str uy2, .str uz2, .int .i64 kv2, .str rl2, .bs tk2, .str sv2, .str ins2, .bs bx2]], [] => some (.bool (op == op2 && (ux == ux2 && (uy == uy2 && uz == uz2)) && kv == kv2 && rl == rl2 && tk == tk2 && sv == sv2 && ins == ins2 && bx == bx2), [])
  | _, _ => none

/-- kerbsuite/kerbsuiteref22.user -/
def sp36 : Abs.Spec := fun xs bl => match xs, bl with
  | [.int .i64 n], [] => some (.bool (n == 1 || n == 3), [])
  | _, _ => none

/-- kerbsuite/kerbsuiteref22.within -/
def sp41 : Abs.Spec := fun xs bl => match xs, bl with
  | [.int .i64 n, .int .i64 m], [] => some (.bool (Kerb.within n m), [])
  | _, _ => none

/-- kerbsuite/kerbsuiteref8.Put -/
def sp43 : Abs.Spec := fun xs bl => match xs, bl with
  | [.int .i64 k, .bool little], [] => some (.bs (Kerb.header k little), [])
  | _, _ => none

/-- kerbsuite/kerbsuiteref5.PutText -/
def sp45 : Abs.Spec := fun xs bl => match xs, bl with
  | [.bs b, .str s], [] => chk (decide (b.length + s.length ≤ 70368744177664)) (some (.bs (Kerb.putText b s), []))
  | _, _ => none

/-- bytes.Equal -/
def sp53 : Abs.Spec := fun xs bl => match xs, bl with
  | [.bs a, .bs b], [] => some (.bool (a == b), [])
  | _, _ => none

/-- kerbsuite/kamessage.operation -/
def sp54 : Abs.Spec := fun xs bl => match xs, bl with
  | [.int .i64 n], [] => some (.bool (Kerb.kaOp n), [])
  | _, _ => none

/-- kerbsuite/kamessage.upTo -/
def sp55 : Abs.Spec := fun xs bl => match xs, bl with
  | [.int .i64 n, .int .i64 m], [] => some (.bool (Kerb.within n m), [])
  | _, _ => none

/-- kerbsuite/kamessage.ticketed -/
def sp59 : Abs.Spec := fun xs bl => match xs, bl with
  | [.str l], [] => some (.bool (Kerb.ticketed l), [])
  | _, _ => none

/-- kerbsuite/key.Bytes -/
def sp60 : Abs.Spec := fun xs bl => match xs, bl with
  | [.int .u64 k], [] => chk (decide (0 ≤ k) && decide (k < 18446744073709551616)) (some (.bs (Kerb.keyBytes k), []))
  | _, _ => none

/-- kerbsuite/header.isKind -/
def sp76 : Abs.Spec := fun xs bl => match xs, bl with
  | [.int .i64 k], [] => some (.bool (Kerb.isKind k), [])
  | _, _ => none

/-- kerbsuite/kerbsuiteref1.text -/
def sp80 : Abs.Spec := fun xs bl => match xs, bl with
  | [.str s, .str bad], [] => chk (decide (s.length ≤ 4611686018427387904) && decide (bad.length ≤ 100)) (some (.bool (Kerb.printable s bad && decide (s.length ≤ 39)), []))
  | _, _ => none

/-- kerbsuite/kerbsuiteref5.put -/
def sp81 : Abs.Spec := fun xs bl => match xs, bl with
  | [.bs b, .int .i64 n, .int .i64 k, .bool little], [] => chk (decide (k = 1 ∨ k = 2 ∨ k = 4) && decide (b.length ≤ 70368744177664)) (some (.ownB (b ++ Kerb.putN n k.toNat little), []))
  | _, _ => none

/-- kerbsuite/header.among -/
def sp83 : Abs.Spec := fun xs bl => match xs, bl with
  | [.int .i64 k, .sl 1 els], [] => chk (allInts els && decide (els.length ≤ 1000)) (some (.bool ((intsIn els).contains k), []))
  | _, _ => none

/-- (*kerbsuite/kamessage.reader).take -/
def sp85 : Abs.Spec := fun xs bl => match xs, bl with
  | [.ptr 0 0, .int .i64 nx, .int .i64 e], [(0, [.bs B, .int .i64 at_, .bool bad])] => some (.bool (!(bad || !(e == 0))), [[.bs B, .int .i64 (cond (bad || !(e == 0)) at_ nx), .bool (bad || !(e == 0))]])
  | _, _ => none

/-- kerbsuite/kerbsuitedata.Realms -/
def sp94 : Abs.Spec := fun xs bl => match xs, bl with
  | [], [] => some (.sl 1 [.str [65, 84, 72], .str [66, 79, 83], .str [67, 65, 77]], [])
  | _, _ => none

/-- slices.Grow[[]byte,byte] -/
def sp96 : Abs.Spec := fun xs bl => match xs, bl with
  | [.nils, .int .i64 n], [] => chk (decide (0 ≤ n) && decide (n ≤ 140737488355328)) (some (.ownB [], []))
  | _, _ => none

/-- kerbsuite/field.room -/
def sp98 : Abs.Spec := fun xs bl => match xs, bl with
  | [.bs b, .int .i64 pos, .int .i64 n], [] => chk (decide (b.length ≤ 4611686018427387904)) (some (.int .i64 (Kerb.room b pos n), []))
  | _, _ => none

/-- bytes.Clone -/
def sp100 : Abs.Spec := fun xs bl => match xs, bl with
  | [.bs b], [] => chk (decide (b.length ≤ 140737488355328)) (some (.bs b, []))
  | _, _ => none

/-- internal/bytealg.IndexByte -/
def sp103 : Abs.Spec := fun xs bl => match xs, bl with
  | [.bs s, .u8 c], [] => some (.int .i64 (Kerb.indexOf c s), [])
  | _, _ => none

/-- kerbsuite/key.isClass -/
def sp104 : Abs.Spec := fun xs bl => match xs, bl with
  | [.int .i64 k], [] => some (.bool (Kerb.isClass k), [])
  | _, _ => none

/-- kerbsuite/key.isSerial -/
def sp105 : Abs.Spec := fun xs bl => match xs, bl with
  | [.int .i64 k], [] => some (.bool (Kerb.isSerial k), [])
  | _, _ => none

/-- internal/bytealg.IndexByteString -/
def sp107 : Abs.Spec := fun xs bl => match xs, bl with
  | [.str s, .u8 c], [] => some (.int .i64 (Kerb.indexOf c s), [])
  | _, _ => none

/-- kerbsuite/header.Put -/
def sp30 : Abs.Spec := fun xs bl => match xs, bl with
  | [.int .i64 k, .bool little], [] => some (.bs (Kerb.header k little), [])
  | _, _ => none

/-- kerbsuite/kerbsuiteref1.ValidRealm -/
def sp38 : Abs.Spec := fun xs bl => match xs, bl with
  | [.str s], [] => chk (decide (s.length ≤ 4611686018427387904)) (some (.bool (Kerb.validRealm s), []))
  | _, _ => none

/-- kerbsuite/kerbsuiteref1.ValidName -/
def sp39 : Abs.Spec := fun xs bl => match xs, bl with
  | [.str s], [] => chk (decide (s.length ≤ 4611686018427387904)) (some (.bool (Kerb.validName s), []))
  | _, _ => none

/-- kerbsuite/kerbsuiteref1.ValidInstance -/
def sp40 : Abs.Spec := fun xs bl => match xs, bl with
  | [.str s], [] => chk (decide (s.length ≤ 4611686018427387904)) (some (.bool (Kerb.validInst s), []))
  | _, _ => none

/-- kerbsuite/kerbsuiteref5.PutOctet -/
def sp42 : Abs.Spec := fun xs bl => match xs, bl with
  | [.bs b, .int .i64 n], [] => chk (decide (b.length ≤ 70368744177664)) (some (.ownB (b ++ Kerb.putN n 1 false), []))
  | _, _ => none

/-- kerbsuite/kerbsuiteref5.PutPrincipal -/
def sp44 : Abs.Spec := fun xs bl => match xs, bl with
  | [.bs b, .agg [.str x, .str y, .str z]], [] => chk (decide (b.length + x.length + y.length + z.length ≤ 70368744170000)) (some (.bs (Kerb.putPrin b ⟨x, y, z⟩), []))
  | _, _ => none

/-- kerbsuite/kerbsuiteref5.PutShort -/
def sp46 : Abs.Spec := fun xs bl => match xs, bl with
  | [.bs b, .int .i64 n, .bool little], [] => chk (decide (b.length ≤ 70368744177664)) (some (.ownB (b ++ Kerb.putN n 2 little), []))
  | _, _ => none

/-- kerbsuite/kerbsuitedata.Realm -/
def sp71 : Abs.Spec := fun xs bl => match xs, bl with
  | [.int .i64 n], [] => chk (decide (0 ≤ n)) (some (.str (Kerb.realm n), []))
  | _, _ => none

/-- slices.Concat[[]byte,byte] -/
def sp78 : Abs.Spec := fun xs bl => match xs, bl with
  | [.sl 1 els], [] => chk (allB els && decide ((catB els).length ≤ 140737488355328) && decide (els.length ≤ 1000)) (some (.ownB (catB els), []))
  | _, _ => none

/-- kerbsuite/header.Read -/
def sp82 : Abs.Spec := fun xs bl => match xs, bl with
  | [.bs b], [] => some (.tup [.int .i64 (Kerb.readHead b).kind, .bool (Kerb.readHead b).little, .int .i64 (Kerb.readHead b).err], [])
  | _, _ => none

/-- kerbsuite/field.Bytes -/
def sp87 : Abs.Spec := fun xs bl => match xs, bl with
  | [.bs b, .int .i64 pos, .int .i64 n], [] => chk (decide (b.length ≤ 140737488355328)) (some (.tup [.bs (Kerb.bytes b pos n).val, .int .i64 (Kerb.bytes b pos n).next, .int .i64 (Kerb.bytes b pos n).err], []))
  | _, _ => none

/-- kerbsuite/field.get -/
def sp97 : Abs.Spec := fun xs bl => match xs, bl with
  | [.bs b, .int .i64 pos, .int .i64 k, .bool little], [] => chk (decide (b.length ≤ 4611686018427387904) && decide (0 ≤ k) && decide (k ≤ 4)) (some (.tup [.int .i64 (Kerb.get b pos k little).val, .int .i64 (Kerb.get b pos k little).next, .int .i64 (Kerb.get b pos k little).err], []))
  | _, _ => none

/-- bytes.IndexByte -/
def sp99 : Abs.Spec := fun xs bl => match xs, bl with
  | [.bs s, .u8 c], [] => some (.int .i64 (Kerb.indexOf c s), [])
  | _, _ => none

/-- kerbsuite/key.split -/
def sp101 : Abs.Spec := fun xs bl => match xs, bl with
  | [.int .u64 k], [] => chk (decide (0 ≤ k) && decide (k < 18446744073709551616)) (some (.tup [.int .i64 (cond (Kerb.keyValid k) (Kerb.keyClass k) 0), .int .i64 (cond (Kerb.keyValid k) (Kerb.keySerial k) 0), .bool (Kerb.keyValid k)], []))
  | _, _ => none

/-- internal/stringslite.IndexByte -/
def sp106 : Abs.Spec := fun xs bl => match xs, bl with
  | [.str s, .u8 c], [] => some (.int .i64 (Kerb.indexOf c s), [])
  | _, _ => none

/-- kerbsuite/kerbsuitedata.User -/
def sp27 : Abs.Spec := fun xs bl => match xs, bl with
  | [.int .i64 n], [] => chk (decide (0 ≤ n) && decide (n ≤ 4611686018427387904)) (some (.agg [.str (Kerb.user n).name, .str (Kerb.user n).inst, .str (Kerb.user n).realm], []))
  | _, _ => none

/-- kerbsuite/kerbsuitedata.Service -/
def sp28 : Abs.Spec := fun xs bl => match xs, bl with
  | [.int .i64 n], [] => chk (decide (0 ≤ n) && decide (n ≤ 4611686018427387904)) (some (.agg [.str (Kerb.service n).name, .str (Kerb.service n).inst, .str (Kerb.service n).realm], []))
  | _, _ => none

/-- kerbsuite/field.PutText -/
def sp32 : Abs.Spec := fun xs bl => match xs, bl with
  | [.bs b, .str s], [] => chk (decide (b.length + s.length ≤ 70368744177664)) (some (.bs (Kerb.putText b s), []))
  | _, _ => none

/-- kerbsuite/kerbsuiteref1.Valid -/
def sp37 : Abs.Spec := fun xs bl => match xs, bl with
  | [.agg [.str a, .str b, .str c]], [] => chk (decide (a.length ≤ 4611686018427387904) && decide (b.length ≤ 4611686018427387904) && decide (c.length ≤ 4611686018427387904)) (some (.bool (Kerb.Prin.valid ⟨a, b, c⟩), []))
  | _, _ => none

/-- kerbsuite/header.Is -/
def sp47 : Abs.Spec := fun xs bl => match xs, bl with
  | [.bs b, .sl 1 els], [] => chk (allInts els && decide (els.length ≤ 1000)) (some (.tup [.bool (Kerb.headIs b (intsIn els)).1, .int .i64 (Kerb.headIs b (intsIn els)).2], []))
  | _, _ => none

/-- (*kerbsuite/kamessage.reader).bytes -/
def sp50 : Abs.Spec := fun xs bl => match xs, bl with
  | [.ptr 0 0, .int .i64 n], [(0, [.bs B, .int .i64 at_, .bool bad])] => chk (decide (B.length ≤ 140737488355328)) (some (.bs (Kerb.pBytes B n at_ bad).val, [[.bs B, .int .i64 (Kerb.pBytes B n at_ bad).pos, .bool (Kerb.pBytes B n at_ bad).bad]]))
  | _, _ => none

/-- kerbsuite/field.Pad -/
def sp61 : Abs.Spec := fun xs bl => match xs, bl with
  | [.bs b], [] => chk (decide (b.length ≤ 70368744177664)) (some (.bs (Kerb.pad b), []))
  | _, _ => none

/-- kerbsuite/field.put -/
def sp77 : Abs.Spec := fun xs bl => match xs, bl with
  | [.bs b, .int .i64 n, .int .i64 k, .bool little], [] => chk (decide (k = 1 ∨ k = 2 ∨ k = 4) && decide (b.length ≤ 70368744177664)) (some (.ownB (b ++ Kerb.putN n k.toNat little), []))
  | _, _ => none

/-- kerbsuite/field.Octet -/
def sp84 : Abs.Spec := fun xs bl => match xs, bl with
  | [.bs b, .int .i64 pos], [] => chk (decide (b.length ≤ 4611686018427387904)) (some (.tup [.int .i64 (Kerb.get b pos 1 false).val, .int .i64 (Kerb.get b pos 1 false).next, .int .i64 (Kerb.get b pos 1 false).err], []))
  | _, _ => none

/-- kerbsuite/field.Text -/
def sp86 : Abs.Spec := fun xs bl => match xs, bl with
  | [.bs b, .int .i64 pos], [] => chk (decide (b.length ≤ 4611686018427387904)) (some (.tup [.str (Kerb.text b pos).val, .int .i64 (Kerb.text b pos).next, .int .i64 (Kerb.text b pos).err], []))
  | _, _ => none

/-- kerbsuite/field.Short -/
def sp89 : Abs.Spec := fun xs bl => match xs, bl with
  | [.bs b, .int .i64 pos, .bool little], [] => chk (decide (b.length ≤ 4611686018427387904)) (some (.tup [.int .i64 (Kerb.get b pos 2 little).val, .int .i64 (Kerb.get b pos 2 little).next, .int .i64 (Kerb.get b pos 2 little).err], []))
  | _, _ => none

/-- kerbsuite/key.Valid -/
def sp90 : Abs.Spec := fun xs bl => match xs, bl with
  | [.int .u64 k], [] => chk (decide (0 ≤ k) && decide (k < 18446744073709551616)) (some (.bool (Kerb.keyValid k), []))
  | _, _ => none

/-- strings.IndexByte -/
def sp102 : Abs.Spec := fun xs bl => match xs, bl with
  | [.str s, .u8 c], [] => some (.int .i64 (Kerb.indexOf c s), [])
  | _, _ => none

/-- (kerbsuite/kerbsuitelaw22.Ask).request -/
def sp9 : Abs.Spec := fun xs bl => match xs, bl with
  | [.agg [.u8 ao, .u8 au, .u8 ak, .u8 as_, .u8 al, .int .u32 at_, .int .u32 ast, .int .u32 aen, .u8 aky, .bs atk, .bs abx, .u8 aex]], [] => some (.agg [.int .i64 ((Kerb.Ask.mk ao au ak as_ al at_ ast aen aky atk abx aex).request).op, .str ((Kerb.Ask.mk ao au ak as_ al at_ ast aen aky atk abx aex).request).user.name, .str ((Kerb.Ask.mk ao au ak as_ al at_ ast aen aky atk abx aex).request).user.inst, .str ((Kerb.Ask.mk ao au ak as_ al at_ ast aen aky atk abx aex).request).user.realm, .int .i64 ((Kerb.Ask.mk ao au ak as_ al at_ ast aen aky atk abx aex).request).kvno, .str ((Kerb.Ask.mk ao au ak as_ al at_ ast aen aky atk abx aex).request).realm, .bs ((Kerb.Ask.mk ao au ak as_ al at_ ast aen aky atk abx aex).request).ticket, .str ((Kerb.Ask.mk ao au ak as_ al at_ ast aen aky atk abx aex).request).service, .str ((Kerb.Ask.mk ao au ak as_ al at_ ast aen aky atk abx aex).request).inst, .bs ((Kerb.Ask.mk ao au ak as_ al at_ ast aen aky atk abx aex).request).box], [])
  | _, _ => none

/-- kerbsuite/kerbsuiteref22.EncodeRequest -/
def sp11 : Abs.Spec := fun xs bl => match xs, bl with
  | [.agg [.int .i64 op, .str ux, .str uy, .str uz, .int .i64 kv, .str rl, .bs tk, .str sv, .str ins, .bs bx]], [] => chk (decide (ux.length ≤ 4611686018427387904) && decide (uy.length ≤ 4611686018427387904) && decide (uz.length ≤ 4611686018427387904) && decide (rl.length ≤ 4611686018427387904) && decide (sv.length ≤ 4611686018427387904) && decide (ins.length ≤ 4611686018427387904)) (some (.tup [.bs (Kerb.encodeKaRequest ⟨op, ⟨ux, uy, uz⟩, kv, rl, tk, sv, ins, bx⟩).val, .int .i64 (Kerb.encodeKaRequest ⟨op, ⟨ux, uy, uz⟩, kv, rl, tk, sv, ins, bx⟩).err], []))
  | _, _ => none

/-- kerbsuite/field.PutOctet -/
def sp31 : Abs.Spec := fun xs bl => match xs, bl with
  | [.bs b, .int .i64 n], [] => chk (decide (b.length ≤ 70368744177664)) (some (.ownB (b ++ Kerb.putN n 1 false), []))
  | _, _ => none

/-- kerbsuite/field.PutPrincipal -/
def sp34 : Abs.Spec := fun xs bl => match xs, bl with
  | [.bs b, .agg [.str x, .str y, .str z]], [] => chk (decide (b.length + x.length + y.length + z.length ≤ 70368744170000)) (some (.bs (Kerb.putPrin b ⟨x, y, z⟩), []))
  | _, _ => none

/-- (*kerbsuite/kamessage.reader).octet -/
def sp48 : Abs.Spec := fun xs bl => match xs, bl with
  | [.ptr 0 0], [(0, [.bs B, .int .i64 at_, .bool bad])] => chk (decide (B.length ≤ 140737488355328)) (some (.int .i64 (Kerb.pGet B 1 at_ bad).val, [[.bs B, .int .i64 (Kerb.pGet B 1 at_ bad).pos, .bool (Kerb.pGet B 1 at_ bad).bad]]))
  | _, _ => none

/-- (*kerbsuite/kamessage.reader).name -/
def sp49 : Abs.Spec := fun xs bl => match xs, bl with
  | [.ptr 0 0], [(0, [.bs B, .int .i64 at_, .bool bad])] => chk (decide (B.length ≤ 140737488355328)) (some (.str (Kerb.pText B at_ bad).val, [[.bs B, .int .i64 (Kerb.pText B at_ bad).pos, .bool (Kerb.pText B at_ bad).bad]]))
  | _, _ => none

/-- (*kerbsuite/kamessage.reader).short -/
def sp52 : Abs.Spec := fun xs bl => match xs, bl with
  | [.ptr 0 0], [(0, [.bs B, .int .i64 at_, .bool bad])] => chk (decide (B.length ≤ 140737488355328)) (some (.int .i64 (Kerb.pGet B 2 at_ bad).val, [[.bs B, .int .i64 (Kerb.pGet B 2 at_ bad).pos, .bool (Kerb.pGet B 2 at_ bad).bad]]))
  | _, _ => none

/-- kerbsuite/field.PutNumber -/
def sp58 : Abs.Spec := fun xs bl => match xs, bl with
  | [.bs b, .int .i64 n, .bool little], [] => chk (decide (b.length ≤ 70368744177664)) (some (.ownB (b ++ Kerb.putN n 4 little), []))
  | _, _ => none

/-- kerbsuite/field.PutShort -/
def sp79 : Abs.Spec := fun xs bl => match xs, bl with
  | [.bs b, .int .i64 n, .bool little], [] => chk (decide (b.length ≤ 70368744177664)) (some (.ownB (b ++ Kerb.putN n 2 little), []))
  | _, _ => none

/-- kerbsuite/principal.printable -/
def sp95 : Abs.Spec := fun xs bl => match xs, bl with
  | [.str s, .str bad], [] => chk (decide (s.length ≤ 4611686018427387904)) (some (.bool (Kerb.printable s bad), []))
  | _, _ => none

/-- kerbsuite/kamessage.putTicket -/
def sp33 : Abs.Spec := fun xs bl => match xs, bl with
  | [.bs b, .bs t], [] => chk (decide (b.length + t.length ≤ 70368744170000)) (some (.bs (Kerb.putTick b t), []))
  | _, _ => none

/-- kerbsuite/kamessage.putBox -/
def sp35 : Abs.Spec := fun xs bl => match xs, bl with
  | [.bs b, .bs t], [] => chk (decide (b.length + t.length ≤ 70368744170000)) (some (.bs (Kerb.putBox b t), []))
  | _, _ => none

/-- kerbsuite/principal.ValidName -/
def sp74 : Abs.Spec := fun xs bl => match xs, bl with
  | [.str s], [] => chk (decide (s.length ≤ 4611686018427387904)) (some (.bool (Kerb.validName s), []))
  | _, _ => none

/-- kerbsuite/principal.ValidInstance -/
def sp75 : Abs.Spec := fun xs bl => match xs, bl with
  | [.str s], [] => chk (decide (s.length ≤ 4611686018427387904)) (some (.bool (Kerb.validInst s), []))
  | _, _ => none

/-- kerbsuite/kamessage.EncodeReply -/
def sp15 : Abs.Spec := fun xs bl => match xs, bl with
  | [.agg [.int .i64 op, .int .i64 cd, .bs bx]], [] => some (.tup [.bs (Kerb.encodeKaReply ⟨op, cd, bx⟩).val, .int .i64 (Kerb.encodeKaReply ⟨op, cd, bx⟩).err], [])
  | _, _ => none

/-- kerbsuite/principal.ValidRealm -/
def sp73 : Abs.Spec := fun xs bl => match xs, bl with
  | [.str s], [] => chk (decide (s.length ≤ 4611686018427387904)) (some (.bool (Kerb.validRealm s), []))
  | _, _ => none

/-- kerbsuite/kamessage.DecodeReply -/
def sp13 : Abs.Spec := fun xs bl => match xs, bl with
  | [.bs b], [] => chk (decide (b.length ≤ 140737488355328)) (some (.tup [.agg [.int .i64 ((Kerb.decodeKaReply b).val).op, .int .i64 ((Kerb.decodeKaReply b).val).code, .bs ((Kerb.decodeKaReply b).val).box], .int .i64 (Kerb.decodeKaReply b).err], []))
  | _, _ => none

/-- kerbsuite/principal.Valid -/
def sp72 : Abs.Spec := fun xs bl => match xs, bl with
  | [.agg [.str a, .str b, .str c]], [] => chk (decide (a.length ≤ 4611686018427387904) && decide (b.length ≤ 4611686018427387904) && decide (c.length ≤ 4611686018427387904)) (some (.bool (Kerb.Prin.valid ⟨a, b, c⟩), []))
  | _, _ => none

/-- kerbsuite/kamessage.checkRequest -/
def sp29 : Abs.Spec := fun xs bl => match xs, bl with
  | [.agg [.int .i64 op, .str ux, .str uy, .str uz, .int .i64 kv, .str rl, .bs tk, .str sv, .str ins, .bs bx]], [] => chk (decide (ux.length ≤ 4611686018427387904) && decide (uy.length ≤ 4611686018427387904) && decide (uz.length ≤ 4611686018427387904) && decide (rl.length ≤ 4611686018427387904) && decide (sv.length ≤ 4611686018427387904) && decide (ins.length ≤ 4611686018427387904)) (some (.int .i64 (Kerb.encodeKaRequest ⟨op, ⟨ux, uy, uz⟩, kv, rl, tk, sv, ins, bx⟩).err, []))
  | _, _ => none

/-- kerbsuite/kamessage.checkAnswer -/
def sp57 : Abs.Spec := fun xs bl => match xs, bl with
  | [.agg [.str lb, .int .i64 t, .int .u64 k, .int .i64 st, .int .i64 en, .int .i64 kv, .str x, .str y, .str z, .bs tk]], [] => chk (decide (x.length ≤ 4611686018427387904) && decide (y.length ≤ 4611686018427387904) && decide (z.length ≤ 4611686018427387904) && decide (0 ≤ k) && decide (k < 18446744073709551616)) (some (.int .i64 (Kerb.encodeKaAnswer ⟨lb, t, k, st, en, kv, ⟨x, y, z⟩, tk⟩).err, []))
  | _, _ => none

/-- kerbsuite/field.Principal -/
def sp88 : Abs.Spec := fun xs bl => match xs, bl with
  | [.bs b, .int .i64 pos], [] => chk (decide (b.length ≤ 4611686018427387904)) (some (.tup [.agg [.str (Kerb.prin b pos).val.name, .str (Kerb.prin b pos).val.inst, .str (Kerb.prin b pos).val.realm], .int .i64 (Kerb.prin b pos).next, .int .i64 (Kerb.prin b pos).err], []))
  | _, _ => none

/-- kerbsuite/kamessage.EncodeRequest -/
def sp10 : Abs.Spec := fun xs bl => match xs, bl with
  | [.agg [.int .i64 op, .str ux, .str uy, .str uz, .int .i64 kv, .str rl, .bs tk, .str sv, .str ins, .bs bx]], [] => chk (decide (ux.length ≤ 4611686018427387904) && decide (uy.length ≤ 4611686018427387904) && decide (uz.length ≤ 4611686018427387904) && decide (rl.length ≤ 4611686018427387904) && decide (sv.length ≤ 4611686018427387904) && decide (ins.length ≤ 4611686018427387904)) (some (.tup [.bs (Kerb.encodeKaRequest ⟨op, ⟨ux, uy, uz⟩, kv, rl, tk, sv, ins, bx⟩).val, .int .i64 (Kerb.encodeKaRequest ⟨op, ⟨ux, uy, uz⟩, kv, rl, tk, sv, ins, bx⟩).err], []))
  | _, _ => none

/-- kerbsuite/kamessage.EncodeAnswer -/
def sp19 : Abs.Spec := fun xs bl => match xs, bl with
  | [.agg [.str lb, .int .i64 t, .int .u64 k, .int .i64 st, .int .i64 en, .int .i64 kv, .str x, .str y, .str z, .bs tk]], [] => chk (decide (x.length ≤ 4611686018427387904) && decide (y.length ≤ 4611686018427387904) && decide (z.length ≤ 4611686018427387904) && decide (0 ≤ k) && decide (k < 18446744073709551616)) (some (.tup [.bs (Kerb.encodeKaAnswer ⟨lb, t, k, st, en, kv, ⟨x, y, z⟩, tk⟩).val, .int .i64 (Kerb.encodeKaAnswer ⟨lb, t, k, st, en, kv, ⟨x, y, z⟩, tk⟩).err], []))
  | _, _ => none

/-- (*kerbsuite/kamessage.reader).principal -/
def sp51 : Abs.Spec := fun xs bl => match xs, bl with
  | [.ptr 0 0], [(0, [.bs B, .int .i64 at_, .bool bad])] => chk (decide (B.length ≤ 140737488355328)) (some (.agg [.str (Kerb.pPrin B at_ bad).val.name, .str (Kerb.pPrin B at_ bad).val.inst, .str (Kerb.pPrin B at_ bad).val.realm], [[.bs B, .int .i64 (Kerb.pPrin B at_ bad).pos, .bool (Kerb.pPrin B at_ bad).bad]]))
  | _, _ => none

/-- kerbsuite/kamessage.DecodeRequest -/
def sp12 : Abs.Spec := fun xs bl => match xs, bl with
  | [.bs b], [] => chk (decide (b.length ≤ 140737488355328)) (some (.tup [.agg [.int .i64 ((Kerb.decodeKaRequest b).val).op, .str ((Kerb.decodeKaRequest b).val).user.name, .str ((Kerb.decodeKaRequest b).val).user.inst, .str ((Kerb.decodeKaRequest b).val).user.realm, .int .i64 ((Kerb.decodeKaRequest b).val).kvno, .str ((Kerb.decodeKaRequest b).val).realm, .bs ((Kerb.decodeKaRequest b).val).ticket, .str ((Kerb.decodeKaRequest b).val).service, .str ((Kerb.decodeKaRequest b).val).inst, .bs ((Kerb.decodeKaRequest b).val).box], .int .i64 (Kerb.decodeKaRequest b).err], []))
  | _, _ => none

/-- kerbsuite/kerbsuitelaw22.awake -/
def sp7 : Abs.Spec := fun xs bl => match xs, bl with
  | [], [] => some (.bool true, [])
  | _, _ => none

/-- kerbsuite/kerbsuitelaw22.KaRequests -/
def sp3 : Abs.Spec := fun xs bl => match xs, bl with
  | [.agg [.int .i64 op, .str ux, .str uy, .str uz, .int .i64 kv, .str rl, .bs tk, .str sv, .str ins, .bs bx], .agg [.u8 ao, .u8 au, .u8 ak, .u8 as_, .u8 al, .int .u32 at_, .int .u32 ast, .int .u32 aen, .u8 aky, .bs atk, .bs abx, .u8 aex]], [] => some (.bool true, [])
  | _, _ => none

def tabT : List (Nat × Nat × List CT × Abs.Spec) := [(8, 1, [.other], sp8), (14, 1, [.other, .other], sp14), (36, 1, [.int .i64], sp36), (41, 1, [.int .i64, .int .i64], sp41), (43, 1, [.int .i64, .bool], sp43), (45, 1, [.bsl, .str], sp45), (53, 1, [.bsl, .bsl], sp53), (54, 1, [.int .i64], sp54), (55, 1, [.int .i64, .int .i64], sp55), (59, 1, [.str], sp59), (60, 1, [.int .u64], sp60), (76, 1, [.int .i64], sp76), (80, 1, [.str, .str], sp80), (81, 1, [.bsl, .int .i64, .int .i64, .bool], sp81), (83, 1, [.int .i64, .sl 1], sp83), (85, 1, [.ptr, .int .i64, .int .i64], sp85), (94, 1, [], sp94), (96, 1, [.other, .other], sp96), (98, 1, [.bsl, .int .i64, .int .i64], sp98), (100, 1, [.bsl], sp100), (103, 1, [.bsl, .u8], sp103), (104, 1, [.int .i64], sp104), (105, 1, [.int .i64], sp105), (107, 1, [.str, .u8], sp107), (30, 2, [.int .i64, .bool], sp30), (38, 2, [.str], sp38), (39, 2, [.str], sp39), (40, 2, [.str], sp40), (42, 2, [.bsl, .int .i64], sp42), (44, 2, [.bsl, .other], sp44), (46, 2, [.bsl, .int .i64, .bool], sp46), (71, 2, [.int .i64], sp71), (78, 2, [.sl 1], sp78), (82, 2, [.bsl], sp82), (87, 2, [.bsl, .int .i64, .int .i64], sp87), (97, 2, [.bsl, .int .i64, .int .i64, .bool], sp97), (99, 2, [.bsl, .u8], sp99), (101, 2, [.int .u64], sp101), (106, 2, [.str, .u8], sp106), (27, 3, [.int .i64], sp27), (28, 3, [.int .i64], sp28), (32, 3, [.bsl, .str], sp32), (37, 3, [.other], sp37), (47, 3, [.bsl, .sl 1], sp47), (50, 3, [.ptr, .int .i64], sp50), (61, 3, [.bsl], sp61), (77, 3, [.bsl, .int .i64, .int .i64, .bool], sp77), (84, 3, [.bsl, .int .i64], sp84), (86, 3, [.bsl, .int .i64], sp86), (89, 3, [.bsl, .int .i64, .bool], sp89), (90, 3, [.int .u64], sp90), (102, 3, [.str, .u8], sp102), (9, 4, [.other], sp9), (11, 4, [.other], sp11), (31, 4, [.bsl, .int .i64], sp31), (34, 4, [.bsl, .other], sp34), (48, 4, [.ptr], sp48), (49, 4, [.ptr], sp49), (52, 4, [.ptr], sp52), (58, 4, [.bsl, .int .i64, .bool], sp58), (79, 4, [.bsl, .int .i64, .bool], sp79), (95, 4, [.str, .str], sp95), (33, 5, [.bsl, .bsl], sp33), (35, 5, [.bsl, .bsl], sp35), (74, 5, [.str], sp74), (75, 5, [.str], sp75), (15, 6, [.other], sp15), (73, 6, [.str], sp73), (13, 7, [.bsl], sp13), (72, 7, [.other], sp72), (29, 8, [.other], sp29), (57, 8, [.other], sp57), (88, 8, [.bsl, .int .i64], sp88), (10, 9, [.other], sp10), (19, 9, [.other], sp19), (51, 9, [.ptr], sp51), (12, 10, [.bsl], sp12), (7, 11, [], sp7), (3, 12, [.other, .other], sp3)]

def globT : List (Nat × List AV) := []

def look {α : Type} (k : Nat) : List (Nat × α) → Option α
  | [] => none
  | (j, x) :: r => cond (Nat.beq j k) (some x) (look k r)
def look2 {α : Type} (k m : Nat) : List (Nat × Nat × List α) → List α
  | [] => []
  | (j, i, x) :: r => cond (Nat.beq j k) (cond (Nat.beq i m) x (look2 k m r)) (look2 k m r)
def G : Cfg2 := { ty := fun t => (tbl[t]?).join, keep := fun f r => look2 f r keepT, own := fun f => ownT.contains f, glob := fun q => look q globT, rts := fun f => look f rtsT, tab := fun f => look f tabT }
end Go.Proofs.Ytbgmiljaiaagdaa
