/- The table of functions of this seat. -/
import Derived.Test.YtngaooakflldaaaGreatAbsSpec
import Derived.Test.YtngaooakflldaaaGreatKerbDefs
import Derived.Test.YtngaooakflldaaaGreatAbsPlain
import Derived.Test.YtngaooakflldaaaGreatProg
import Derived.KernelRfl
namespace Go.Proofs.YtngaooakflldaaaGreat
open Go.Abs
set_option linter.unusedVariables false

def tbl : List (Option TI) := [
  none,
  none,
  some ⟨1, 8, .int .i64, [.int .i64 0], [.int .i64], [.int .i64]⟩,
  some ⟨1, 8, .int .i64, [.int .i64 0], [.int .i64], [.int .i64]⟩,
  some ⟨1, 1, .bool, [.bool false], [.bool], [.bool]⟩,
  some ⟨1, 1, .u8, [.u8 0], [.u8], [.u8]⟩,
  some ⟨1, 1, .u8, [.u8 0], [.u8], [.u8]⟩,
  some ⟨4, 24, .struct [(0, 2), (1, 3), (2, 4), (3, 6)], [.int .i64 0, .int .i64 0, .bool false, .u8 0], [.int .i64, .int .i64, .bool, .u8], [.int .i64, .int .i64, .bool, .u8]⟩,
  none,
  some ⟨1, 16, .str, [.str []], [.str], [.str]⟩,
  none,
  none,
  some ⟨1, 8, .int .u64, [.int .u64 0], [.int .u64], [.int .u64]⟩,
  none,
  none,
  some ⟨1, 8, .ptr 126, [.nilp], [.ptr], []⟩,
  some ⟨1, 8, .ptr 129, [.nilp], [.ptr], []⟩,
  some ⟨1, 8, .ptr 138, [.nilp], [.ptr], []⟩,
  some ⟨1, 8, .struct [(0, 17)], [.nilp], [.ptr], []⟩,
  some ⟨1, 8, .struct [(0, 17)], [.nilp], [.ptr], []⟩,
  none,
  some ⟨1, 4, .int .i32, [.int .i32 0], [.int .i32], [.int .i32]⟩,
  some ⟨1, 24, .slice 5 true, [.nils], [.bsl], []⟩,
  some ⟨1, 2, .int .u16, [.int .u16 0], [.int .u16], [.int .u16]⟩,
  none,
  some ⟨1, 8, .int .i64, [.int .i64 0], [.int .i64], [.int .i64]⟩,
  none,
  none,
  some ⟨3, 48, .struct [(0, 9), (1, 9), (2, 9)], [.str [], .str [], .str []], [.str, .str, .str], [.str, .str, .str]⟩,
  some ⟨3, 48, .struct [(0, 9), (1, 9), (2, 9)], [.str [], .str [], .str []], [.str, .str, .str], [.str, .str, .str]⟩,
  some ⟨8, 104, .struct [(0, 4), (1, 29), (4, 3), (5, 3), (6, 9), (7, 9)], [.bool false, .str [], .str [], .str [], .int .i64 0, .int .i64 0, .str [], .str []], [.bool, .str, .str, .str, .int .i64, .int .i64, .str, .str], [.bool, .str, .str, .str, .int .i64, .int .i64, .str, .str]⟩,
  some ⟨8, 104, .struct [(0, 4), (1, 29), (4, 3), (5, 3), (6, 9), (7, 9)], [.bool false, .str [], .str [], .str [], .int .i64 0, .int .i64 0, .str [], .str []], [.bool, .str, .str, .str, .int .i64, .int .i64, .str, .str], [.bool, .str, .str, .str, .int .i64, .int .i64, .str, .str]⟩,
  none,
  none,
  some ⟨8, 104, .struct [(0, 4), (1, 29), (4, 3), (5, 3), (6, 3), (7, 22)], [.bool false, .str [], .str [], .str [], .int .i64 0, .int .i64 0, .int .i64 0, .nils], [.bool, .str, .str, .str, .int .i64, .int .i64, .int .i64, .bsl], []⟩,
  some ⟨8, 104, .struct [(0, 4), (1, 29), (4, 3), (5, 3), (6, 3), (7, 22)], [.bool false, .str [], .str [], .str [], .int .i64 0, .int .i64 0, .int .i64 0, .nils], [.bool, .str, .str, .str, .int .i64, .int .i64, .int .i64, .bsl], []⟩,
  none,
  none,
  some ⟨1, 8, .int .u64, [.int .u64 0], [.int .u64], [.int .u64]⟩,
  some ⟨1, 8, .int .u64, [.int .u64 0], [.int .u64], [.int .u64]⟩,
  some ⟨8, 104, .struct [(0, 39), (1, 29), (4, 3), (5, 3), (6, 22), (7, 3)], [.int .u64 0, .str [], .str [], .str [], .int .i64 0, .int .i64 0, .nils, .int .i64 0], [.int .u64, .str, .str, .str, .int .i64, .int .i64, .bsl, .int .i64], []⟩,
  some ⟨8, 104, .struct [(0, 39), (1, 29), (4, 3), (5, 3), (6, 22), (7, 3)], [.int .u64 0, .str [], .str [], .str [], .int .i64 0, .int .i64 0, .nils, .int .i64 0], [.int .u64, .str, .str, .str, .int .i64, .int .i64, .bsl, .int .i64], []⟩,
  none,
  none,
  none,
  some ⟨7, 88, .struct [(0, 4), (1, 29), (4, 3), (5, 25), (6, 9)], [.bool false, .str [], .str [], .str [], .int .i64 0, .int .i64 0, .str []], [.bool, .str, .str, .str, .int .i64, .int .i64, .str], [.bool, .str, .str, .str, .int .i64, .int .i64, .str]⟩,
  some ⟨7, 88, .struct [(0, 4), (1, 29), (4, 3), (5, 25), (6, 9)], [.bool false, .str [], .str [], .str [], .int .i64 0, .int .i64 0, .str []], [.bool, .str, .str, .str, .int .i64, .int .i64, .str], [.bool, .str, .str, .str, .int .i64, .int .i64, .str]⟩,
  none,
  some ⟨1, 24, .slice 22 false, [.nils], [.sl 1], []⟩,
  none,
  none,
  none,
  none,
  none,
  none,
  none,
  none,
  none,
  none,
  none,
  none,
  none,
  none,
  none,
  none,
  none,
  none,
  none,
  some ⟨10, 120, .struct [(0, 4), (1, 29), (4, 3), (5, 39), (6, 3), (7, 3), (8, 9), (9, 9)], [.bool false, .str [], .str [], .str [], .int .i64 0, .int .u64 0, .int .i64 0, .int .i64 0, .str [], .str []], [.bool, .str, .str, .str, .int .i64, .int .u64, .int .i64, .int .i64, .str, .str], [.bool, .str, .str, .str, .int .i64, .int .u64, .int .i64, .int .i64, .str, .str]⟩,
  some ⟨10, 120, .struct [(0, 4), (1, 29), (4, 3), (5, 39), (6, 3), (7, 3), (8, 9), (9, 9)], [.bool false, .str [], .str [], .str [], .int .i64 0, .int .u64 0, .int .i64 0, .int .i64 0, .str [], .str []], [.bool, .str, .str, .str, .int .i64, .int .u64, .int .i64, .int .i64, .str, .str], [.bool, .str, .str, .str, .int .i64, .int .u64, .int .i64, .int .i64, .str, .str]⟩,
  none,
  none,
  none,
  none,
  none,
  some ⟨1, 24, .slice 9 false, [.nils], [.sl 1], []⟩,
  none,
  some ⟨1, 8, .int .u64, [.int .u64 0], [.int .u64], [.int .u64]⟩,
  none,
  none,
  none,
  none,
  none,
  none,
  none,
  none,
  none,
  none,
  some ⟨1, 8, .ptr 90, [.nilp], [.ptr], []⟩,
  some ⟨4, 40, .struct [(0, 22), (1, 3), (2, 4), (3, 4)], [.nils, .int .i64 0, .bool false, .bool false], [.bsl, .int .i64, .bool, .bool], []⟩,
  some ⟨4, 40, .struct [(0, 22), (1, 3), (2, 4), (3, 4)], [.nils, .int .i64 0, .bool false, .bool false], [.bsl, .int .i64, .bool, .bool], []⟩,
  none,
  none,
  none,
  none,
  none,
  none,
  none,
  none,
  none,
  none,
  some ⟨1, 8, .ptr 103, [.nilp], [.ptr], []⟩,
  some ⟨2, 32, .struct [(0, 22), (1, 3)], [.nils, .int .i64 0], [.bsl, .int .i64], []⟩,
  some ⟨2, 32, .struct [(0, 22), (1, 3)], [.nils, .int .i64 0], [.bsl, .int .i64], []⟩,
  none,
  none,
  none,
  none,
  some ⟨1, 24, .slice 3 false, [.nils], [.sl 1], []⟩,
  none,
  none,
  none,
  some ⟨1, 8, .ptr 9, [.nilp], [.ptr], []⟩,
  some ⟨1, 24, .slice 112 false, [.nils], [.sl 1], []⟩,
  none,
  none,
  none,
  none,
  none,
  none,
  none,
  some ⟨1, 24, .slice 29 false, [.nils], [.sl 3], []⟩,
  none,
  none,
  some ⟨4, 4, .arr 4 5 true, [.u8 0, .u8 0, .u8 0, .u8 0], [.u8, .u8, .u8, .u8], []⟩,
  some ⟨4, 40, .struct [(0, 17), (1, 17), (2, 17), (3, 9)], [.nilp, .nilp, .nilp, .str []], [.ptr, .ptr, .ptr, .str], []⟩,
  none,
  some ⟨0, 0, .arr 0 16 false, [], [], []⟩,
  none,
  none,
  some ⟨1, 4, .int .u32, [.int .u32 0], [.int .u32], [.int .u32]⟩,
  some ⟨1, 1, .u8, [.u8 0], [.u8], [.u8]⟩,
  some ⟨1, 1, .u8, [.u8 0], [.u8], [.u8]⟩,
  none,
  some ⟨1, 8, .ptr 5, [.nilp], [.ptr], []⟩,
  some ⟨1, 4, .int .i32, [.int .i32 0], [.int .i32], [.int .i32]⟩,
  some ⟨1, 4, .int .i32, [.int .i32 0], [.int .i32], [.int .i32]⟩,
  none,
  none,
  none]

def keepT : List (Nat × Nat × List Keep) := [(3, 15, [.val 0 22, .val 4 4, .val 6 23, .val 14 4, .val 15 22, .val 16 3]),
  (11, 8, [.cells 1 [.bool, .str, .str, .str, .int .i64, .int .i64, .str], .ptr 1 1 0, .val 2 22, .val 3 25, .val 4 3]),
  (13, 1000038, [.val 0 3]),
  (13, 1000042, [.val 0 3]),
  (38, 3, [.val 0 39, .rowB 3 5 false, .val 4 3]),
  (39, 2, [.rowB 3 5 false]),
  (42, 4, [.val 0 22, .val 1 3, .cells 4 [.str, .str, .str], .ptr 4 4 0, .val 5 3, .val 6 25, .cells 7 [.str, .str, .str], .ptr 7 7 0, .psl 14 7 [0, 1, 2], .val 15 3, .val 16 3]),
  (47, 5, [.val 1 108, .val 4 4, .val 5 25, .val 6 3, .val 7 4, .val 9 3]),
  (57, 5, [.val 4 39, .val 10 22, .val 11 3, .val 12 3]),
  (59, 5, [.val 0 22, .val 4 39, .val 5 3]),
  (71, 2, [.val 0 9, .val 1 9, .val 4 4, .val 5 3]),
  (71, 7, [.val 0 9, .val 1 9, .val 4 4, .val 5 3, .val 6 3]),
  (72, 3, [.val 1 3, .val 2 3, .val 3 4, .rowB 9 5 false, .val 10 3]),
  (76, 3, [.val 0 3, .cells 2 [.str, .str, .str], .ptr 2 2 0, .val 3 9, .val 4 3]),
  (76, 7, [.val 0 3, .cells 2 [.str, .str, .str], .ptr 2 2 0, .val 3 9, .val 5 3]),
  (80, 2, [.val 0 3, .val 4 4, .val 7 108, .val 8 3, .val 9 3]),
  (81, 6, [.val 0 22, .val 1 3, .val 2 3, .val 3 4, .val 12 3, .val 22 3, .val 23 3]),
  (88, 4, [.val 0 22, .val 1 3, .val 4 9, .val 5 3, .val 6 25, .val 7 3]),
  (91, 3, [.val 0 48, .val 3 3, .val 9 48, .val 10 3, .val 11 3]),
  (91, 11, [.rowB 6 5 false, .val 25 48, .val 26 3, .val 27 3]),
  (95, 3, [.val 0 39, .rowB 3 5 false, .val 7 3, .val 8 3]),
  (99, 2, [.val 0 9, .val 1 9, .val 4 4, .val 7 3, .val 8 3]),
  (101, 3, [.val 0 22, .val 1 3, .val 2 3, .val 3 4, .barr 9 false, .ptr 9 9 0, .val 12 3, .val 13 3]),
  (103, 6, [.val 2 3, .val 3 4, .val 11 22, .val 12 3, .val 14 3, .val 15 3])]

def ownT : List Nat := [72, 104, 31, 35, 91, 37]

def rtsT : List (Nat × List Nat) := [(13, [22]), (18, [4]), (21, [4]), (28, [4]), (30, [22]), (33, [22]), (38, [22]), (39, [22]), (46, [4]), (64, [4]), (71, [4]), (72, [22]), (73, [3]), (74, [39]), (76, [29]), (77, [39]), (78, [75]), (80, [4]), (82, [25]), (84, [3, 4, 25]), (86, []), (88, [9, 3, 25]), (89, [22]), (93, [22, 3, 25]), (95, [22]), (100, [4]), (102, [3]), (104, [22]), (107, [4]), (108, [4]), (109, [3]), (26, [4]), (27, [4]), (29, [22]), (31, [22]), (32, [22]), (35, [22]), (36, [4]), (40, [9]), (47, [4, 25]), (51, [9]), (53, [22, 3, 25]), (56, [22]), (65, [22]), (70, [4]), (79, [3, 4, 25]), (81, [3, 3, 25]), (83, [3]), (91, [22]), (103, [3, 3, 25]), (105, [3, 3, 4]), (106, [3]), (12, [29]), (25, [4]), (37, [22]), (41, [4, 25]), (43, [3, 3, 25]), (44, [3, 3, 25]), (45, [9, 3, 25]), (48, [29]), (52, [3, 3, 25]), (59, [39, 4]), (69, [22]), (75, [29]), (85, [3, 3, 25]), (87, [3, 3, 25]), (92, [3, 3, 25]), (94, [4]), (96, [22]), (97, [3]), (101, [22]), (5, [22, 25]), (7, [22, 25]), (9, [22, 25]), (11, [22, 25]), (34, [69]), (49, [3]), (50, [3]), (55, [3]), (57, [39, 4]), (66, [22]), (67, [22]), (68, [22]), (90, [22]), (99, [4]), (6, [31]), (8, [35]), (10, [41]), (15, [31, 25]), (17, [35, 25]), (20, [41, 25]), (23, [46, 25]), (62, [4]), (63, [4]), (98, [4]), (61, [4]), (24, [22, 25]), (42, [29, 3, 25]), (54, [22, 25]), (58, [22, 25]), (60, [22, 25]), (4, [4]), (14, [31, 25]), (16, [35, 25]), (19, [41, 25]), (22, [46, 25]), (3, [4])]

/-- kerbsuite/kerbsuitedata.Spoil -/
def sp13 : Abs.Spec := fun xs bl => match xs, bl with
  | [.bs b, .int .u16 how], [] => chk (decide (b.length ≤ 1000000) && decide (0 ≤ how) && decide (how ≤ 65535)) (some (.bs (Kerb.spoil b how), []))
  | _, _ => none

/-- kerbsuite/kerbsuiteref9.SameReply -/
def sp18 : Abs.Spec := fun xs bl => match xs, bl with
  | [.agg [.bool li, .str x, .str y, .str z, .int .i64 t, .int .i64 ex, .int .i64 kv, .bs sd], .agg [.bool li2, .str x2, .str y2, .str z2, .int .i64 t2, .int .i64 ex2, .int .i64 kv2, .bs sd2]], [] => some (.bool (li == li2 && (x == x2 && (y == y2 && z == z2)) && t == t2 && ex == ex2 && kv == kv2 && sd == sd2), [])
  | _, _ => none

/-- kerbsuite/kerbsuiteref9.SamePart -/
def sp21 : Abs.Spec := fun xs bl => match xs, bl with
  | [.agg [.int .u64 k, .str x, .str y, .str z, .int .i64 lf, .int .i64 kv, .bs tk, .int .i64 t], .agg [.int .u64 k2, .str x2, .str y2, .str z2, .int .i64 lf2, .int .i64 kv2, .bs tk2, .int .i64 t2]], [] => some (.bool (k == k2 && (x == x2 && (y == y2 && z == z2)) && lf == lf2 && kv == kv2 && tk == tk2 && t == t2), [])
  | _, _ => none

/-- kerbsuite/kerbsuiteref9.within -/
def sp28 : Abs.Spec := fun xs bl => match xs, bl with
  | [.int .i64 n, .int .i64 m], [] => some (.bool (Kerb.within n m), [])
  | _, _ => none

/-- kerbsuite/kerbsuiteref8.Put -/
def sp30 : Abs.Spec := fun xs bl => match xs, bl with
  | [.int .i64 k, .bool little], [] => some (.bs (Kerb.header k little), [])
  | _, _ => none

/-- kerbsuite/kerbsuiteref5.PutText -/
def sp33 : Abs.Spec := fun xs bl => match xs, bl with
  | [.bs b, .str s], [] => chk (decide (b.length + s.length ≤ 70368744177664)) (some (.bs (Kerb.putText b s), []))
  | _, _ => none

/-- kerbsuite/kerbsuiteref3.Bytes -/
def sp38 : Abs.Spec := fun xs bl => match xs, bl with
  | [.int .u64 k], [] => chk (decide (0 ≤ k) && decide (k < 18446744073709551616)) (some (.bs (Kerb.keyBytes k), []))
  | _, _ => none

/-- kerbsuite/kerbsuiteref5.Pad -/
def sp39 : Abs.Spec := fun xs bl => match xs, bl with
  | [.bs b], [] => chk (decide (b.length ≤ 70368744177664)) (some (.bs (Kerb.pad b), []))
  | _, _ => none

/-- bytes.Equal -/
def sp46 : Abs.Spec := fun xs bl => match xs, bl with
  | [.bs a, .bs b], [] => some (.bool (a == b), [])
  | _, _ => none

/-- kerbsuite/kdcmessage.within -/
def sp64 : Abs.Spec := fun xs bl => match xs, bl with
  | [.int .i64 n, .int .i64 m], [] => some (.bool (Kerb.within n m), [])
  | _, _ => none

/-- kerbsuite/kerbsuiteref1.text -/
def sp71 : Abs.Spec := fun xs bl => match xs, bl with
  | [.str s, .str bad], [] => chk (decide (s.length ≤ 4611686018427387904) && decide (bad.length ≤ 100)) (some (.bool (Kerb.printable s bad && decide (s.length ≤ 39)), []))
  | _, _ => none

/-- kerbsuite/kerbsuiteref5.put -/
def sp72 : Abs.Spec := fun xs bl => match xs, bl with
  | [.bs b, .int .i64 n, .int .i64 k, .bool little], [] => chk (decide (k = 1 ∨ k = 2 ∨ k = 4) && decide (b.length ≤ 70368744177664)) (some (.ownB (b ++ Kerb.putN n k.toNat little), []))
  | _, _ => none

/-- (*kerbsuite/kerbsuitedata.Source).Next -/
def sp73 : Abs.Spec := fun xs bl => match xs, bl with
  | [.ptr 0 0, .int .i64 n], [(0, [.bs l, .int .i64 pos])] => chk (decide (l.length ≤ 4611686018427387904) && decide (0 ≤ pos)) (some (.int .i64 (Kerb.next l pos n), [[.bs l, .int .i64 (Kerb.nextPos l pos n)]]))
  | _, _ => none

/-- kerbsuite/kerbsuitedata.Session -/
def sp74 : Abs.Spec := fun xs bl => match xs, bl with
  | [.int .i64 n], [] => chk (decide (0 ≤ n) && decide (n ≤ 1000)) (some (.int .u64 (Kerb.session n), []))
  | _, _ => none

/-- kerbsuite/kerbsuitedata.Longest -/
def sp76 : Abs.Spec := fun xs bl => match xs, bl with
  | [.int .i64 n], [] => chk (decide (0 ≤ n) && decide (n ≤ 1)) (some (.agg [.str (Kerb.longest n).name, .str (Kerb.longest n).inst, .str (Kerb.longest n).realm], []))
  | _, _ => none

/-- kerbsuite/kerbsuiteref3.Make -/
def sp77 : Abs.Spec := fun xs bl => match xs, bl with
  | [.int .i64 c, .int .i64 n], [] => some (.int .u64 (cond (Kerb.isClass c && Kerb.isSerial n) (c * 72057594037927936 + n) 0), [])
  | _, _ => none

/-- kerbsuite/kerbsuitedata.Realms -/
def sp78 : Abs.Spec := fun xs bl => match xs, bl with
  | [], [] => some (.sl 1 [.str [65, 84, 72], .str [66, 79, 83], .str [67, 65, 77]], [])
  | _, _ => none

/-- kerbsuite/header.among -/
def sp80 : Abs.Spec := fun xs bl => match xs, bl with
  | [.int .i64 k, .sl 1 els], [] => chk (allInts els && decide (els.length ≤ 1000)) (some (.bool ((intsIn els).contains k), []))
  | _, _ => none

/-- kerbsuite/field.room -/
def sp82 : Abs.Spec := fun xs bl => match xs, bl with
  | [.bs b, .int .i64 pos, .int .i64 n], [] => chk (decide (b.length ≤ 4611686018427387904)) (some (.int .i64 (Kerb.room b pos n), []))
  | _, _ => none

/-- kerbsuite/kerbsuiteref8.Read -/
def sp84 : Abs.Spec := fun xs bl => match xs, bl with
  | [.bs b], [] => some (.tup [.int .i64 (Kerb.readHead b).kind, .bool (Kerb.readHead b).little, .int .i64 (Kerb.readHead b).err], [])
  | _, _ => none

/-- (*kerbsuite/kerbsuiteref5.Reader).move -/
def sp86 : Abs.Spec := fun xs bl => match xs, bl with
  | [.ptr 0 0, .int .i64 nx, .int .i64 e], [(0, [.bs B, .int .i64 at_, .bool li, .bool bad])] => some (.tup [], [[.bs B, .int .i64 (cond (bad || !(e == 0)) at_ nx), .bool li, .bool (bad || !(e == 0))]])
  | _, _ => none

/-- kerbsuite/kerbsuiteref5.Text -/
def sp88 : Abs.Spec := fun xs bl => match xs, bl with
  | [.bs b, .int .i64 pos], [] => chk (decide (b.length ≤ 140737488355328)) (some (.tup [.str (Kerb.text b pos).val, .int .i64 (Kerb.text b pos).next, .int .i64 (Kerb.text b pos).err], []))
  | _, _ => none

/-- bytes.Clone -/
def sp89 : Abs.Spec := fun xs bl => match xs, bl with
  | [.bs b], [] => chk (decide (b.length ≤ 140737488355328)) (some (.bs b, []))
  | _, _ => none

/-- kerbsuite/kerbsuiteref5.Bytes -/
def sp93 : Abs.Spec := fun xs bl => match xs, bl with
  | [.bs b, .int .i64 pos, .int .i64 n], [] => chk (decide (b.length ≤ 140737488355328)) (some (.tup [.bs (Kerb.bytes b pos n).val, .int .i64 (Kerb.bytes b pos n).next, .int .i64 (Kerb.bytes b pos n).err], []))
  | _, _ => none

/-- kerbsuite/key.Bytes -/
def sp95 : Abs.Spec := fun xs bl => match xs, bl with
  | [.int .u64 k], [] => chk (decide (0 ≤ k) && decide (k < 18446744073709551616)) (some (.bs (Kerb.keyBytes k), []))
  | _, _ => none

/-- kerbsuite/header.isKind -/
def sp100 : Abs.Spec := fun xs bl => match xs, bl with
  | [.int .i64 k], [] => some (.bool (Kerb.isKind k), [])
  | _, _ => none

/-- internal/bytealg.IndexByte -/
def sp102 : Abs.Spec := fun xs bl => match xs, bl with
  | [.bs s, .u8 c], [] => some (.int .i64 (Kerb.indexOf c s), [])
  | _, _ => none

/-- slices.Grow[[]byte,byte] -/
def sp104 : Abs.Spec := fun xs bl => match xs, bl with
  | [.nils, .int .i64 n], [] => chk (decide (0 ≤ n) && decide (n ≤ 140737488355328)) (some (.ownB [], []))
  | _, _ => none

/-- kerbsuite/key.isClass -/
def sp107 : Abs.Spec := fun xs bl => match xs, bl with
  | [.int .i64 k], [] => some (.bool (Kerb.isClass k), [])
  | _, _ => none

/-- kerbsuite/key.isSerial -/
def sp108 : Abs.Spec := fun xs bl => match xs, bl with
  | [.int .i64 k], [] => some (.bool (Kerb.isSerial k), [])
  | _, _ => none

/-- internal/bytealg.IndexByteString -/
def sp109 : Abs.Spec := fun xs bl => match xs, bl with
  | [.str s, .u8 c], [] => some (.int .i64 (Kerb.indexOf c s), [])
  | _, _ => none

/-- kerbsuite/kerbsuiteref1.ValidName -/
def sp26 : Abs.Spec := fun xs bl => match xs, bl with
  | [.str s], [] => chk (decide (s.length ≤ 4611686018427387904)) (some (.bool (Kerb.validName s), []))
  | _, _ => none

/-- kerbsuite/kerbsuiteref1.ValidInstance -/
def sp27 : Abs.Spec := fun xs bl => match xs, bl with
  | [.str s], [] => chk (decide (s.length ≤ 4611686018427387904)) (some (.bool (Kerb.validInst s), []))
  | _, _ => none

/-- kerbsuite/kerbsuiteref5.PutPrincipal -/
def sp29 : Abs.Spec := fun xs bl => match xs, bl with
  | [.bs b, .agg [.str x, .str y, .str z]], [] => chk (decide (b.length + x.length + y.length + z.length ≤ 70368744170000)) (some (.bs (Kerb.putPrin b ⟨x, y, z⟩), []))
  | _, _ => none

/-- kerbsuite/kerbsuiteref5.PutOctet -/
def sp31 : Abs.Spec := fun xs bl => match xs, bl with
  | [.bs b, .int .i64 n], [] => chk (decide (b.length ≤ 70368744177664)) (some (.ownB (b ++ Kerb.putN n 1 false), []))
  | _, _ => none

/-- kerbsuite/kerbsuiteref5.PutNumber -/
def sp32 : Abs.Spec := fun xs bl => match xs, bl with
  | [.bs b, .int .i64 n, .bool little], [] => chk (decide (b.length ≤ 70368744177664)) (some (.bs (b ++ Kerb.putN n 4 little), []))
  | _, _ => none

/-- kerbsuite/kerbsuiteref5.PutShort -/
def sp35 : Abs.Spec := fun xs bl => match xs, bl with
  | [.bs b, .int .i64 n, .bool little], [] => chk (decide (b.length ≤ 70368744177664)) (some (.ownB (b ++ Kerb.putN n 2 little), []))
  | _, _ => none

/-- kerbsuite/kerbsuiteref3.Valid -/
def sp36 : Abs.Spec := fun xs bl => match xs, bl with
  | [.int .u64 k], [] => chk (decide (0 ≤ k) && decide (k < 18446744073709551616)) (some (.bool (Kerb.keyValid k), []))
  | _, _ => none

/-- kerbsuite/kerbsuitedata.Realm -/
def sp40 : Abs.Spec := fun xs bl => match xs, bl with
  | [.int .i64 n], [] => chk (decide (0 ≤ n)) (some (.str (Kerb.realm n), []))
  | _, _ => none

/-- kerbsuite/kerbsuiteref8.Is -/
def sp47 : Abs.Spec := fun xs bl => match xs, bl with
  | [.bs b, .sl 1 els], [] => chk (allInts els && decide (els.length ≤ 1000)) (some (.tup [.bool (Kerb.headIs b (intsIn els)).1, .int .i64 (Kerb.headIs b (intsIn els)).2], []))
  | _, _ => none

/-- (*kerbsuite/kerbsuiteref5.Reader).Text -/
def sp51 : Abs.Spec := fun xs bl => match xs, bl with
  | [.ptr 0 0], [(0, [.bs B, .int .i64 at_, .bool li, .bool bad])] => chk (decide (B.length ≤ 140737488355328)) (some (.str (Kerb.text B at_).val, [[.bs B, .int .i64 (cond (bad || !((Kerb.text B at_).err == 0)) at_ (Kerb.text B at_).next), .bool li, .bool (bad || !((Kerb.text B at_).err == 0))]]))
  | _, _ => none

/-- kerbsuite/field.Bytes -/
def sp53 : Abs.Spec := fun xs bl => match xs, bl with
  | [.bs b, .int .i64 pos, .int .i64 n], [] => chk (decide (b.length ≤ 140737488355328)) (some (.tup [.bs (Kerb.bytes b pos n).val, .int .i64 (Kerb.bytes b pos n).next, .int .i64 (Kerb.bytes b pos n).err], []))
  | _, _ => none

/-- (*kerbsuite/kerbsuiteref5.Reader).Bytes -/
def sp56 : Abs.Spec := fun xs bl => match xs, bl with
  | [.ptr 0 0, .int .i64 n], [(0, [.bs B, .int .i64 at_, .bool li, .bool bad])] => chk (decide (B.length ≤ 140737488355328)) (some (.bs (Kerb.bytes B at_ n).val, [[.bs B, .int .i64 (cond (bad || !((Kerb.bytes B at_ n).err == 0)) at_ (Kerb.bytes B at_ n).next), .bool li, .bool (bad || !((Kerb.bytes B at_ n).err == 0))]]))
  | _, _ => none

/-- kerbsuite/header.Put -/
def sp65 : Abs.Spec := fun xs bl => match xs, bl with
  | [.int .i64 k, .bool little], [] => some (.bs (Kerb.header k little), [])
  | _, _ => none

/-- kerbsuite/kerbsuiteref1.ValidRealm -/
def sp70 : Abs.Spec := fun xs bl => match xs, bl with
  | [.str s], [] => chk (decide (s.length ≤ 4611686018427387904)) (some (.bool (Kerb.validRealm s), []))
  | _, _ => none

/-- kerbsuite/header.Read -/
def sp79 : Abs.Spec := fun xs bl => match xs, bl with
  | [.bs b], [] => some (.tup [.int .i64 (Kerb.readHead b).kind, .bool (Kerb.readHead b).little, .int .i64 (Kerb.readHead b).err], [])
  | _, _ => none

/-- kerbsuite/field.get -/
def sp81 : Abs.Spec := fun xs bl => match xs, bl with
  | [.bs b, .int .i64 pos, .int .i64 k, .bool little], [] => chk (decide (b.length ≤ 4611686018427387904) && decide (0 ≤ k) && decide (k ≤ 4)) (some (.tup [.int .i64 (Kerb.get b pos k little).val, .int .i64 (Kerb.get b pos k little).next, .int .i64 (Kerb.get b pos k little).err], []))
  | _, _ => none

/-- bytes.IndexByte -/
def sp83 : Abs.Spec := fun xs bl => match xs, bl with
  | [.bs s, .u8 c], [] => some (.int .i64 (Kerb.indexOf c s), [])
  | _, _ => none

/-- slices.Concat[[]byte,byte] -/
def sp91 : Abs.Spec := fun xs bl => match xs, bl with
  | [.sl 1 els], [] => chk (allB els && decide ((catB els).length ≤ 140737488355328) && decide (els.length ≤ 1000)) (some (.ownB (catB els), []))
  | _, _ => none

/-- kerbsuite/kerbsuiteref5.get -/
def sp103 : Abs.Spec := fun xs bl => match xs, bl with
  | [.bs b, .int .i64 pos, .int .i64 k, .bool little], [] => chk (decide (b.length ≤ 140737488355328) && decide (0 ≤ k) && decide (k ≤ 4)) (some (.tup [.int .i64 (Kerb.get b pos k little).val, .int .i64 (Kerb.get b pos k little).next, .int .i64 (Kerb.get b pos k little).err], []))
  | _, _ => none

/-- kerbsuite/key.split -/
def sp105 : Abs.Spec := fun xs bl => match xs, bl with
  | [.int .u64 k], [] => chk (decide (0 ≤ k) && decide (k < 18446744073709551616)) (some (.tup [.int .i64 (cond (Kerb.keyValid k) (Kerb.keyClass k) 0), .int .i64 (cond (Kerb.keyValid k) (Kerb.keySerial k) 0), .bool (Kerb.keyValid k)], []))
  | _, _ => none

/-- internal/stringslite.IndexByte -/
def sp106 : Abs.Spec := fun xs bl => match xs, bl with
  | [.str s, .u8 c], [] => some (.int .i64 (Kerb.indexOf c s), [])
  | _, _ => none

/-- kerbsuite/kerbsuitedata.User -/
def sp12 : Abs.Spec := fun xs bl => match xs, bl with
  | [.int .i64 n], [] => chk (decide (0 ≤ n) && decide (n ≤ 4611686018427387904)) (some (.agg [.str (Kerb.user n).name, .str (Kerb.user n).inst, .str (Kerb.user n).realm], []))
  | _, _ => none

/-- kerbsuite/kerbsuiteref1.Valid -/
def sp25 : Abs.Spec := fun xs bl => match xs, bl with
  | [.agg [.str a, .str b, .str c]], [] => chk (decide (a.length ≤ 4611686018427387904) && decide (b.length ≤ 4611686018427387904) && decide (c.length ≤ 4611686018427387904)) (some (.bool (Kerb.Prin.valid ⟨a, b, c⟩), []))
  | _, _ => none

/-- kerbsuite/kerbsuiteref5.PutOrder -/
def sp37 : Abs.Spec := fun xs bl => match xs, bl with
  | [.bs b, .bool little], [] => chk (decide (b.length ≤ 70368744177664)) (some (.ownB (b ++ Kerb.putN (cond little 1 0) 1 false), []))
  | _, _ => none

/-- kerbsuite/header.Is -/
def sp41 : Abs.Spec := fun xs bl => match xs, bl with
  | [.bs b, .sl 1 els], [] => chk (allInts els && decide (els.length ≤ 1000)) (some (.tup [.bool (Kerb.headIs b (intsIn els)).1, .int .i64 (Kerb.headIs b (intsIn els)).2], []))
  | _, _ => none

/-- kerbsuite/field.Number -/
def sp43 : Abs.Spec := fun xs bl => match xs, bl with
  | [.bs b, .int .i64 pos, .bool little], [] => chk (decide (b.length ≤ 4611686018427387904)) (some (.tup [.int .i64 (Kerb.get b pos 4 little).val, .int .i64 (Kerb.get b pos 4 little).next, .int .i64 (Kerb.get b pos 4 little).err], []))
  | _, _ => none

/-- kerbsuite/field.Octet -/
def sp44 : Abs.Spec := fun xs bl => match xs, bl with
  | [.bs b, .int .i64 pos], [] => chk (decide (b.length ≤ 4611686018427387904)) (some (.tup [.int .i64 (Kerb.get b pos 1 false).val, .int .i64 (Kerb.get b pos 1 false).next, .int .i64 (Kerb.get b pos 1 false).err], []))
  | _, _ => none

/-- kerbsuite/field.Text -/
def sp45 : Abs.Spec := fun xs bl => match xs, bl with
  | [.bs b, .int .i64 pos], [] => chk (decide (b.length ≤ 4611686018427387904)) (some (.tup [.str (Kerb.text b pos).val, .int .i64 (Kerb.text b pos).next, .int .i64 (Kerb.text b pos).err], []))
  | _, _ => none

/-- (*kerbsuite/kerbsuiteref5.Reader).Principal -/
def sp48 : Abs.Spec := fun xs bl => match xs, bl with
  | [.ptr 0 0], [(0, [.bs B, .int .i64 at_, .bool li, .bool bad])] => chk (decide (B.length ≤ 140737488355328)) (some (.agg [.str (Kerb.rdPrin B at_ bad).p.name, .str (Kerb.rdPrin B at_ bad).p.inst, .str (Kerb.rdPrin B at_ bad).p.realm], [[.bs B, .int .i64 (Kerb.rdPrin B at_ bad).pos, .bool li, .bool (Kerb.rdPrin B at_ bad).bad]]))
  | _, _ => none

/-- kerbsuite/field.Short -/
def sp52 : Abs.Spec := fun xs bl => match xs, bl with
  | [.bs b, .int .i64 pos, .bool little], [] => chk (decide (b.length ≤ 4611686018427387904)) (some (.tup [.int .i64 (Kerb.get b pos 2 little).val, .int .i64 (Kerb.get b pos 2 little).next, .int .i64 (Kerb.get b pos 2 little).err], []))
  | _, _ => none

/-- kerbsuite/kerbsuiteref3.Read -/
def sp59 : Abs.Spec := fun xs bl => match xs, bl with
  | [.bs b], [] => chk (decide (b.length ≤ 4611686018427387904)) (some (.tup [.int .u64 (Kerb.keyRead b).1, .bool (Kerb.keyRead b).2], []))
  | _, _ => none

/-- kerbsuite/field.PutText -/
def sp69 : Abs.Spec := fun xs bl => match xs, bl with
  | [.bs b, .str s], [] => chk (decide (b.length + s.length ≤ 70368744177664)) (some (.bs (Kerb.putText b s), []))
  | _, _ => none

/-- kerbsuite/kerbsuitedata.Service -/
def sp75 : Abs.Spec := fun xs bl => match xs, bl with
  | [.int .i64 n], [] => chk (decide (0 ≤ n) && decide (n ≤ 4611686018427387904)) (some (.agg [.str (Kerb.service n).name, .str (Kerb.service n).inst, .str (Kerb.service n).realm], []))
  | _, _ => none

/-- kerbsuite/kerbsuiteref5.Number -/
def sp85 : Abs.Spec := fun xs bl => match xs, bl with
  | [.bs b, .int .i64 pos, .bool little], [] => chk (decide (b.length ≤ 140737488355328)) (some (.tup [.int .i64 (Kerb.get b pos 4 little).val, .int .i64 (Kerb.get b pos 4 little).next, .int .i64 (Kerb.get b pos 4 little).err], []))
  | _, _ => none

/-- kerbsuite/kerbsuiteref5.Octet -/
def sp87 : Abs.Spec := fun xs bl => match xs, bl with
  | [.bs b, .int .i64 pos], [] => chk (decide (b.length ≤ 140737488355328)) (some (.tup [.int .i64 (Kerb.get b pos 1 false).val, .int .i64 (Kerb.get b pos 1 false).next, .int .i64 (Kerb.get b pos 1 false).err], []))
  | _, _ => none

/-- kerbsuite/kerbsuiteref5.Short -/
def sp92 : Abs.Spec := fun xs bl => match xs, bl with
  | [.bs b, .int .i64 pos, .bool little], [] => chk (decide (b.length ≤ 140737488355328)) (some (.tup [.int .i64 (Kerb.get b pos 2 little).val, .int .i64 (Kerb.get b pos 2 little).next, .int .i64 (Kerb.get b pos 2 little).err], []))
  | _, _ => none

/-- kerbsuite/key.Valid -/
def sp94 : Abs.Spec := fun xs bl => match xs, bl with
  | [.int .u64 k], [] => chk (decide (0 ≤ k) && decide (k < 18446744073709551616)) (some (.bool (Kerb.keyValid k), []))
  | _, _ => none

/-- kerbsuite/field.Pad -/
def sp96 : Abs.Spec := fun xs bl => match xs, bl with
  | [.bs b], [] => chk (decide (b.length ≤ 70368744177664)) (some (.bs (Kerb.pad b), []))
  | _, _ => none

/-- strings.IndexByte -/
def sp97 : Abs.Spec := fun xs bl => match xs, bl with
  | [.str s, .u8 c], [] => some (.int .i64 (Kerb.indexOf c s), [])
  | _, _ => none

/-- kerbsuite/field.put -/
def sp101 : Abs.Spec := fun xs bl => match xs, bl with
  | [.bs b, .int .i64 n, .int .i64 k, .bool little], [] => chk (decide (k = 1 ∨ k = 2 ∨ k = 4) && decide (b.length ≤ 70368744177664)) (some (.bs (b ++ Kerb.putN n k.toNat little), []))
  | _, _ => none

/-- kerbsuite/kerbsuiteref9.EncodeRequest -/
def sp5 : Abs.Spec := fun xs bl => match xs, bl with
  | [.agg [.bool li, .str x, .str y, .str z, .int .i64 t, .int .i64 lf, .str sv, .str ins]], [] => chk (decide (x.length ≤ 4611686018427387904) && decide (y.length ≤ 4611686018427387904) && decide (z.length ≤ 4611686018427387904) && decide (sv.length ≤ 4611686018427387904) && decide (ins.length ≤ 4611686018427387904)) (some (.tup [.bs (Kerb.encodeRequest ⟨li, ⟨x, y, z⟩, t, lf, sv, ins⟩).val, .int .i64 (Kerb.encodeRequest ⟨li, ⟨x, y, z⟩, t, lf, sv, ins⟩).err], []))
  | _, _ => none

/-- kerbsuite/kerbsuiteref9.EncodeReply -/
def sp7 : Abs.Spec := fun xs bl => match xs, bl with
  | [.agg [.bool li, .str x, .str y, .str z, .int .i64 t, .int .i64 ex, .int .i64 kv, .bs sd]], [] => chk (decide (x.length ≤ 4611686018427387904) && decide (y.length ≤ 4611686018427387904) && decide (z.length ≤ 4611686018427387904)) (some (.tup [.bs (Kerb.encodeReply ⟨li, ⟨x, y, z⟩, t, ex, kv, sd⟩).val, .int .i64 (Kerb.encodeReply ⟨li, ⟨x, y, z⟩, t, ex, kv, sd⟩).err], []))
  | _, _ => none

/-- kerbsuite/kerbsuiteref9.EncodePart -/
def sp9 : Abs.Spec := fun xs bl => match xs, bl with
  | [.agg [.int .u64 k, .str x, .str y, .str z, .int .i64 lf, .int .i64 kv, .bs tk, .int .i64 t], .bool little], [] => chk (decide (x.length ≤ 4611686018427387904) && decide (y.length ≤ 4611686018427387904) && decide (z.length ≤ 4611686018427387904) && decide (0 ≤ k) && decide (k < 18446744073709551616)) (some (.tup [.bs (Kerb.encodePart ⟨k, ⟨x, y, z⟩, lf, kv, tk, t⟩ little).val, .int .i64 (Kerb.encodePart ⟨k, ⟨x, y, z⟩, lf, kv, tk, t⟩ little).err], []))
  | _, _ => none

/-- kerbsuite/kerbsuiteref9.EncodeError -/
def sp11 : Abs.Spec := fun xs bl => match xs, bl with
  | [.agg [.bool li, .str x, .str y, .str z, .int .i64 t, .int .i64 cd, .str tx]], [] => chk (decide (x.length ≤ 4611686018427387904) && decide (y.length ≤ 4611686018427387904) && decide (z.length ≤ 4611686018427387904) && decide (tx.length ≤ 4611686018427387904)) (some (.tup [.bs (Kerb.encodeError ⟨li, ⟨x, y, z⟩, t, cd, tx⟩).val, .int .i64 (Kerb.encodeError ⟨li, ⟨x, y, z⟩, t, cd, tx⟩).err], []))
  | _, _ => none

/-- kerbsuite/kerbsuitedata.Ticket -/
def sp34 : Abs.Spec := fun xs bl => match xs, bl with
  | [.bs l], [] => chk (decide (l.length ≤ 4611686018427387904)) (some (.agg [.bool (Kerb.ticket l).little, .str (Kerb.ticket l).client.name, .str (Kerb.ticket l).client.inst, .str (Kerb.ticket l).client.realm, .int .i64 (Kerb.ticket l).address, .int .u64 (Kerb.ticket l).session, .int .i64 (Kerb.ticket l).life, .int .i64 (Kerb.ticket l).issued, .str (Kerb.ticket l).service, .str (Kerb.ticket l).inst], []))
  | _, _ => none

/-- (*kerbsuite/kerbsuiteref5.Reader).Number -/
def sp49 : Abs.Spec := fun xs bl => match xs, bl with
  | [.ptr 0 0], [(0, [.bs B, .int .i64 at_, .bool li, .bool bad])] => chk (decide (B.length ≤ 140737488355328)) (some (.int .i64 (Kerb.get B at_ 4 li).val, [[.bs B, .int .i64 (cond (bad || !((Kerb.get B at_ 4 li).err == 0)) at_ (Kerb.get B at_ 4 li).next), .bool li, .bool (bad || !((Kerb.get B at_ 4 li).err == 0))]]))
  | _, _ => none

/-- (*kerbsuite/kerbsuiteref5.Reader).Octet -/
def sp50 : Abs.Spec := fun xs bl => match xs, bl with
  | [.ptr 0 0], [(0, [.bs B, .int .i64 at_, .bool li, .bool bad])] => chk (decide (B.length ≤ 140737488355328)) (some (.int .i64 (Kerb.get B at_ 1 false).val, [[.bs B, .int .i64 (cond (bad || !((Kerb.get B at_ 1 false).err == 0)) at_ (Kerb.get B at_ 1 false).next), .bool li, .bool (bad || !((Kerb.get B at_ 1 false).err == 0))]]))
  | _, _ => none

/-- (*kerbsuite/kerbsuiteref5.Reader).Short -/
def sp55 : Abs.Spec := fun xs bl => match xs, bl with
  | [.ptr 0 0], [(0, [.bs B, .int .i64 at_, .bool li, .bool bad])] => chk (decide (B.length ≤ 140737488355328)) (some (.int .i64 (Kerb.get B at_ 2 li).val, [[.bs B, .int .i64 (cond (bad || !((Kerb.get B at_ 2 li).err == 0)) at_ (Kerb.get B at_ 2 li).next), .bool li, .bool (bad || !((Kerb.get B at_ 2 li).err == 0))]]))
  | _, _ => none

/-- kerbsuite/key.Read -/
def sp57 : Abs.Spec := fun xs bl => match xs, bl with
  | [.bs b], [] => chk (decide (b.length ≤ 4611686018427387904)) (some (.tup [.int .u64 (Kerb.keyRead b).1, .bool (Kerb.keyRead b).2], []))
  | _, _ => none

/-- kerbsuite/field.PutPrincipal -/
def sp66 : Abs.Spec := fun xs bl => match xs, bl with
  | [.bs b, .agg [.str x, .str y, .str z]], [] => chk (decide (b.length + x.length + y.length + z.length ≤ 70368744170000)) (some (.bs (Kerb.putPrin b ⟨x, y, z⟩), []))
  | _, _ => none

/-- kerbsuite/field.PutNumber -/
def sp67 : Abs.Spec := fun xs bl => match xs, bl with
  | [.bs b, .int .i64 n, .bool little], [] => chk (decide (b.length ≤ 70368744177664)) (some (.bs (b ++ Kerb.putN n 4 little), []))
  | _, _ => none

/-- kerbsuite/field.PutOctet -/
def sp68 : Abs.Spec := fun xs bl => match xs, bl with
  | [.bs b, .int .i64 n], [] => chk (decide (b.length ≤ 70368744177664)) (some (.bs (b ++ Kerb.putN n 1 false), []))
  | _, _ => none

/-- kerbsuite/field.PutShort -/
def sp90 : Abs.Spec := fun xs bl => match xs, bl with
  | [.bs b, .int .i64 n, .bool little], [] => chk (decide (b.length ≤ 70368744177664)) (some (.bs (b ++ Kerb.putN n 2 little), []))
  | _, _ => none

/-- kerbsuite/principal.printable -/
def sp99 : Abs.Spec := fun xs bl => match xs, bl with
  | [.str s, .str bad], [] => chk (decide (s.length ≤ 4611686018427387904)) (some (.bool (Kerb.printable s bad), []))
  | _, _ => none

/-- kerbsuite/kerbsuitelaw9.request -/
def sp6 : Abs.Spec := fun xs bl => match xs, bl with
  | [.bs l, .bool little], [] => chk (decide (l.length ≤ 4611686018427387904)) (some (.agg [.bool little, .str (Kerb.ticket l).client.name, .str (Kerb.ticket l).client.inst, .str (Kerb.ticket l).client.realm, .int .i64 (Kerb.ticket l).issued, .int .i64 (Kerb.ticket l).life, .str (Kerb.ticket l).service, .str (Kerb.ticket l).inst], []))
  | _, _ => none

/-- kerbsuite/kerbsuitelaw9.reply -/
def sp8 : Abs.Spec := fun xs bl => match xs, bl with
  | [.bs l, .bs sd, .bool little], [] => chk (decide (l.length ≤ 4611686018427387904)) (some (.agg [.bool little, .str (Kerb.ticket l).client.name, .str (Kerb.ticket l).client.inst, .str (Kerb.ticket l).client.realm, .int .i64 (Kerb.ticket l).issued, .int .i64 (Kerb.ticket l).address, .int .i64 (Kerb.ticket l).life, .bs sd], []))
  | _, _ => none

/-- kerbsuite/kerbsuitelaw9.part -/
def sp10 : Abs.Spec := fun xs bl => match xs, bl with
  | [.bs l, .bs tk], [] => chk (decide (l.length ≤ 4611686018427387904)) (some (.agg [.int .u64 (Kerb.ticket l).session, .str (Kerb.ticket l).client.name, .str (Kerb.ticket l).client.inst, .str (Kerb.ticket l).client.realm, .int .i64 (Kerb.ticket l).life, .int .i64 (Kerb.ticket l).life, .bs (tk.take 255), .int .i64 (Kerb.ticket l).issued], []))
  | _, _ => none

/-- kerbsuite/kerbsuiteref9.DecodeRequest -/
def sp15 : Abs.Spec := fun xs bl => match xs, bl with
  | [.bs b], [] => chk (decide (b.length ≤ 140737488355328)) (some (.tup [.agg [.bool ((Kerb.decodeRequest b).val).little, .str ((Kerb.decodeRequest b).val).client.name, .str ((Kerb.decodeRequest b).val).client.inst, .str ((Kerb.decodeRequest b).val).client.realm, .int .i64 ((Kerb.decodeRequest b).val).time, .int .i64 ((Kerb.decodeRequest b).val).life, .str ((Kerb.decodeRequest b).val).service, .str ((Kerb.decodeRequest b).val).inst], .int .i64 (Kerb.decodeRequest b).err], []))
  | _, _ => none

/-- kerbsuite/kerbsuiteref9.DecodeReply -/
def sp17 : Abs.Spec := fun xs bl => match xs, bl with
  | [.bs b], [] => chk (decide (b.length ≤ 140737488355328)) (some (.tup [.agg [.bool ((Kerb.decodeReply b).val).little, .str ((Kerb.decodeReply b).val).client.name, .str ((Kerb.decodeReply b).val).client.inst, .str ((Kerb.decodeReply b).val).client.realm, .int .i64 ((Kerb.decodeReply b).val).time, .int .i64 ((Kerb.decodeReply b).val).expires, .int .i64 ((Kerb.decodeReply b).val).kvno, .bs ((Kerb.decodeReply b).val).sealed], .int .i64 (Kerb.decodeReply b).err], []))
  | _, _ => none

/-- kerbsuite/kerbsuiteref9.DecodePart -/
def sp20 : Abs.Spec := fun xs bl => match xs, bl with
  | [.bs b, .bool little], [] => chk (decide (b.length ≤ 140737488355328)) (some (.tup [.agg [.int .u64 ((Kerb.decodePart b little).val).session, .str ((Kerb.decodePart b little).val).service.name, .str ((Kerb.decodePart b little).val).service.inst, .str ((Kerb.decodePart b little).val).service.realm, .int .i64 ((Kerb.decodePart b little).val).life, .int .i64 ((Kerb.decodePart b little).val).kvno, .bs ((Kerb.decodePart b little).val).ticket, .int .i64 ((Kerb.decodePart b little).val).time], .int .i64 (Kerb.decodePart b little).err], []))
  | _, _ => none

/-- kerbsuite/kerbsuiteref9.DecodeError -/
def sp23 : Abs.Spec := fun xs bl => match xs, bl with
  | [.bs b], [] => chk (decide (b.length ≤ 140737488355328)) (some (.tup [.agg [.bool ((Kerb.decodeError b).val).little, .str ((Kerb.decodeError b).val).client.name, .str ((Kerb.decodeError b).val).client.inst, .str ((Kerb.decodeError b).val).client.realm, .int .i64 ((Kerb.decodeError b).val).time, .int .i64 ((Kerb.decodeError b).val).code, .str ((Kerb.decodeError b).val).text], .int .i64 (Kerb.decodeError b).err], []))
  | _, _ => none

/-- kerbsuite/principal.ValidName -/
def sp62 : Abs.Spec := fun xs bl => match xs, bl with
  | [.str s], [] => chk (decide (s.length ≤ 4611686018427387904)) (some (.bool (Kerb.validName s), []))
  | _, _ => none

/-- kerbsuite/principal.ValidInstance -/
def sp63 : Abs.Spec := fun xs bl => match xs, bl with
  | [.str s], [] => chk (decide (s.length ≤ 4611686018427387904)) (some (.bool (Kerb.validInst s), []))
  | _, _ => none

/-- kerbsuite/principal.ValidRealm -/
def sp98 : Abs.Spec := fun xs bl => match xs, bl with
  | [.str s], [] => chk (decide (s.length ≤ 4611686018427387904)) (some (.bool (Kerb.validRealm s), []))
  | _, _ => none

/-- kerbsuite/principal.Valid -/
def sp61 : Abs.Spec := fun xs bl => match xs, bl with
  | [.agg [.str a, .str b, .str c]], [] => chk (decide (a.length ≤ 4611686018427387904) && decide (b.length ≤ 4611686018427387904) && decide (c.length ≤ 4611686018427387904)) (some (.bool (Kerb.Prin.valid ⟨a, b, c⟩), []))
  | _, _ => none

/-- kerbsuite/kdcmessage.EncodeRequest -/
def sp24 : Abs.Spec := fun xs bl => match xs, bl with
  | [.agg [.bool li, .str x, .str y, .str z, .int .i64 t, .int .i64 lf, .str sv, .str ins]], [] => chk (decide (x.length ≤ 4611686018427387904) && decide (y.length ≤ 4611686018427387904) && decide (z.length ≤ 4611686018427387904) && decide (sv.length ≤ 4611686018427387904) && decide (ins.length ≤ 4611686018427387904)) (some (.tup [.bs (Kerb.encodeRequest ⟨li, ⟨x, y, z⟩, t, lf, sv, ins⟩).val, .int .i64 (Kerb.encodeRequest ⟨li, ⟨x, y, z⟩, t, lf, sv, ins⟩).err], []))
  | _, _ => none

/-- kerbsuite/field.Principal -/
def sp42 : Abs.Spec := fun xs bl => match xs, bl with
  | [.bs b, .int .i64 pos], [] => chk (decide (b.length ≤ 4611686018427387904)) (some (.tup [.agg [.str (Kerb.prin b pos).val.name, .str (Kerb.prin b pos).val.inst, .str (Kerb.prin b pos).val.realm], .int .i64 (Kerb.prin b pos).next, .int .i64 (Kerb.prin b pos).err], []))
  | _, _ => none

/-- kerbsuite/kdcmessage.EncodeReply -/
def sp54 : Abs.Spec := fun xs bl => match xs, bl with
  | [.agg [.bool li, .str x, .str y, .str z, .int .i64 t, .int .i64 ex, .int .i64 kv, .bs sd]], [] => chk (decide (x.length ≤ 4611686018427387904) && decide (y.length ≤ 4611686018427387904) && decide (z.length ≤ 4611686018427387904)) (some (.tup [.bs (Kerb.encodeReply ⟨li, ⟨x, y, z⟩, t, ex, kv, sd⟩).val, .int .i64 (Kerb.encodeReply ⟨li, ⟨x, y, z⟩, t, ex, kv, sd⟩).err], []))
  | _, _ => none

/-- kerbsuite/kdcmessage.EncodePart -/
def sp58 : Abs.Spec := fun xs bl => match xs, bl with
  | [.agg [.int .u64 k, .str x, .str y, .str z, .int .i64 lf, .int .i64 kv, .bs tk, .int .i64 t], .bool little], [] => chk (decide (x.length ≤ 4611686018427387904) && decide (y.length ≤ 4611686018427387904) && decide (z.length ≤ 4611686018427387904) && decide (0 ≤ k) && decide (k < 18446744073709551616)) (some (.tup [.bs (Kerb.encodePart ⟨k, ⟨x, y, z⟩, lf, kv, tk, t⟩ little).val, .int .i64 (Kerb.encodePart ⟨k, ⟨x, y, z⟩, lf, kv, tk, t⟩ little).err], []))
  | _, _ => none

/-- kerbsuite/kdcmessage.EncodeError -/
def sp60 : Abs.Spec := fun xs bl => match xs, bl with
  | [.agg [.bool li, .str x, .str y, .str z, .int .i64 t, .int .i64 cd, .str tx]], [] => chk (decide (x.length ≤ 4611686018427387904) && decide (y.length ≤ 4611686018427387904) && decide (z.length ≤ 4611686018427387904) && decide (tx.length ≤ 4611686018427387904)) (some (.tup [.bs (Kerb.encodeError ⟨li, ⟨x, y, z⟩, t, cd, tx⟩).val, .int .i64 (Kerb.encodeError ⟨li, ⟨x, y, z⟩, t, cd, tx⟩).err], []))
  | _, _ => none

/-- kerbsuite/kerbsuitelaw9.awake -/
def sp4 : Abs.Spec := fun xs bl => match xs, bl with
  | [], [] => some (.bool true, [])
  | _, _ => none

/-- kerbsuite/kdcmessage.DecodeRequest -/
def sp14 : Abs.Spec := fun xs bl => match xs, bl with
  | [.bs b], [] => chk (decide (b.length ≤ 4611686018427387904)) (some (.tup [.agg [.bool ((Kerb.decodeRequest b).val).little, .str ((Kerb.decodeRequest b).val).client.name, .str ((Kerb.decodeRequest b).val).client.inst, .str ((Kerb.decodeRequest b).val).client.realm, .int .i64 ((Kerb.decodeRequest b).val).time, .int .i64 ((Kerb.decodeRequest b).val).life, .str ((Kerb.decodeRequest b).val).service, .str ((Kerb.decodeRequest b).val).inst], .int .i64 (Kerb.decodeRequest b).err], []))
  | _, _ => none

/-- kerbsuite/kdcmessage.DecodeReply -/
def sp16 : Abs.Spec := fun xs bl => match xs, bl with
  | [.bs b], [] => chk (decide (b.length ≤ 140737488355328)) (some (.tup [.agg [.bool ((Kerb.decodeReply b).val).little, .str ((Kerb.decodeReply b).val).client.name, .str ((Kerb.decodeReply b).val).client.inst, .str ((Kerb.decodeReply b).val).client.realm, .int .i64 ((Kerb.decodeReply b).val).time, .int .i64 ((Kerb.decodeReply b).val).expires, .int .i64 ((Kerb.decodeReply b).val).kvno, .bs ((Kerb.decodeReply b).val).sealed], .int .i64 (Kerb.decodeReply b).err], []))
  | _, _ => none

/-- kerbsuite/kdcmessage.DecodePart -/
def sp19 : Abs.Spec := fun xs bl => match xs, bl with
  | [.bs b, .bool little], [] => chk (decide (b.length ≤ 140737488355328)) (some (.tup [.agg [.int .u64 ((Kerb.decodePart b little).val).session, .str ((Kerb.decodePart b little).val).service.name, .str ((Kerb.decodePart b little).val).service.inst, .str ((Kerb.decodePart b little).val).service.realm, .int .i64 ((Kerb.decodePart b little).val).life, .int .i64 ((Kerb.decodePart b little).val).kvno, .bs ((Kerb.decodePart b little).val).ticket, .int .i64 ((Kerb.decodePart b little).val).time], .int .i64 (Kerb.decodePart b little).err], []))
  | _, _ => none

/-- kerbsuite/kdcmessage.DecodeError -/
def sp22 : Abs.Spec := fun xs bl => match xs, bl with
  | [.bs b], [] => chk (decide (b.length ≤ 140737488355328)) (some (.tup [.agg [.bool ((Kerb.decodeError b).val).little, .str ((Kerb.decodeError b).val).client.name, .str ((Kerb.decodeError b).val).client.inst, .str ((Kerb.decodeError b).val).client.realm, .int .i64 ((Kerb.decodeError b).val).time, .int .i64 ((Kerb.decodeError b).val).code, .str ((Kerb.decodeError b).val).text], .int .i64 (Kerb.decodeError b).err], []))
  | _, _ => none

/-- kerbsuite/kerbsuitelaw9.KdcDecodes -/
def sp3 : Abs.Spec := fun xs bl => match xs, bl with
  | [.bs raw, .bs l, .bs sealed, .bool little, .bool other, .u8 kind, .int .u16 how], [] => chk (decide (0 ≤ how) && decide (how ≤ 65535)) (some (.bool true, []))
  | _, _ => none

def tabT : List (Nat × Nat × List CT × Abs.Spec) := [(13, 1, [.bsl, .int .u16], sp13), (18, 1, [.other, .other], sp18), (21, 1, [.other, .other], sp21), (28, 1, [.int .i64, .int .i64], sp28), (30, 1, [.int .i64, .bool], sp30), (33, 1, [.bsl, .str], sp33), (38, 1, [.int .u64], sp38), (39, 1, [.bsl], sp39), (46, 1, [.bsl, .bsl], sp46), (64, 1, [.int .i64, .int .i64], sp64), (71, 1, [.str, .str], sp71), (72, 1, [.bsl, .int .i64, .int .i64, .bool], sp72), (73, 1, [.ptr, .int .i64], sp73), (74, 1, [.int .i64], sp74), (76, 1, [.int .i64], sp76), (77, 1, [.int .i64, .int .i64], sp77), (78, 1, [], sp78), (80, 1, [.int .i64, .sl 1], sp80), (82, 1, [.bsl, .int .i64, .int .i64], sp82), (84, 1, [.bsl], sp84), (86, 1, [.ptr, .int .i64, .int .i64], sp86), (88, 1, [.bsl, .int .i64], sp88), (89, 1, [.bsl], sp89), (93, 1, [.bsl, .int .i64, .int .i64], sp93), (95, 1, [.int .u64], sp95), (100, 1, [.int .i64], sp100), (102, 1, [.bsl, .u8], sp102), (104, 1, [.other, .other], sp104), (107, 1, [.int .i64], sp107), (108, 1, [.int .i64], sp108), (109, 1, [.str, .u8], sp109), (26, 2, [.str], sp26), (27, 2, [.str], sp27), (29, 2, [.bsl, .other], sp29), (31, 2, [.bsl, .int .i64], sp31), (32, 2, [.bsl, .int .i64, .bool], sp32), (35, 2, [.bsl, .int .i64, .bool], sp35), (36, 2, [.int .u64], sp36), (40, 2, [.int .i64], sp40), (47, 2, [.bsl, .sl 1], sp47), (51, 2, [.ptr], sp51), (53, 2, [.bsl, .int .i64, .int .i64], sp53), (56, 2, [.ptr, .int .i64], sp56), (65, 2, [.int .i64, .bool], sp65), (70, 2, [.str], sp70), (79, 2, [.bsl], sp79), (81, 2, [.bsl, .int .i64, .int .i64, .bool], sp81), (83, 2, [.bsl, .u8], sp83), (91, 2, [.sl 1], sp91), (103, 2, [.bsl, .int .i64, .int .i64, .bool], sp103), (105, 2, [.int .u64], sp105), (106, 2, [.str, .u8], sp106), (12, 3, [.int .i64], sp12), (25, 3, [.other], sp25), (37, 3, [.bsl, .bool], sp37), (41, 3, [.bsl, .sl 1], sp41), (43, 3, [.bsl, .int .i64, .bool], sp43), (44, 3, [.bsl, .int .i64], sp44), (45, 3, [.bsl, .int .i64], sp45), (48, 3, [.ptr], sp48), (52, 3, [.bsl, .int .i64, .bool], sp52), (59, 3, [.bsl], sp59), (69, 3, [.bsl, .str], sp69), (75, 3, [.int .i64], sp75), (85, 3, [.bsl, .int .i64, .bool], sp85), (87, 3, [.bsl, .int .i64], sp87), (92, 3, [.bsl, .int .i64, .bool], sp92), (94, 3, [.int .u64], sp94), (96, 3, [.bsl], sp96), (97, 3, [.str, .u8], sp97), (101, 3, [.bsl, .int .i64, .int .i64, .bool], sp101), (5, 4, [.other], sp5), (7, 4, [.other], sp7), (9, 4, [.other, .bool], sp9), (11, 4, [.other], sp11), (34, 4, [.bsl], sp34), (49, 4, [.ptr], sp49), (50, 4, [.ptr], sp50), (55, 4, [.ptr], sp55), (57, 4, [.bsl], sp57), (66, 4, [.bsl, .other], sp66), (67, 4, [.bsl, .int .i64, .bool], sp67), (68, 4, [.bsl, .int .i64], sp68), (90, 4, [.bsl, .int .i64, .bool], sp90), (99, 4, [.str, .str], sp99), (6, 5, [.bsl, .bool], sp6), (8, 5, [.bsl, .bsl, .bool], sp8), (10, 5, [.bsl, .bsl], sp10), (15, 5, [.bsl], sp15), (17, 5, [.bsl], sp17), (20, 5, [.bsl, .bool], sp20), (23, 5, [.bsl], sp23), (62, 5, [.str], sp62), (63, 5, [.str], sp63), (98, 6, [.str], sp98), (61, 7, [.other], sp61), (24, 8, [.other], sp24), (42, 8, [.bsl, .int .i64], sp42), (54, 8, [.other], sp54), (58, 8, [.other, .bool], sp58), (60, 8, [.other], sp60), (4, 9, [], sp4), (14, 9, [.bsl], sp14), (16, 9, [.bsl], sp16), (19, 9, [.bsl, .bool], sp19), (22, 9, [.bsl], sp22), (3, 10, [.bsl, .bsl, .bsl, .bool, .bool, .u8, .int .u16], sp3)]

def globT : List (Nat × List AV) := []

def look {α : Type} (k : Nat) : List (Nat × α) → Option α
  | [] => none
  | (j, x) :: r => cond (Nat.beq j k) (some x) (look k r)
def look2 {α : Type} (k m : Nat) : List (Nat × Nat × List α) → List α
  | [] => []
  | (j, i, x) :: r => cond (Nat.beq j k) (cond (Nat.beq i m) x (look2 k m r)) (look2 k m r)
def G : Cfg2 := { ty := fun t => (tbl[t]?).join, keep := fun f r => look2 f r keepT, own := fun f => ownT.contains f, glob := fun q => look q globT, rts := fun f => look f rtsT, tab := fun f => look f tabT }
end Go.Proofs.YtngaooakflldaaaGreat
