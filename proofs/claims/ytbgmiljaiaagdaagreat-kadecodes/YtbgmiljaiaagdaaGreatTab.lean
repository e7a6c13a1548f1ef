/- The table of functions of this seat. -/
import Derived.Test.YtbgmiljaiaagdaaGreatAbsSpec
import Derived.Test.YtbgmiljaiaagdaaGreatKerbDefs
import Derived.Test.YtbgmiljaiaagdaaGreatAbsPlain
import Derived.Test.YtbgmiljaiaagdaaGreatKerbAt
import Derived.Test.YtbgmiljaiaagdaaGreatKerbKa
import Derived.Test.YtbgmiljaiaagdaaGreatProg
import Derived.KernelRfl
namespace Go.Proofs.YtbgmiljaiaagdaaGreat
open Go.Abs
set_option linter.unusedVariables false

def tbl : List (Option TI) := [
  none,
  none,
  some ⟨1, 8, .int .i64, [.int .i64 0], [.int .i64], [.int .i64]⟩,
  some ⟨1, 8, .int .i64, [.int .i64 0], [.int .i64], [.int .i64]⟩,
  some ⟨1, 1, .bool, [.bool false], [.bool], [.bool]⟩,
  some ⟨1, 1, .u8, [.u8 0], [.u8], [.u8]⟩,
  some ⟨1, 1, .u8, [.u8 0], [.u8], [.u8]⟩,
  some ⟨4, 24, .struct [(0, 2), (1, 3), (2, 4), (3, 6)], [.int .i64 0, .int .i64 0, .bool false, .u8 0], [.int .i64, .int .i64, .bool, .u8], [.int .i64, .int .i64, .bool, .u8]⟩,
  none,
  some ⟨1, 16, .str, [.str []], [.str], [.str]⟩,
  none,
  none,
  some ⟨1, 8, .int .u64, [.int .u64 0], [.int .u64], [.int .u64]⟩,
  none,
  none,
  some ⟨1, 8, .ptr 131, [.nilp], [.ptr], []⟩,
  some ⟨1, 8, .ptr 134, [.nilp], [.ptr], []⟩,
  some ⟨1, 8, .ptr 142, [.nilp], [.ptr], []⟩,
  some ⟨1, 8, .struct [(0, 17)], [.nilp], [.ptr], []⟩,
  some ⟨1, 8, .struct [(0, 17)], [.nilp], [.ptr], []⟩,
  none,
  some ⟨1, 4, .int .i32, [.int .i32 0], [.int .i32], [.int .i32]⟩,
  some ⟨1, 24, .slice 5 true, [.nils], [.bsl], []⟩,
  some ⟨1, 4, .int .u32, [.int .u32 0], [.int .u32], [.int .u32]⟩,
  some ⟨12, 80, .struct [(0, 5), (1, 5), (2, 5), (3, 5), (4, 5), (5, 23), (6, 23), (7, 23), (8, 5), (9, 22), (10, 22), (11, 5)], [.u8 0, .u8 0, .u8 0, .u8 0, .u8 0, .int .u32 0, .int .u32 0, .int .u32 0, .u8 0, .nils, .nils, .u8 0], [.u8, .u8, .u8, .u8, .u8, .int .u32, .int .u32, .int .u32, .u8, .bsl, .bsl, .u8], []⟩,
  some ⟨12, 80, .struct [(0, 5), (1, 5), (2, 5), (3, 5), (4, 5), (5, 23), (6, 23), (7, 23), (8, 5), (9, 22), (10, 22), (11, 5)], [.u8 0, .u8 0, .u8 0, .u8 0, .u8 0, .int .u32 0, .int .u32 0, .int .u32 0, .u8 0, .nils, .nils, .u8 0], [.u8, .u8, .u8, .u8, .u8, .int .u32, .int .u32, .int .u32, .u8, .bsl, .bsl, .u8], []⟩,
  some ⟨1, 2, .int .u16, [.int .u16 0], [.int .u16], [.int .u16]⟩,
  none,
  some ⟨1, 8, .int .i64, [.int .i64 0], [.int .i64], [.int .i64]⟩,
  none,
  none,
  some ⟨3, 48, .struct [(0, 9), (1, 9), (2, 9)], [.str [], .str [], .str []], [.str, .str, .str], [.str, .str, .str]⟩,
  some ⟨3, 48, .struct [(0, 9), (1, 9), (2, 9)], [.str [], .str [], .str []], [.str, .str, .str], [.str, .str, .str]⟩,
  some ⟨10, 160, .struct [(0, 3), (1, 32), (4, 3), (5, 9), (6, 22), (7, 9), (8, 9), (9, 22)], [.int .i64 0, .str [], .str [], .str [], .int .i64 0, .str [], .nils, .str [], .str [], .nils], [.int .i64, .str, .str, .str, .int .i64, .str, .bsl, .str, .str, .bsl], []⟩,
  some ⟨10, 160, .struct [(0, 3), (1, 32), (4, 3), (5, 9), (6, 22), (7, 9), (8, 9), (9, 22)], [.int .i64 0, .str [], .str [], .str [], .int .i64 0, .str [], .nils, .str [], .str [], .nils], [.int .i64, .str, .str, .str, .int .i64, .str, .bsl, .str, .str, .bsl], []⟩,
  none,
  none,
  some ⟨1, 8, .int .u64, [.int .u64 0], [.int .u64], [.int .u64]⟩,
  some ⟨1, 8, .int .u64, [.int .u64 0], [.int .u64], [.int .u64]⟩,
  some ⟨5, 48, .struct [(0, 9), (1, 3), (2, 3), (3, 3), (4, 38)], [.str [], .int .i64 0, .int .i64 0, .int .i64 0, .int .u64 0], [.str, .int .i64, .int .i64, .int .i64, .int .u64], [.str, .int .i64, .int .i64, .int .i64, .int .u64]⟩,
  some ⟨5, 48, .struct [(0, 9), (1, 3), (2, 3), (3, 3), (4, 38)], [.str [], .int .i64 0, .int .i64 0, .int .i64 0, .int .u64 0], [.str, .int .i64, .int .i64, .int .i64, .int .u64], [.str, .int .i64, .int .i64, .int .i64, .int .u64]⟩,
  none,
  none,
  some ⟨3, 40, .struct [(0, 3), (1, 28), (2, 22)], [.int .i64 0, .int .i64 0, .nils], [.int .i64, .int .i64, .bsl], []⟩,
  some ⟨3, 40, .struct [(0, 3), (1, 28), (2, 22)], [.int .i64 0, .int .i64 0, .nils], [.int .i64, .int .i64, .bsl], []⟩,
  none,
  some ⟨10, 128, .struct [(0, 9), (1, 3), (2, 38), (3, 3), (4, 3), (5, 3), (6, 32), (9, 22)], [.str [], .int .i64 0, .int .u64 0, .int .i64 0, .int .i64 0, .int .i64 0, .str [], .str [], .str [], .nils], [.str, .int .i64, .int .u64, .int .i64, .int .i64, .int .i64, .str, .str, .str, .bsl], []⟩,
  some ⟨10, 128, .struct [(0, 9), (1, 3), (2, 38), (3, 3), (4, 3), (5, 3), (6, 32), (9, 22)], [.str [], .int .i64 0, .int .u64 0, .int .i64 0, .int .i64 0, .int .i64 0, .str [], .str [], .str [], .nils], [.str, .int .i64, .int .u64, .int .i64, .int .i64, .int .i64, .str, .str, .str, .bsl], []⟩,
  none,
  none,
  some ⟨1, 24, .slice 22 false, [.nils], [.sl 1], []⟩,
  none,
  none,
  none,
  none,
  none,
  none,
  none,
  none,
  none,
  none,
  none,
  none,
  none,
  none,
  none,
  none,
  none,
  none,
  none,
  none,
  none,
  none,
  none,
  none,
  none,
  some ⟨1, 24, .slice 9 false, [.nils], [.sl 1], []⟩,
  none,
  some ⟨1, 8, .int .u64, [.int .u64 0], [.int .u64], [.int .u64]⟩,
  none,
  none,
  some ⟨3, 40, .struct [(0, 22), (1, 3), (2, 4)], [.nils, .int .i64 0, .bool false], [.bsl, .int .i64, .bool], []⟩,
  some ⟨3, 40, .struct [(0, 22), (1, 3), (2, 4)], [.nils, .int .i64 0, .bool false], [.bsl, .int .i64, .bool], []⟩,
  none,
  none,
  none,
  none,
  none,
  some ⟨1, 8, .ptr 90, [.nilp], [.ptr], []⟩,
  some ⟨4, 40, .struct [(0, 22), (1, 3), (2, 4), (3, 4)], [.nils, .int .i64 0, .bool false, .bool false], [.bsl, .int .i64, .bool, .bool], []⟩,
  some ⟨4, 40, .struct [(0, 22), (1, 3), (2, 4), (3, 4)], [.nils, .int .i64 0, .bool false, .bool false], [.bsl, .int .i64, .bool, .bool], []⟩,
  none,
  none,
  none,
  none,
  none,
  none,
  none,
  none,
  none,
  some ⟨1, 24, .slice 32 false, [.nils], [.sl 3], []⟩,
  none,
  some ⟨1, 24, .slice 3 false, [.nils], [.sl 1], []⟩,
  none,
  none,
  none,
  some ⟨1, 8, .ptr 82, [.nilp], [.ptr], []⟩,
  none,
  none,
  none,
  none,
  none,
  none,
  none,
  none,
  none,
  none,
  none,
  none,
  none,
  none,
  none,
  none,
  none,
  some ⟨1, 8, .ptr 9, [.nilp], [.ptr], []⟩,
  some ⟨1, 24, .slice 124 false, [.nils], [.sl 1], []⟩,
  none,
  none,
  some ⟨4, 4, .arr 4 5 true, [.u8 0, .u8 0, .u8 0, .u8 0], [.u8, .u8, .u8, .u8], []⟩,
  none,
  some ⟨4, 40, .struct [(0, 17), (1, 17), (2, 17), (3, 9)], [.nilp, .nilp, .nilp, .str []], [.ptr, .ptr, .ptr, .str], []⟩,
  none,
  some ⟨0, 0, .arr 0 16 false, [], [], []⟩,
  none,
  none,
  some ⟨1, 1, .u8, [.u8 0], [.u8], [.u8]⟩,
  some ⟨1, 1, .u8, [.u8 0], [.u8], [.u8]⟩,
  none,
  some ⟨1, 8, .ptr 5, [.nilp], [.ptr], []⟩,
  some ⟨1, 4, .int .i32, [.int .i32 0], [.int .i32], [.int .i32]⟩,
  some ⟨1, 4, .int .i32, [.int .i32 0], [.int .i32], [.int .i32]⟩,
  none,
  none,
  none]

def keepT : List (Nat × Nat × List Keep) := [(3, 16, [.val 0 22, .val 3 26, .val 8 4, .val 9 22, .val 10 3]),
  (5, 2000001, [.cells 1 [.int .i64, .str, .str, .str, .int .i64, .str, .bsl, .str, .str, .bsl], .ptr 1 1 0, .val 13 4]),
  (5, 2000003, [.cells 1 [.int .i64, .str, .str, .str, .int .i64, .str, .bsl, .str, .str, .bsl], .ptr 1 1 0, .val 46 4]),
  (5, 2000005, [.cells 1 [.int .i64, .str, .str, .str, .int .i64, .str, .bsl, .str, .str, .bsl], .ptr 1 1 0, .val 56 4]),
  (5, 2000007, [.cells 1 [.int .i64, .str, .str, .str, .int .i64, .str, .bsl, .str, .str, .bsl], .ptr 1 1 0, .val 72 4]),
  (5, 2000009, [.cells 1 [.int .i64, .str, .str, .str, .int .i64, .str, .bsl, .str, .str, .bsl], .ptr 1 1 0, .val 113 4]),
  (12, 1000038, [.val 0 3]),
  (12, 1000042, [.val 0 3]),
  (41, 3, [.val 0 38, .rowB 3 5 false, .val 4 3]),
  (42, 2, [.rowB 3 5 false]),
  (52, 5, [.val 1 102, .val 4 4, .val 5 28, .val 6 3, .val 7 4, .val 9 3]),
  (63, 5, [.val 0 22, .val 4 38, .val 5 3]),
  (68, 3, [.val 0 38, .rowB 3 5 false, .val 7 3, .val 8 3]),
  (78, 2, [.val 0 9, .val 1 9, .val 4 4, .val 5 3]),
  (78, 7, [.val 0 9, .val 1 9, .val 4 4, .val 5 3, .val 6 3]),
  (79, 3, [.val 1 3, .val 2 3, .val 3 4, .rowB 9 5 false, .val 10 3]),
  (82, 2, [.val 0 3, .val 4 4, .val 7 102, .val 8 3, .val 9 3]),
  (87, 4, [.val 0 22, .val 1 3, .cells 4 [.str, .str, .str], .ptr 4 4 0, .val 5 3, .val 6 28, .cells 7 [.str, .str, .str], .ptr 7 7 0, .psl 14 7 [0, 1, 2], .val 15 3, .val 16 3]),
  (92, 4, [.val 0 22, .val 1 3, .val 4 9, .val 5 3, .val 6 28, .val 7 3]),
  (96, 5, [.val 4 38, .val 10 22, .val 11 3, .val 12 3]),
  (103, 3, [.val 0 22, .val 1 3, .val 2 3, .val 3 4, .barr 9 false, .ptr 9 9 0, .val 12 3, .val 13 3]),
  (104, 3, [.val 0 50, .val 3 3, .val 9 50, .val 10 3, .val 11 3]),
  (104, 11, [.rowB 6 5 false, .val 25 50, .val 26 3, .val 27 3]),
  (111, 6, [.val 0 22, .val 1 3, .val 2 3, .val 3 4, .val 12 3, .val 22 3, .val 23 3]),
  (115, 6, [.val 2 3, .val 3 4, .val 11 22, .val 12 3, .val 14 3, .val 15 3]),
  (118, 2, [.val 0 9, .val 1 9, .val 4 4, .val 7 3, .val 8 3])]

def ownT : List Nat := [79, 117, 33, 37, 40, 104, 103, 67, 69, 109]

def rtsT : List (Nat × List Nat) := [(12, [22]), (17, [4]), (22, [4]), (23, [4]), (27, [4]), (32, [4]), (34, [22]), (36, [22]), (41, [22]), (42, [22]), (43, [38]), (44, [38]), (51, [4]), (59, [4]), (65, [4]), (68, [22]), (78, [4]), (79, [22]), (80, [38]), (82, [4]), (84, [4]), (89, [3, 4, 28]), (91, []), (92, [9, 3, 28]), (93, [22, 3, 28]), (99, [4]), (100, [4]), (108, [4]), (110, [76]), (112, [28]), (114, [22]), (117, [22]), (119, [3]), (120, [4]), (121, [4]), (124, [3]), (8, [40]), (29, [4]), (30, [4]), (31, [4]), (33, [22]), (35, [22]), (37, [22]), (39, [4]), (40, [22]), (52, [4, 28]), (55, [9]), (56, [22]), (74, [22]), (77, [9]), (81, [3, 4, 28]), (86, [22, 3, 28]), (104, [22]), (111, [3, 3, 28]), (113, [3]), (115, [3, 3, 28]), (116, [3, 3, 4]), (123, [3]), (7, [22, 28]), (9, [22, 28]), (26, [32]), (28, [4]), (38, [32]), (45, [4, 28]), (48, [22]), (54, [32]), (63, [38, 4]), (72, [22]), (75, [22]), (83, [3, 3, 28]), (85, [9, 3, 28]), (88, [3, 3, 28]), (90, [3, 3, 28]), (94, [3, 3, 28]), (95, [3, 3, 28]), (98, [3, 3, 28]), (101, [4]), (103, [22]), (122, [3]), (5, [22, 28]), (6, [34]), (10, [22, 28]), (11, [47]), (46, [3]), (47, [9]), (50, [3]), (53, [3]), (57, [3]), (58, [3]), (62, [3]), (67, [22]), (69, [22]), (70, [22]), (96, [38, 4]), (97, [28]), (109, [22]), (118, [4]), (14, [34, 28]), (16, [40, 28]), (19, [44, 28]), (21, [47, 28]), (60, [38]), (61, [22, 28]), (71, [22]), (76, [22]), (106, [4]), (107, [4]), (15, [40, 28]), (64, [22, 28]), (105, [4]), (18, [44, 28]), (102, [4]), (66, [28]), (73, [28]), (87, [32, 3, 28]), (24, [22, 28]), (25, [22, 28]), (49, [32]), (13, [34, 28]), (20, [47, 28]), (4, [4]), (3, [4])]

/-- kerbsuite/kerbsuitedata.Spoil -/
def sp12 : Abs.Spec := fun xs bl => match xs, bl with
  | [.bs b, .int .u16 how], [] => chk (decide (b.length ≤ 1000000) && decide (0 ≤ how) && decide (how ≤ 65535)) (some (.bs (Kerb.spoil b how), []))
  | _, _ => none

/-- kerbsuite/kerbsuiteref22.SameRequest -/
def sp17 : Abs.Spec := fun xs bl => match xs, bl with
  | [.agg [.int .i64 op, .str ux, .str uy, .str uz, .int .i64 kv, .str rl, .bs tk, .str sv, .str ins, .bs bx], .agg [.int .i64 op2, .str ux2, .str uy2, .str uz2, .int .i64 kv2, .str rl2, .bs tk2, .str sv2, .str ins2, .bs bx2]], [] => some (.bool (op == op2 && (ux == ux2 && (uy == uy2 && uz == uz2)) && kv == kv2 && rl == rl2 && tk == tk2 && sv == sv2 && ins == ins2 && bx == bx2), [])
  | _, _ => none

/-- kerbsuite/kerbsuiteref22.SameReply -/
def sp22 : Abs.Spec := fun xs bl => match xs, bl with
  | [.agg [.int .i64 op, .int .i64 cd, .bs bx], .agg [.int .i64 op2, .int .i64 cd2, .bs bx2]], [] => some (.bool (op == op2 && cd == cd2 && bx == bx2), [])
  | _, _ => none

/-- kerbsuite/kerbsuiteref22.SameAnswer -/
def sp23 : Abs.Spec := fun xs bl => match xs, bl with
  | [.agg [.str lb, .int .i64 t, .int .u64 k, .int .i64 st, .int .i64 en, .int .i64 kv, .str x, .str y, .str z, .bs tk], .agg [.str lb2, .int .i64 t2, .int .u64 k2, .int .i64 st2, .int .i64 en2, .int .i64 kv2, .str x2, .str y2, .str z2, .bs tk2]], [] => some (.bool (lb == lb2 && t == t2 && k == k2 && st == st2 && en == en2 && kv == kv2 && (x == x2 && (y == y2 && z == z2)) && tk == tk2), [])
  | _, _ => none

/-- kerbsuite/kerbsuiteref22.user -/
def sp27 : Abs.Spec := fun xs bl => match xs, bl with
  | [.int .i64 n], [] => some (.bool (n == 1 || n == 3), [])
  | _, _ => none

/-- kerbsuite/kerbsuiteref22.within -/
def sp32 : Abs.Spec := fun xs bl => match xs, bl with
  | [.int .i64 n, .int .i64 m], [] => some (.bool (Kerb.within n m), [])
  | _, _ => none

/-- kerbsuite/kerbsuiteref8.Put -/
def sp34 : Abs.Spec := fun xs bl => match xs, bl with
  | [.int .i64 k, .bool little], [] => some (.bs (Kerb.header k little), [])
  | _, _ => none

/-- kerbsuite/kerbsuiteref5.PutText -/
def sp36 : Abs.Spec := fun xs bl => match xs, bl with
  | [.bs b, .str s], [] => chk (decide (b.length + s.length ≤ 70368744177664)) (some (.bs (Kerb.putText b s), []))
  | _, _ => none

/-- kerbsuite/kerbsuiteref3.Bytes -/
def sp41 : Abs.Spec := fun xs bl => match xs, bl with
  | [.int .u64 k], [] => chk (decide (0 ≤ k) && decide (k < 18446744073709551616)) (some (.bs (Kerb.keyBytes k), []))
  | _, _ => none

/-- kerbsuite/kerbsuiteref5.Pad -/
def sp42 : Abs.Spec := fun xs bl => match xs, bl with
  | [.bs b], [] => chk (decide (b.length ≤ 70368744177664)) (some (.bs (Kerb.pad b), []))
  | _, _ => none

/-- kerbsuite/kerbsuitedata.Long -/
def sp43 : Abs.Spec := fun xs bl => match xs, bl with
  | [.int .i64 n], [] => chk (decide (0 ≤ n) && decide (n ≤ 1000)) (some (.int .u64 (Kerb.long n), []))
  | _, _ => none

/-- kerbsuite/kerbsuitedata.Session -/
def sp44 : Abs.Spec := fun xs bl => match xs, bl with
  | [.int .i64 n], [] => chk (decide (0 ≤ n) && decide (n ≤ 1000)) (some (.int .u64 (Kerb.session n), []))
  | _, _ => none

/-- bytes.Equal -/
def sp51 : Abs.Spec := fun xs bl => match xs, bl with
  | [.bs a, .bs b], [] => some (.bool (a == b), [])
  | _, _ => none

/-- kerbsuite/kamessage.timed -/
def sp59 : Abs.Spec := fun xs bl => match xs, bl with
  | [.str l], [] => some (.bool (Kerb.timed l), [])
  | _, _ => none

/-- kerbsuite/kamessage.ticketed -/
def sp65 : Abs.Spec := fun xs bl => match xs, bl with
  | [.str l], [] => some (.bool (Kerb.ticketed l), [])
  | _, _ => none

/-- kerbsuite/key.Bytes -/
def sp68 : Abs.Spec := fun xs bl => match xs, bl with
  | [.int .u64 k], [] => chk (decide (0 ≤ k) && decide (k < 18446744073709551616)) (some (.bs (Kerb.keyBytes k), []))
  | _, _ => none

/-- kerbsuite/kerbsuiteref1.text -/
def sp78 : Abs.Spec := fun xs bl => match xs, bl with
  | [.str s, .str bad], [] => chk (decide (s.length ≤ 4611686018427387904) && decide (bad.length ≤ 100)) (some (.bool (Kerb.printable s bad && decide (s.length ≤ 39)), []))
  | _, _ => none

/-- kerbsuite/kerbsuiteref5.put -/
def sp79 : Abs.Spec := fun xs bl => match xs, bl with
  | [.bs b, .int .i64 n, .int .i64 k, .bool little], [] => chk (decide (k = 1 ∨ k = 2 ∨ k = 4) && decide (b.length ≤ 70368744177664)) (some (.ownB (b ++ Kerb.putN n k.toNat little), []))
  | _, _ => none

/-- kerbsuite/kerbsuiteref3.Make -/
def sp80 : Abs.Spec := fun xs bl => match xs, bl with
  | [.int .i64 c, .int .i64 n], [] => some (.int .u64 (cond (Kerb.isClass c && Kerb.isSerial n) (c * 72057594037927936 + n) 0), [])
  | _, _ => none

/-- kerbsuite/header.among -/
def sp82 : Abs.Spec := fun xs bl => match xs, bl with
  | [.int .i64 k, .sl 1 els], [] => chk (allInts els && decide (els.length ≤ 1000)) (some (.bool ((intsIn els).contains k), []))
  | _, _ => none

/-- (*kerbsuite/kamessage.reader).take -/
def sp84 : Abs.Spec := fun xs bl => match xs, bl with
  | [.ptr 0 0, .int .i64 nx, .int .i64 e], [(0, [.bs B, .int .i64 at_, .bool bad])] => some (.bool (!(bad || !(e == 0))), [[.bs B, .int .i64 (cond (bad || !(e == 0)) at_ nx), .bool (bad || !(e == 0))]])
  | _, _ => none

/-- kerbsuite/kerbsuiteref8.Read -/
def sp89 : Abs.Spec := fun xs bl => match xs, bl with
  | [.bs b], [] => some (.tup [.int .i64 (Kerb.readHead b).kind, .bool (Kerb.readHead b).little, .int .i64 (Kerb.readHead b).err], [])
  | _, _ => none

/-- (*kerbsuite/kerbsuiteref5.Reader).move -/
def sp91 : Abs.Spec := fun xs bl => match xs, bl with
  | [.ptr 0 0, .int .i64 nx, .int .i64 e], [(0, [.bs B, .int .i64 at_, .bool li, .bool bad])] => some (.tup [], [[.bs B, .int .i64 (cond (bad || !(e == 0)) at_ nx), .bool li, .bool (bad || !(e == 0))]])
  | _, _ => none

/-- kerbsuite/kerbsuiteref5.Text -/
def sp92 : Abs.Spec := fun xs bl => match xs, bl with
  | [.bs b, .int .i64 pos], [] => chk (decide (b.length ≤ 140737488355328)) (some (.tup [.str (Kerb.text b pos).val, .int .i64 (Kerb.text b pos).next, .int .i64 (Kerb.text b pos).err], []))
  | _, _ => none

/-- kerbsuite/kerbsuiteref5.Bytes -/
def sp93 : Abs.Spec := fun xs bl => match xs, bl with
  | [.bs b, .int .i64 pos, .int .i64 n], [] => chk (decide (b.length ≤ 140737488355328)) (some (.tup [.bs (Kerb.bytes b pos n).val, .int .i64 (Kerb.bytes b pos n).next, .int .i64 (Kerb.bytes b pos n).err], []))
  | _, _ => none

/-- kerbsuite/kamessage.operation -/
def sp99 : Abs.Spec := fun xs bl => match xs, bl with
  | [.int .i64 n], [] => some (.bool (Kerb.kaOp n), [])
  | _, _ => none

/-- kerbsuite/kamessage.upTo -/
def sp100 : Abs.Spec := fun xs bl => match xs, bl with
  | [.int .i64 n, .int .i64 m], [] => some (.bool (Kerb.within n m), [])
  | _, _ => none

/-- kerbsuite/header.isKind -/
def sp108 : Abs.Spec := fun xs bl => match xs, bl with
  | [.int .i64 k], [] => some (.bool (Kerb.isKind k), [])
  | _, _ => none

/-- kerbsuite/kerbsuitedata.Realms -/
def sp110 : Abs.Spec := fun xs bl => match xs, bl with
  | [], [] => some (.sl 1 [.str [65, 84, 72], .str [66, 79, 83], .str [67, 65, 77]], [])
  | _, _ => none

/-- kerbsuite/field.room -/
def sp112 : Abs.Spec := fun xs bl => match xs, bl with
  | [.bs b, .int .i64 pos, .int .i64 n], [] => chk (decide (b.length ≤ 4611686018427387904)) (some (.int .i64 (Kerb.room b pos n), []))
  | _, _ => none

/-- bytes.Clone -/
def sp114 : Abs.Spec := fun xs bl => match xs, bl with
  | [.bs b], [] => chk (decide (b.length ≤ 140737488355328)) (some (.bs b, []))
  | _, _ => none

/-- slices.Grow[[]byte,byte] -/
def sp117 : Abs.Spec := fun xs bl => match xs, bl with
  | [.nils, .int .i64 n], [] => chk (decide (0 ≤ n) && decide (n ≤ 140737488355328)) (some (.ownB [], []))
  | _, _ => none

/-- internal/bytealg.IndexByte -/
def sp119 : Abs.Spec := fun xs bl => match xs, bl with
  | [.bs s, .u8 c], [] => some (.int .i64 (Kerb.indexOf c s), [])
  | _, _ => none

/-- kerbsuite/key.isClass -/
def sp120 : Abs.Spec := fun xs bl => match xs, bl with
  | [.int .i64 k], [] => some (.bool (Kerb.isClass k), [])
  | _, _ => none

/-- kerbsuite/key.isSerial -/
def sp121 : Abs.Spec := fun xs bl => match xs, bl with
  | [.int .i64 k], [] => some (.bool (Kerb.isSerial k), [])
  | _, _ => none

/-- internal/bytealg.IndexByteString -/
def sp124 : Abs.Spec := fun xs bl => match xs, bl with
  | [.str s, .u8 c], [] => some (.int .i64 (Kerb.indexOf c s), [])
  | _, _ => none

/-- (kerbsuite/kerbsuitelaw22.Ask).secret -/
def sp8 : Abs.Spec := fun xs bl => match xs, bl with
  | [.agg [.u8 ao, .u8 au, .u8 ak, .u8 as_, .u8 al, .int .u32 at_, .int .u32 ast, .int .u32 aen, .u8 aky, .bs atk, .bs abx, .u8 aex]], [] => chk (decide (0 ≤ at_) && decide (at_ ≤ 4294967295) && decide (0 ≤ ast) && decide (ast ≤ 4294967295) && decide (0 ≤ aen) && decide (aen ≤ 4294967295)) (some (.agg [.str ((Kerb.Ask.mk ao au ak as_ al at_ ast aen aky atk abx aex).secret).label, .int .i64 ((Kerb.Ask.mk ao au ak as_ al at_ ast aen aky atk abx aex).secret).time, .int .i64 ((Kerb.Ask.mk ao au ak as_ al at_ ast aen aky atk abx aex).secret).start, .int .i64 ((Kerb.Ask.mk ao au ak as_ al at_ ast aen aky atk abx aex).secret).stop, .int .u64 ((Kerb.Ask.mk ao au ak as_ al at_ ast aen aky atk abx aex).secret).new], []))
  | _, _ => none

/-- kerbsuite/kerbsuiteref1.ValidRealm -/
def sp29 : Abs.Spec := fun xs bl => match xs, bl with
  | [.str s], [] => chk (decide (s.length ≤ 4611686018427387904)) (some (.bool (Kerb.validRealm s), []))
  | _, _ => none

/-- kerbsuite/kerbsuiteref1.ValidName -/
def sp30 : Abs.Spec := fun xs bl => match xs, bl with
  | [.str s], [] => chk (decide (s.length ≤ 4611686018427387904)) (some (.bool (Kerb.validName s), []))
  | _, _ => none

/-- kerbsuite/kerbsuiteref1.ValidInstance -/
def sp31 : Abs.Spec := fun xs bl => match xs, bl with
  | [.str s], [] => chk (decide (s.length ≤ 4611686018427387904)) (some (.bool (Kerb.validInst s), []))
  | _, _ => none

/-- kerbsuite/kerbsuiteref5.PutOctet -/
def sp33 : Abs.Spec := fun xs bl => match xs, bl with
  | [.bs b, .int .i64 n], [] => chk (decide (b.length ≤ 70368744177664)) (some (.ownB (b ++ Kerb.putN n 1 false), []))
  | _, _ => none

/-- kerbsuite/kerbsuiteref5.PutPrincipal -/
def sp35 : Abs.Spec := fun xs bl => match xs, bl with
  | [.bs b, .agg [.str x, .str y, .str z]], [] => chk (decide (b.length + x.length + y.length + z.length ≤ 70368744170000)) (some (.bs (Kerb.putPrin b ⟨x, y, z⟩), []))
  | _, _ => none

/-- kerbsuite/kerbsuiteref5.PutShort -/
def sp37 : Abs.Spec := fun xs bl => match xs, bl with
  | [.bs b, .int .i64 n, .bool little], [] => chk (decide (b.length ≤ 70368744177664)) (some (.ownB (b ++ Kerb.putN n 2 little), []))
  | _, _ => none

/-- kerbsuite/kerbsuiteref3.Valid -/
def sp39 : Abs.Spec := fun xs bl => match xs, bl with
  | [.int .u64 k], [] => chk (decide (0 ≤ k) && decide (k < 18446744073709551616)) (some (.bool (Kerb.keyValid k), []))
  | _, _ => none

/-- kerbsuite/kerbsuiteref5.PutNumber -/
def sp40 : Abs.Spec := fun xs bl => match xs, bl with
  | [.bs b, .int .i64 n, .bool little], [] => chk (decide (b.length ≤ 70368744177664)) (some (.ownB (b ++ Kerb.putN n 4 little), []))
  | _, _ => none

/-- kerbsuite/kerbsuiteref8.Is -/
def sp52 : Abs.Spec := fun xs bl => match xs, bl with
  | [.bs b, .sl 1 els], [] => chk (allInts els && decide (els.length ≤ 1000)) (some (.tup [.bool (Kerb.headIs b (intsIn els)).1, .int .i64 (Kerb.headIs b (intsIn els)).2], []))
  | _, _ => none

/-- (*kerbsuite/kerbsuiteref5.Reader).Text -/
def sp55 : Abs.Spec := fun xs bl => match xs, bl with
  | [.ptr 0 0], [(0, [.bs B, .int .i64 at_, .bool li, .bool bad])] => chk (decide (B.length ≤ 140737488355328)) (some (.str (Kerb.text B at_).val, [[.bs B, .int .i64 (cond (bad || !((Kerb.text B at_).err == 0)) at_ (Kerb.text B at_).next), .bool li, .bool (bad || !((Kerb.text B at_).err == 0))]]))
  | _, _ => none

/-- (*kerbsuite/kerbsuiteref5.Reader).Bytes -/
def sp56 : Abs.Spec := fun xs bl => match xs, bl with
  | [.ptr 0 0, .int .i64 n], [(0, [.bs B, .int .i64 at_, .bool li, .bool bad])] => chk (decide (B.length ≤ 140737488355328)) (some (.bs (Kerb.bytes B at_ n).val, [[.bs B, .int .i64 (cond (bad || !((Kerb.bytes B at_ n).err == 0)) at_ (Kerb.bytes B at_ n).next), .bool li, .bool (bad || !((Kerb.bytes B at_ n).err == 0))]]))
  | _, _ => none

/-- kerbsuite/header.Put -/
def sp74 : Abs.Spec := fun xs bl => match xs, bl with
  | [.int .i64 k, .bool little], [] => some (.bs (Kerb.header k little), [])
  | _, _ => none

/-- kerbsuite/kerbsuitedata.Realm -/
def sp77 : Abs.Spec := fun xs bl => match xs, bl with
  | [.int .i64 n], [] => chk (decide (0 ≤ n)) (some (.str (Kerb.realm n), []))
  | _, _ => none

/-- kerbsuite/header.Read -/
def sp81 : Abs.Spec := fun xs bl => match xs, bl with
  | [.bs b], [] => some (.tup [.int .i64 (Kerb.readHead b).kind, .bool (Kerb.readHead b).little, .int .i64 (Kerb.readHead b).err], [])
  | _, _ => none

/-- kerbsuite/field.Bytes -/
def sp86 : Abs.Spec := fun xs bl => match xs, bl with
  | [.bs b, .int .i64 pos, .int .i64 n], [] => chk (decide (b.length ≤ 140737488355328)) (some (.tup [.bs (Kerb.bytes b pos n).val, .int .i64 (Kerb.bytes b pos n).next, .int .i64 (Kerb.bytes b pos n).err], []))
  | _, _ => none

/-- slices.Concat[[]byte,byte] -/
def sp104 : Abs.Spec := fun xs bl => match xs, bl with
  | [.sl 1 els], [] => chk (allB els && decide ((catB els).length ≤ 140737488355328) && decide (els.length ≤ 1000)) (some (.ownB (catB els), []))
  | _, _ => none

/-- kerbsuite/field.get -/
def sp111 : Abs.Spec := fun xs bl => match xs, bl with
  | [.bs b, .int .i64 pos, .int .i64 k, .bool little], [] => chk (decide (b.length ≤ 4611686018427387904) && decide (0 ≤ k) && decide (k ≤ 4)) (some (.tup [.int .i64 (Kerb.get b pos k little).val, .int .i64 (Kerb.get b pos k little).next, .int .i64 (Kerb.get b pos k little).err], []))
  | _, _ => none

/-- bytes.IndexByte -/
def sp113 : Abs.Spec := fun xs bl => match xs, bl with
  | [.bs s, .u8 c], [] => some (.int .i64 (Kerb.indexOf c s), [])
  | _, _ => none

/-- kerbsuite/kerbsuiteref5.get -/
def sp115 : Abs.Spec := fun xs bl => match xs, bl with
  | [.bs b, .int .i64 pos, .int .i64 k, .bool little], [] => chk (decide (b.length ≤ 140737488355328) && decide (0 ≤ k) && decide (k ≤ 4)) (some (.tup [.int .i64 (Kerb.get b pos k little).val, .int .i64 (Kerb.get b pos k little).next, .int .i64 (Kerb.get b pos k little).err], []))
  | _, _ => none

/-- kerbsuite/key.split -/
def sp116 : Abs.Spec := fun xs bl => match xs, bl with
  | [.int .u64 k], [] => chk (decide (0 ≤ k) && decide (k < 18446744073709551616)) (some (.tup [.int .i64 (cond (Kerb.keyValid k) (Kerb.keyClass k) 0), .int .i64 (cond (Kerb.keyValid k) (Kerb.keySerial k) 0), .bool (Kerb.keyValid k)], []))
  | _, _ => none

/-- internal/stringslite.IndexByte -/
def sp123 : Abs.Spec := fun xs bl => match xs, bl with
  | [.str s, .u8 c], [] => some (.int .i64 (Kerb.indexOf c s), [])
  | _, _ => none

/-- kerbsuite/kerbsuiteref22.EncodeSecret -/
def sp7 : Abs.Spec := fun xs bl => match xs, bl with
  | [.agg [.str lb, .int .i64 t, .int .i64 st, .int .i64 en, .int .u64 k]], [] => chk (decide (0 ≤ k) && decide (k < 18446744073709551616)) (some (.tup [.bs (Kerb.encodeKaSecret ⟨lb, t, st, en, k⟩).val, .int .i64 (Kerb.encodeKaSecret ⟨lb, t, st, en, k⟩).err], []))
  | _, _ => none

/-- kerbsuite/kerbsuiteref22.EncodeReply -/
def sp9 : Abs.Spec := fun xs bl => match xs, bl with
  | [.agg [.int .i64 op, .int .i64 cd, .bs bx]], [] => some (.tup [.bs (Kerb.encodeKaReply ⟨op, cd, bx⟩).val, .int .i64 (Kerb.encodeKaReply ⟨op, cd, bx⟩).err], [])
  | _, _ => none

/-- kerbsuite/kerbsuitedata.User -/
def sp26 : Abs.Spec := fun xs bl => match xs, bl with
  | [.int .i64 n], [] => chk (decide (0 ≤ n) && decide (n ≤ 4611686018427387904)) (some (.agg [.str (Kerb.user n).name, .str (Kerb.user n).inst, .str (Kerb.user n).realm], []))
  | _, _ => none

/-- kerbsuite/kerbsuiteref1.Valid -/
def sp28 : Abs.Spec := fun xs bl => match xs, bl with
  | [.agg [.str a, .str b, .str c]], [] => chk (decide (a.length ≤ 4611686018427387904) && decide (b.length ≤ 4611686018427387904) && decide (c.length ≤ 4611686018427387904)) (some (.bool (Kerb.Prin.valid ⟨a, b, c⟩), []))
  | _, _ => none

/-- kerbsuite/kerbsuitedata.Service -/
def sp38 : Abs.Spec := fun xs bl => match xs, bl with
  | [.int .i64 n], [] => chk (decide (0 ≤ n) && decide (n ≤ 4611686018427387904)) (some (.agg [.str (Kerb.service n).name, .str (Kerb.service n).inst, .str (Kerb.service n).realm], []))
  | _, _ => none

/-- kerbsuite/header.Is -/
def sp45 : Abs.Spec := fun xs bl => match xs, bl with
  | [.bs b, .sl 1 els], [] => chk (allInts els && decide (els.length ≤ 1000)) (some (.tup [.bool (Kerb.headIs b (intsIn els)).1, .int .i64 (Kerb.headIs b (intsIn els)).2], []))
  | _, _ => none

/-- (*kerbsuite/kamessage.reader).bytes -/
def sp48 : Abs.Spec := fun xs bl => match xs, bl with
  | [.ptr 0 0, .int .i64 n], [(0, [.bs B, .int .i64 at_, .bool bad])] => chk (decide (B.length ≤ 140737488355328)) (some (.bs (Kerb.pBytes B n at_ bad).val, [[.bs B, .int .i64 (Kerb.pBytes B n at_ bad).pos, .bool (Kerb.pBytes B n at_ bad).bad]]))
  | _, _ => none

/-- (*kerbsuite/kerbsuiteref5.Reader).Principal -/
def sp54 : Abs.Spec := fun xs bl => match xs, bl with
  | [.ptr 0 0], [(0, [.bs B, .int .i64 at_, .bool li, .bool bad])] => chk (decide (B.length ≤ 140737488355328)) (some (.agg [.str (Kerb.rdPrin B at_ bad).p.name, .str (Kerb.rdPrin B at_ bad).p.inst, .str (Kerb.rdPrin B at_ bad).p.realm], [[.bs B, .int .i64 (Kerb.rdPrin B at_ bad).pos, .bool li, .bool (Kerb.rdPrin B at_ bad).bad]]))
  | _, _ => none

/-- kerbsuite/kerbsuiteref3.Read -/
def sp63 : Abs.Spec := fun xs bl => match xs, bl with
  | [.bs b], [] => chk (decide (b.length ≤ 4611686018427387904)) (some (.tup [.int .u64 (Kerb.keyRead b).1, .bool (Kerb.keyRead b).2], []))
  | _, _ => none

/-- kerbsuite/field.Pad -/
def sp72 : Abs.Spec := fun xs bl => match xs, bl with
  | [.bs b], [] => chk (decide (b.length ≤ 70368744177664)) (some (.bs (Kerb.pad b), []))
  | _, _ => none

/-- kerbsuite/field.PutText -/
def sp75 : Abs.Spec := fun xs bl => match xs, bl with
  | [.bs b, .str s], [] => chk (decide (b.length + s.length ≤ 70368744177664)) (some (.bs (Kerb.putText b s), []))
  | _, _ => none

/-- kerbsuite/field.Octet -/
def sp83 : Abs.Spec := fun xs bl => match xs, bl with
  | [.bs b, .int .i64 pos], [] => chk (decide (b.length ≤ 4611686018427387904)) (some (.tup [.int .i64 (Kerb.get b pos 1 false).val, .int .i64 (Kerb.get b pos 1 false).next, .int .i64 (Kerb.get b pos 1 false).err], []))
  | _, _ => none

/-- kerbsuite/field.Text -/
def sp85 : Abs.Spec := fun xs bl => match xs, bl with
  | [.bs b, .int .i64 pos], [] => chk (decide (b.length ≤ 4611686018427387904)) (some (.tup [.str (Kerb.text b pos).val, .int .i64 (Kerb.text b pos).next, .int .i64 (Kerb.text b pos).err], []))
  | _, _ => none

/-- kerbsuite/field.Short -/
def sp88 : Abs.Spec := fun xs bl => match xs, bl with
  | [.bs b, .int .i64 pos, .bool little], [] => chk (decide (b.length ≤ 4611686018427387904)) (some (.tup [.int .i64 (Kerb.get b pos 2 little).val, .int .i64 (Kerb.get b pos 2 little).next, .int .i64 (Kerb.get b pos 2 little).err], []))
  | _, _ => none

/-- kerbsuite/kerbsuiteref5.Octet -/
def sp90 : Abs.Spec := fun xs bl => match xs, bl with
  | [.bs b, .int .i64 pos], [] => chk (decide (b.length ≤ 140737488355328)) (some (.tup [.int .i64 (Kerb.get b pos 1 false).val, .int .i64 (Kerb.get b pos 1 false).next, .int .i64 (Kerb.get b pos 1 false).err], []))
  | _, _ => none

/-- kerbsuite/kerbsuiteref5.Short -/
def sp94 : Abs.Spec := fun xs bl => match xs, bl with
  | [.bs b, .int .i64 pos, .bool little], [] => chk (decide (b.length ≤ 140737488355328)) (some (.tup [.int .i64 (Kerb.get b pos 2 little).val, .int .i64 (Kerb.get b pos 2 little).next, .int .i64 (Kerb.get b pos 2 little).err], []))
  | _, _ => none

/-- kerbsuite/field.Number -/
def sp95 : Abs.Spec := fun xs bl => match xs, bl with
  | [.bs b, .int .i64 pos, .bool little], [] => chk (decide (b.length ≤ 4611686018427387904)) (some (.tup [.int .i64 (Kerb.get b pos 4 little).val, .int .i64 (Kerb.get b pos 4 little).next, .int .i64 (Kerb.get b pos 4 little).err], []))
  | _, _ => none

/-- kerbsuite/kerbsuiteref5.Number -/
def sp98 : Abs.Spec := fun xs bl => match xs, bl with
  | [.bs b, .int .i64 pos, .bool little], [] => chk (decide (b.length ≤ 140737488355328)) (some (.tup [.int .i64 (Kerb.get b pos 4 little).val, .int .i64 (Kerb.get b pos 4 little).next, .int .i64 (Kerb.get b pos 4 little).err], []))
  | _, _ => none

/-- kerbsuite/key.Valid -/
def sp101 : Abs.Spec := fun xs bl => match xs, bl with
  | [.int .u64 k], [] => chk (decide (0 ≤ k) && decide (k < 18446744073709551616)) (some (.bool (Kerb.keyValid k), []))
  | _, _ => none

/-- kerbsuite/field.put -/
def sp103 : Abs.Spec := fun xs bl => match xs, bl with
  | [.bs b, .int .i64 n, .int .i64 k, .bool little], [] => chk (decide (k = 1 ∨ k = 2 ∨ k = 4) && decide (b.length ≤ 70368744177664)) (some (.ownB (b ++ Kerb.putN n k.toNat little), []))
  | _, _ => none

/-- strings.IndexByte -/
def sp122 : Abs.Spec := fun xs bl => match xs, bl with
  | [.str s, .u8 c], [] => some (.int .i64 (Kerb.indexOf c s), [])
  | _, _ => none

/-- kerbsuite/kerbsuiteref22.EncodeRequest -/
def sp5 : Abs.Spec := fun xs bl => match xs, bl with
  | [.agg [.int .i64 op, .str ux, .str uy, .str uz, .int .i64 kv, .str rl, .bs tk, .str sv, .str ins, .bs bx]], [] => chk (decide (ux.length ≤ 4611686018427387904) && decide (uy.length ≤ 4611686018427387904) && decide (uz.length ≤ 4611686018427387904) && decide (rl.length ≤ 4611686018427387904) && decide (sv.length ≤ 4611686018427387904) && decide (ins.length ≤ 4611686018427387904)) (some (.tup [.bs (Kerb.encodeKaRequest ⟨op, ⟨ux, uy, uz⟩, kv, rl, tk, sv, ins, bx⟩).val, .int .i64 (Kerb.encodeKaRequest ⟨op, ⟨ux, uy, uz⟩, kv, rl, tk, sv, ins, bx⟩).err], []))
  | _, _ => none

/-- (kerbsuite/kerbsuitelaw22.Ask).request -/
def sp6 : Abs.Spec := fun xs bl => match xs, bl with
  | [.agg [.u8 ao, .u8 au, .u8 ak, .u8 as_, .u8 al, .int .u32 at_, .int .u32 ast, .int .u32 aen, .u8 aky, .bs atk, .bs abx, .u8 aex]], [] => some (.agg [.int .i64 ((Kerb.Ask.mk ao au ak as_ al at_ ast aen aky atk abx aex).request).op, .str ((Kerb.Ask.mk ao au ak as_ al at_ ast aen aky atk abx aex).request).user.name, .str ((Kerb.Ask.mk ao au ak as_ al at_ ast aen aky atk abx aex).request).user.inst, .str ((Kerb.Ask.mk ao au ak as_ al at_ ast aen aky atk abx aex).request).user.realm, .int .i64 ((Kerb.Ask.mk ao au ak as_ al at_ ast aen aky atk abx aex).request).kvno, .str ((Kerb.Ask.mk ao au ak as_ al at_ ast aen aky atk abx aex).request).realm, .bs ((Kerb.Ask.mk ao au ak as_ al at_ ast aen aky atk abx aex).request).ticket, .str ((Kerb.Ask.mk ao au ak as_ al at_ ast aen aky atk abx aex).request).service, .str ((Kerb.Ask.mk ao au ak as_ al at_ ast aen aky atk abx aex).request).inst, .bs ((Kerb.Ask.mk ao au ak as_ al at_ ast aen aky atk abx aex).request).box], [])
  | _, _ => none

/-- kerbsuite/kerbsuiteref22.EncodeAnswer -/
def sp10 : Abs.Spec := fun xs bl => match xs, bl with
  | [.agg [.str lb, .int .i64 t, .int .u64 k, .int .i64 st, .int .i64 en, .int .i64 kv, .str x, .str y, .str z, .bs tk]], [] => chk (decide (x.length ≤ 4611686018427387904) && decide (y.length ≤ 4611686018427387904) && decide (z.length ≤ 4611686018427387904) && decide (0 ≤ k) && decide (k < 18446744073709551616)) (some (.tup [.bs (Kerb.encodeKaAnswer ⟨lb, t, k, st, en, kv, ⟨x, y, z⟩, tk⟩).val, .int .i64 (Kerb.encodeKaAnswer ⟨lb, t, k, st, en, kv, ⟨x, y, z⟩, tk⟩).err], []))
  | _, _ => none

/-- (kerbsuite/kerbsuitelaw22.Ask).answer -/
def sp11 : Abs.Spec := fun xs bl => match xs, bl with
  | [.agg [.u8 ao, .u8 au, .u8 ak, .u8 as_, .u8 al, .int .u32 at_, .int .u32 ast, .int .u32 aen, .u8 aky, .bs atk, .bs abx, .u8 aex]], [] => chk (decide (0 ≤ at_) && decide (at_ ≤ 4294967295) && decide (0 ≤ ast) && decide (ast ≤ 4294967295) && decide (0 ≤ aen) && decide (aen ≤ 4294967295)) (some (.agg [.str ((Kerb.Ask.mk ao au ak as_ al at_ ast aen aky atk abx aex).answer).label, .int .i64 ((Kerb.Ask.mk ao au ak as_ al at_ ast aen aky atk abx aex).answer).time, .int .u64 ((Kerb.Ask.mk ao au ak as_ al at_ ast aen aky atk abx aex).answer).session, .int .i64 ((Kerb.Ask.mk ao au ak as_ al at_ ast aen aky atk abx aex).answer).start, .int .i64 ((Kerb.Ask.mk ao au ak as_ al at_ ast aen aky atk abx aex).answer).stop, .int .i64 ((Kerb.Ask.mk ao au ak as_ al at_ ast aen aky atk abx aex).answer).kvno, .str ((Kerb.Ask.mk ao au ak as_ al at_ ast aen aky atk abx aex).answer).service.name, .str ((Kerb.Ask.mk ao au ak as_ al at_ ast aen aky atk abx aex).answer).service.inst, .str ((Kerb.Ask.mk ao au ak as_ al at_ ast aen aky atk abx aex).answer).service.realm, .bs ((Kerb.Ask.mk ao au ak as_ al at_ ast aen aky atk abx aex).answer).ticket], []))
  | _, _ => none

/-- (*kerbsuite/kamessage.reader).octet -/
def sp46 : Abs.Spec := fun xs bl => match xs, bl with
  | [.ptr 0 0], [(0, [.bs B, .int .i64 at_, .bool bad])] => chk (decide (B.length ≤ 140737488355328)) (some (.int .i64 (Kerb.pGet B 1 at_ bad).val, [[.bs B, .int .i64 (Kerb.pGet B 1 at_ bad).pos, .bool (Kerb.pGet B 1 at_ bad).bad]]))
  | _, _ => none

/-- (*kerbsuite/kamessage.reader).name -/
def sp47 : Abs.Spec := fun xs bl => match xs, bl with
  | [.ptr 0 0], [(0, [.bs B, .int .i64 at_, .bool bad])] => chk (decide (B.length ≤ 140737488355328)) (some (.str (Kerb.pText B at_ bad).val, [[.bs B, .int .i64 (Kerb.pText B at_ bad).pos, .bool (Kerb.pText B at_ bad).bad]]))
  | _, _ => none

/-- (*kerbsuite/kamessage.reader).short -/
def sp50 : Abs.Spec := fun xs bl => match xs, bl with
  | [.ptr 0 0], [(0, [.bs B, .int .i64 at_, .bool bad])] => chk (decide (B.length ≤ 140737488355328)) (some (.int .i64 (Kerb.pGet B 2 at_ bad).val, [[.bs B, .int .i64 (Kerb.pGet B 2 at_ bad).pos, .bool (Kerb.pGet B 2 at_ bad).bad]]))
  | _, _ => none

/-- (*kerbsuite/kerbsuiteref5.Reader).Octet -/
def sp53 : Abs.Spec := fun xs bl => match xs, bl with
  | [.ptr 0 0], [(0, [.bs B, .int .i64 at_, .bool li, .bool bad])] => chk (decide (B.length ≤ 140737488355328)) (some (.int .i64 (Kerb.get B at_ 1 false).val, [[.bs B, .int .i64 (cond (bad || !((Kerb.get B at_ 1 false).err == 0)) at_ (Kerb.get B at_ 1 false).next), .bool li, .bool (bad || !((Kerb.get B at_ 1 false).err == 0))]]))
  | _, _ => none

/-- (*kerbsuite/kerbsuiteref5.Reader).Short -/
def sp57 : Abs.Spec := fun xs bl => match xs, bl with
  | [.ptr 0 0], [(0, [.bs B, .int .i64 at_, .bool li, .bool bad])] => chk (decide (B.length ≤ 140737488355328)) (some (.int .i64 (Kerb.get B at_ 2 li).val, [[.bs B, .int .i64 (cond (bad || !((Kerb.get B at_ 2 li).err == 0)) at_ (Kerb.get B at_ 2 li).next), .bool li, .bool (bad || !((Kerb.get B at_ 2 li).err == 0))]]))
  | _, _ => none

/-- (*kerbsuite/kamessage.reader).number -/
def sp58 : Abs.Spec := fun xs bl => match xs, bl with
  | [.ptr 0 0], [(0, [.bs B, .int .i64 at_, .bool bad])] => chk (decide (B.length ≤ 140737488355328)) (some (.int .i64 (Kerb.pGet B 4 at_ bad).val, [[.bs B, .int .i64 (Kerb.pGet B 4 at_ bad).pos, .bool (Kerb.pGet B 4 at_ bad).bad]]))
  | _, _ => none

/-- (*kerbsuite/kerbsuiteref5.Reader).Number -/
def sp62 : Abs.Spec := fun xs bl => match xs, bl with
  | [.ptr 0 0], [(0, [.bs B, .int .i64 at_, .bool li, .bool bad])] => chk (decide (B.length ≤ 140737488355328)) (some (.int .i64 (Kerb.get B at_ 4 li).val, [[.bs B, .int .i64 (cond (bad || !((Kerb.get B at_ 4 li).err == 0)) at_ (Kerb.get B at_ 4 li).next), .bool li, .bool (bad || !((Kerb.get B at_ 4 li).err == 0))]]))
  | _, _ => none

/-- kerbsuite/field.PutNumber -/
def sp67 : Abs.Spec := fun xs bl => match xs, bl with
  | [.bs b, .int .i64 n, .bool little], [] => chk (decide (b.length ≤ 70368744177664)) (some (.ownB (b ++ Kerb.putN n 4 little), []))
  | _, _ => none

/-- kerbsuite/field.PutOctet -/
def sp69 : Abs.Spec := fun xs bl => match xs, bl with
  | [.bs b, .int .i64 n], [] => chk (decide (b.length ≤ 70368744177664)) (some (.ownB (b ++ Kerb.putN n 1 false), []))
  | _, _ => none

/-- kerbsuite/field.PutPrincipal -/
def sp70 : Abs.Spec := fun xs bl => match xs, bl with
  | [.bs b, .agg [.str x, .str y, .str z]], [] => chk (decide (b.length + x.length + y.length + z.length ≤ 70368744170000)) (some (.bs (Kerb.putPrin b ⟨x, y, z⟩), []))
  | _, _ => none

/-- kerbsuite/key.Read -/
def sp96 : Abs.Spec := fun xs bl => match xs, bl with
  | [.bs b], [] => chk (decide (b.length ≤ 4611686018427387904)) (some (.tup [.int .u64 (Kerb.keyRead b).1, .bool (Kerb.keyRead b).2], []))
  | _, _ => none

/-- kerbsuite/kamessage.checkSecret -/
def sp97 : Abs.Spec := fun xs bl => match xs, bl with
  | [.agg [.str lb, .int .i64 t, .int .i64 st, .int .i64 en, .int .u64 k]], [] => chk (decide (0 ≤ k) && decide (k < 18446744073709551616)) (some (.int .i64 (Kerb.encodeKaSecret ⟨lb, t, st, en, k⟩).err, []))
  | _, _ => none

/-- kerbsuite/field.PutShort -/
def sp109 : Abs.Spec := fun xs bl => match xs, bl with
  | [.bs b, .int .i64 n, .bool little], [] => chk (decide (b.length ≤ 70368744177664)) (some (.ownB (b ++ Kerb.putN n 2 little), []))
  | _, _ => none

/-- kerbsuite/principal.printable -/
def sp118 : Abs.Spec := fun xs bl => match xs, bl with
  | [.str s, .str bad], [] => chk (decide (s.length ≤ 4611686018427387904)) (some (.bool (Kerb.printable s bad), []))
  | _, _ => none

/-- kerbsuite/kerbsuiteref22.DecodeRequest -/
def sp14 : Abs.Spec := fun xs bl => match xs, bl with
  | [.bs b], [] => chk (decide (b.length ≤ 140737488355328)) (some (.tup [.agg [.int .i64 ((Kerb.decodeKaRequest b).val).op, .str ((Kerb.decodeKaRequest b).val).user.name, .str ((Kerb.decodeKaRequest b).val).user.inst, .str ((Kerb.decodeKaRequest b).val).user.realm, .int .i64 ((Kerb.decodeKaRequest b).val).kvno, .str ((Kerb.decodeKaRequest b).val).realm, .bs ((Kerb.decodeKaRequest b).val).ticket, .str ((Kerb.decodeKaRequest b).val).service, .str ((Kerb.decodeKaRequest b).val).inst, .bs ((Kerb.decodeKaRequest b).val).box], .int .i64 (Kerb.decodeKaRequest b).err], []))
  | _, _ => none

/-- kerbsuite/kerbsuiteref22.DecodeSecret -/
def sp16 : Abs.Spec := fun xs bl => match xs, bl with
  | [.bs b], [] => chk (decide (b.length ≤ 140737488355328)) (some (.tup [.agg [.str ((Kerb.decodeKaSecret b).val).label, .int .i64 ((Kerb.decodeKaSecret b).val).time, .int .i64 ((Kerb.decodeKaSecret b).val).start, .int .i64 ((Kerb.decodeKaSecret b).val).stop, .int .u64 ((Kerb.decodeKaSecret b).val).new], .int .i64 (Kerb.decodeKaSecret b).err], []))
  | _, _ => none

/-- kerbsuite/kerbsuiteref22.DecodeReply -/
def sp19 : Abs.Spec := fun xs bl => match xs, bl with
  | [.bs b], [] => chk (decide (b.length ≤ 140737488355328)) (some (.tup [.agg [.int .i64 ((Kerb.decodeKaReply b).val).op, .int .i64 ((Kerb.decodeKaReply b).val).code, .bs ((Kerb.decodeKaReply b).val).box], .int .i64 (Kerb.decodeKaReply b).err], []))
  | _, _ => none

/-- kerbsuite/kerbsuiteref22.DecodeAnswer -/
def sp21 : Abs.Spec := fun xs bl => match xs, bl with
  | [.bs b], [] => chk (decide (b.length ≤ 140737488355328)) (some (.tup [.agg [.str ((Kerb.decodeKaAnswer b).val).label, .int .i64 ((Kerb.decodeKaAnswer b).val).time, .int .u64 ((Kerb.decodeKaAnswer b).val).session, .int .i64 ((Kerb.decodeKaAnswer b).val).start, .int .i64 ((Kerb.decodeKaAnswer b).val).stop, .int .i64 ((Kerb.decodeKaAnswer b).val).kvno, .str ((Kerb.decodeKaAnswer b).val).service.name, .str ((Kerb.decodeKaAnswer b).val).service.inst, .str ((Kerb.decodeKaAnswer b).val).service.realm, .bs ((Kerb.decodeKaAnswer b).val).ticket], .int .i64 (Kerb.decodeKaAnswer b).err], []))
  | _, _ => none

/-- (*kerbsuite/kamessage.reader).key -/
def sp60 : Abs.Spec := fun xs bl => match xs, bl with
  | [.ptr 0 0], [(0, [.bs B, .int .i64 at_, .bool bad])] => chk (decide (B.length ≤ 140737488355328)) (some (.int .u64 (Kerb.pKey B at_ bad).val, [[.bs B, .int .i64 (Kerb.pKey B at_ bad).pos, .bool (Kerb.pKey B at_ bad).bad]]))
  | _, _ => none

/-- kerbsuite/kamessage.EncodeSecret -/
def sp61 : Abs.Spec := fun xs bl => match xs, bl with
  | [.agg [.str lb, .int .i64 t, .int .i64 st, .int .i64 en, .int .u64 k]], [] => chk (decide (0 ≤ k) && decide (k < 18446744073709551616)) (some (.tup [.bs (Kerb.encodeKaSecret ⟨lb, t, st, en, k⟩).val, .int .i64 (Kerb.encodeKaSecret ⟨lb, t, st, en, k⟩).err], []))
  | _, _ => none

/-- kerbsuite/kamessage.putTicket -/
def sp71 : Abs.Spec := fun xs bl => match xs, bl with
  | [.bs b, .bs t], [] => chk (decide (b.length + t.length ≤ 70368744170000)) (some (.bs (Kerb.putTick b t), []))
  | _, _ => none

/-- kerbsuite/kamessage.putBox -/
def sp76 : Abs.Spec := fun xs bl => match xs, bl with
  | [.bs b, .bs t], [] => chk (decide (b.length + t.length ≤ 70368744170000)) (some (.bs (Kerb.putBox b t), []))
  | _, _ => none

/-- kerbsuite/principal.ValidName -/
def sp106 : Abs.Spec := fun xs bl => match xs, bl with
  | [.str s], [] => chk (decide (s.length ≤ 4611686018427387904)) (some (.bool (Kerb.validName s), []))
  | _, _ => none

/-- kerbsuite/principal.ValidInstance -/
def sp107 : Abs.Spec := fun xs bl => match xs, bl with
  | [.str s], [] => chk (decide (s.length ≤ 4611686018427387904)) (some (.bool (Kerb.validInst s), []))
  | _, _ => none

/-- kerbsuite/kamessage.DecodeSecret -/
def sp15 : Abs.Spec := fun xs bl => match xs, bl with
  | [.bs b], [] => chk (decide (b.length ≤ 140737488355328)) (some (.tup [.agg [.str ((Kerb.decodeKaSecret b).val).label, .int .i64 ((Kerb.decodeKaSecret b).val).time, .int .i64 ((Kerb.decodeKaSecret b).val).start, .int .i64 ((Kerb.decodeKaSecret b).val).stop, .int .u64 ((Kerb.decodeKaSecret b).val).new], .int .i64 (Kerb.decodeKaSecret b).err], []))
  | _, _ => none

/-- kerbsuite/kamessage.EncodeReply -/
def sp64 : Abs.Spec := fun xs bl => match xs, bl with
  | [.agg [.int .i64 op, .int .i64 cd, .bs bx]], [] => some (.tup [.bs (Kerb.encodeKaReply ⟨op, cd, bx⟩).val, .int .i64 (Kerb.encodeKaReply ⟨op, cd, bx⟩).err], [])
  | _, _ => none

/-- kerbsuite/principal.ValidRealm -/
def sp105 : Abs.Spec := fun xs bl => match xs, bl with
  | [.str s], [] => chk (decide (s.length ≤ 4611686018427387904)) (some (.bool (Kerb.validRealm s), []))
  | _, _ => none

/-- kerbsuite/kamessage.DecodeReply -/
def sp18 : Abs.Spec := fun xs bl => match xs, bl with
  | [.bs b], [] => chk (decide (b.length ≤ 140737488355328)) (some (.tup [.agg [.int .i64 ((Kerb.decodeKaReply b).val).op, .int .i64 ((Kerb.decodeKaReply b).val).code, .bs ((Kerb.decodeKaReply b).val).box], .int .i64 (Kerb.decodeKaReply b).err], []))
  | _, _ => none

/-- kerbsuite/principal.Valid -/
def sp102 : Abs.Spec := fun xs bl => match xs, bl with
  | [.agg [.str a, .str b, .str c]], [] => chk (decide (a.length ≤ 4611686018427387904) && decide (b.length ≤ 4611686018427387904) && decide (c.length ≤ 4611686018427387904)) (some (.bool (Kerb.Prin.valid ⟨a, b, c⟩), []))
  | _, _ => none

/-- kerbsuite/kamessage.checkAnswer -/
def sp66 : Abs.Spec := fun xs bl => match xs, bl with
  | [.agg [.str lb, .int .i64 t, .int .u64 k, .int .i64 st, .int .i64 en, .int .i64 kv, .str x, .str y, .str z, .bs tk]], [] => chk (decide (x.length ≤ 4611686018427387904) && decide (y.length ≤ 4611686018427387904) && decide (z.length ≤ 4611686018427387904) && decide (0 ≤ k) && decide (k < 18446744073709551616)) (some (.int .i64 (Kerb.encodeKaAnswer ⟨lb, t, k, st, en, kv, ⟨x, y, z⟩, tk⟩).err, []))
  | _, _ => none

/-- kerbsuite/kamessage.checkRequest -/
def sp73 : Abs.Spec := fun xs bl => match xs, bl with
  | [.agg [.int .i64 op, .str ux, .str uy, .str uz, .int .i64 kv, .str rl, .bs tk, .str sv, .str ins, .bs bx]], [] => chk (decide (ux.length ≤ 4611686018427387904) && decide (uy.length ≤ 4611686018427387904) && decide (uz.length ≤ 4611686018427387904) && decide (rl.length ≤ 4611686018427387904) && decide (sv.length ≤ 4611686018427387904) && decide (ins.length ≤ 4611686018427387904)) (some (.int .i64 (Kerb.encodeKaRequest ⟨op, ⟨ux, uy, uz⟩, kv, rl, tk, sv, ins, bx⟩).err, []))
  | _, _ => none

/-- kerbsuite/field.Principal -/
def sp87 : Abs.Spec := fun xs bl => match xs, bl with
  | [.bs b, .int .i64 pos], [] => chk (decide (b.length ≤ 4611686018427387904)) (some (.tup [.agg [.str (Kerb.prin b pos).val.name, .str (Kerb.prin b pos).val.inst, .str (Kerb.prin b pos).val.realm], .int .i64 (Kerb.prin b pos).next, .int .i64 (Kerb.prin b pos).err], []))
  | _, _ => none

/-- kerbsuite/kamessage.EncodeAnswer -/
def sp24 : Abs.Spec := fun xs bl => match xs, bl with
  | [.agg [.str lb, .int .i64 t, .int .u64 k, .int .i64 st, .int .i64 en, .int .i64 kv, .str x, .str y, .str z, .bs tk]], [] => chk (decide (x.length ≤ 4611686018427387904) && decide (y.length ≤ 4611686018427387904) && decide (z.length ≤ 4611686018427387904) && decide (0 ≤ k) && decide (k < 18446744073709551616)) (some (.tup [.bs (Kerb.encodeKaAnswer ⟨lb, t, k, st, en, kv, ⟨x, y, z⟩, tk⟩).val, .int .i64 (Kerb.encodeKaAnswer ⟨lb, t, k, st, en, kv, ⟨x, y, z⟩, tk⟩).err], []))
  | _, _ => none

/-- kerbsuite/kamessage.EncodeRequest -/
def sp25 : Abs.Spec := fun xs bl => match xs, bl with
  | [.agg [.int .i64 op, .str ux, .str uy, .str uz, .int .i64 kv, .str rl, .bs tk, .str sv, .str ins, .bs bx]], [] => chk (decide (ux.length ≤ 4611686018427387904) && decide (uy.length ≤ 4611686018427387904) && decide (uz.length ≤ 4611686018427387904) && decide (rl.length ≤ 4611686018427387904) && decide (sv.length ≤ 4611686018427387904) && decide (ins.length ≤ 4611686018427387904)) (some (.tup [.bs (Kerb.encodeKaRequest ⟨op, ⟨ux, uy, uz⟩, kv, rl, tk, sv, ins, bx⟩).val, .int .i64 (Kerb.encodeKaRequest ⟨op, ⟨ux, uy, uz⟩, kv, rl, tk, sv, ins, bx⟩).err], []))
  | _, _ => none

/-- (*kerbsuite/kamessage.reader).principal -/
def sp49 : Abs.Spec := fun xs bl => match xs, bl with
  | [.ptr 0 0], [(0, [.bs B, .int .i64 at_, .bool bad])] => chk (decide (B.length ≤ 140737488355328)) (some (.agg [.str (Kerb.pPrin B at_ bad).val.name, .str (Kerb.pPrin B at_ bad).val.inst, .str (Kerb.pPrin B at_ bad).val.realm], [[.bs B, .int .i64 (Kerb.pPrin B at_ bad).pos, .bool (Kerb.pPrin B at_ bad).bad]]))
  | _, _ => none

/-- kerbsuite/kamessage.DecodeRequest -/
def sp13 : Abs.Spec := fun xs bl => match xs, bl with
  | [.bs b], [] => chk (decide (b.length ≤ 140737488355328)) (some (.tup [.agg [.int .i64 ((Kerb.decodeKaRequest b).val).op, .str ((Kerb.decodeKaRequest b).val).user.name, .str ((Kerb.decodeKaRequest b).val).user.inst, .str ((Kerb.decodeKaRequest b).val).user.realm, .int .i64 ((Kerb.decodeKaRequest b).val).kvno, .str ((Kerb.decodeKaRequest b).val).realm, .bs ((Kerb.decodeKaRequest b).val).ticket, .str ((Kerb.decodeKaRequest b).val).service, .str ((Kerb.decodeKaRequest b).val).inst, .bs ((Kerb.decodeKaRequest b).val).box], .int .i64 (Kerb.decodeKaRequest b).err], []))
  | _, _ => none

/-- kerbsuite/kamessage.DecodeAnswer -/
def sp20 : Abs.Spec := fun xs bl => match xs, bl with
  | [.bs b], [] => chk (decide (b.length ≤ 140737488355328)) (some (.tup [.agg [.str ((Kerb.decodeKaAnswer b).val).label, .int .i64 ((Kerb.decodeKaAnswer b).val).time, .int .u64 ((Kerb.decodeKaAnswer b).val).session, .int .i64 ((Kerb.decodeKaAnswer b).val).start, .int .i64 ((Kerb.decodeKaAnswer b).val).stop, .int .i64 ((Kerb.decodeKaAnswer b).val).kvno, .str ((Kerb.decodeKaAnswer b).val).service.name, .str ((Kerb.decodeKaAnswer b).val).service.inst, .str ((Kerb.decodeKaAnswer b).val).service.realm, .bs ((Kerb.decodeKaAnswer b).val).ticket], .int .i64 (Kerb.decodeKaAnswer b).err], []))
  | _, _ => none

/-- kerbsuite/kerbsuitelaw22.awake -/
def sp4 : Abs.Spec := fun xs bl => match xs, bl with
  | [], [] => some (.bool true, [])
  | _, _ => none

/-- kerbsuite/kerbsuitelaw22.KaDecodes -/
def sp3 : Abs.Spec := fun xs bl => match xs, bl with
  | [.bs raw, .agg [.u8 ao, .u8 au, .u8 ak, .u8 as_, .u8 al, .int .u32 at_, .int .u32 ast, .int .u32 aen, .u8 aky, .bs atk, .bs abx, .u8 aex], .u8 kind, .int .u16 how], [] => chk (decide (0 ≤ at_) && decide (at_ ≤ 4294967295) && decide (0 ≤ ast) && decide (ast ≤ 4294967295) && decide (0 ≤ aen) && decide (aen ≤ 4294967295) && decide (0 ≤ how) && decide (how ≤ 65535)) (some (.bool true, []))
  | _, _ => none

def tabT : List (Nat × Nat × List CT × Abs.Spec) := [(12, 1, [.bsl, .int .u16], sp12), (17, 1, [.other, .other], sp17), (22, 1, [.other, .other], sp22), (23, 1, [.other, .other], sp23), (27, 1, [.int .i64], sp27), (32, 1, [.int .i64, .int .i64], sp32), (34, 1, [.int .i64, .bool], sp34), (36, 1, [.bsl, .str], sp36), (41, 1, [.int .u64], sp41), (42, 1, [.bsl], sp42), (43, 1, [.int .i64], sp43), (44, 1, [.int .i64], sp44), (51, 1, [.bsl, .bsl], sp51), (59, 1, [.str], sp59), (65, 1, [.str], sp65), (68, 1, [.int .u64], sp68), (78, 1, [.str, .str], sp78), (79, 1, [.bsl, .int .i64, .int .i64, .bool], sp79), (80, 1, [.int .i64, .int .i64], sp80), (82, 1, [.int .i64, .sl 1], sp82), (84, 1, [.ptr, .int .i64, .int .i64], sp84), (89, 1, [.bsl], sp89), (91, 1, [.ptr, .int .i64, .int .i64], sp91), (92, 1, [.bsl, .int .i64], sp92), (93, 1, [.bsl, .int .i64, .int .i64], sp93), (99, 1, [.int .i64], sp99), (100, 1, [.int .i64, .int .i64], sp100), (108, 1, [.int .i64], sp108), (110, 1, [], sp110), (112, 1, [.bsl, .int .i64, .int .i64], sp112), (114, 1, [.bsl], sp114), (117, 1, [.other, .other], sp117), (119, 1, [.bsl, .u8], sp119), (120, 1, [.int .i64], sp120), (121, 1, [.int .i64], sp121), (124, 1, [.str, .u8], sp124), (8, 2, [.other], sp8), (29, 2, [.str], sp29), (30, 2, [.str], sp30), (31, 2, [.str], sp31), (33, 2, [.bsl, .int .i64], sp33), (35, 2, [.bsl, .other], sp35), (37, 2, [.bsl, .int .i64, .bool], sp37), (39, 2, [.int .u64], sp39), (40, 2, [.bsl, .int .i64, .bool], sp40), (52, 2, [.bsl, .sl 1], sp52), (55, 2, [.ptr], sp55), (56, 2, [.ptr, .int .i64], sp56), (74, 2, [.int .i64, .bool], sp74), (77, 2, [.int .i64], sp77), (81, 2, [.bsl], sp81), (86, 2, [.bsl, .int .i64, .int .i64], sp86), (104, 2, [.sl 1], sp104), (111, 2, [.bsl, .int .i64, .int .i64, .bool], sp111), (113, 2, [.bsl, .u8], sp113), (115, 2, [.bsl, .int .i64, .int .i64, .bool], sp115), (116, 2, [.int .u64], sp116), (123, 2, [.str, .u8], sp123), (7, 3, [.other], sp7), (9, 3, [.other], sp9), (26, 3, [.int .i64], sp26), (28, 3, [.other], sp28), (38, 3, [.int .i64], sp38), (45, 3, [.bsl, .sl 1], sp45), (48, 3, [.ptr, .int .i64], sp48), (54, 3, [.ptr], sp54), (63, 3, [.bsl], sp63), (72, 3, [.bsl], sp72), (75, 3, [.bsl, .str], sp75), (83, 3, [.bsl, .int .i64], sp83), (85, 3, [.bsl, .int .i64], sp85), (88, 3, [.bsl, .int .i64, .bool], sp88), (90, 3, [.bsl, .int .i64], sp90), (94, 3, [.bsl, .int .i64, .bool], sp94), (95, 3, [.bsl, .int .i64, .bool], sp95), (98, 3, [.bsl, .int .i64, .bool], sp98), (101, 3, [.int .u64], sp101), (103, 3, [.bsl, .int .i64, .int .i64, .bool], sp103), (122, 3, [.str, .u8], sp122), (5, 4, [.other], sp5), (6, 4, [.other], sp6), (10, 4, [.other], sp10), (11, 4, [.other], sp11), (46, 4, [.ptr], sp46), (47, 4, [.ptr], sp47), (50, 4, [.ptr], sp50), (53, 4, [.ptr], sp53), (57, 4, [.ptr], sp57), (58, 4, [.ptr], sp58), (62, 4, [.ptr], sp62), (67, 4, [.bsl, .int .i64, .bool], sp67), (69, 4, [.bsl, .int .i64], sp69), (70, 4, [.bsl, .other], sp70), (96, 4, [.bsl], sp96), (97, 4, [.other], sp97), (109, 4, [.bsl, .int .i64, .bool], sp109), (118, 4, [.str, .str], sp118), (14, 5, [.bsl], sp14), (16, 5, [.bsl], sp16), (19, 5, [.bsl], sp19), (21, 5, [.bsl], sp21), (60, 5, [.ptr], sp60), (61, 5, [.other], sp61), (71, 5, [.bsl, .bsl], sp71), (76, 5, [.bsl, .bsl], sp76), (106, 5, [.str], sp106), (107, 5, [.str], sp107), (15, 6, [.bsl], sp15), (64, 6, [.other], sp64), (105, 6, [.str], sp105), (18, 7, [.bsl], sp18), (102, 7, [.other], sp102), (66, 8, [.other], sp66), (73, 8, [.other], sp73), (87, 8, [.bsl, .int .i64], sp87), (24, 9, [.other], sp24), (25, 9, [.other], sp25), (49, 9, [.ptr], sp49), (13, 10, [.bsl], sp13), (20, 10, [.bsl], sp20), (4, 11, [], sp4), (3, 12, [.bsl, .other, .u8, .int .u16], sp3)]

def globT : List (Nat × List AV) := []

def look {α : Type} (k : Nat) : List (Nat × α) → Option α
  | [] => none
  | (j, x) :: r => cond (Nat.beq j k) (some x) (look k r)
def look2 {α : Type} (k m : Nat) : List (Nat × Nat × List α) → List α
  | [] => []
  | (j, i, x) :: r => cond (Nat.beq j k) (cond (Nat.beq i m) x (look2 k m r)) (look2 k m r)
def G : Cfg2 := { ty := fun t => (tbl[t]?).join, keep := fun f r => look2 f r keepT, own := fun f => ownT.contains f, glob := fun q => look q globT, rts := fun f => look f rtsT, tab := fun f => look f tabT }
end Go.Proofs.YtbgmiljaiaagdaaGreat
