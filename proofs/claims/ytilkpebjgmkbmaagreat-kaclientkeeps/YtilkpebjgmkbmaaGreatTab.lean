/- The table of functions of this seat. -/
import Derived.Test.YtilkpebjgmkbmaaGreatAbsSpec
import Derived.Test.YtilkpebjgmkbmaaGreatKerbDefs
import Derived.Test.YtilkpebjgmkbmaaGreatAbsPlain
import Derived.Test.YtilkpebjgmkbmaaGreatKerbAt
import Derived.Test.YtilkpebjgmkbmaaGreatKerbKa
import Derived.Test.YtilkpebjgmkbmaaGreatKerbAt
import Derived.Test.YtilkpebjgmkbmaaGreatKerbKa
import Derived.Test.YtilkpebjgmkbmaaGreatKerbKaPlain
import Derived.Test.YtilkpebjgmkbmaaGreatKerbCli
import Derived.Test.YtilkpebjgmkbmaaGreatKerbKaRef
import Derived.Test.YtilkpebjgmkbmaaGreatKerbCli2
import Derived.Test.YtilkpebjgmkbmaaGreatKerbCli3
import Derived.Test.YtilkpebjgmkbmaaGreatKerbKac
import Derived.Test.YtilkpebjgmkbmaaGreatKerbKac3
import Derived.Test.YtilkpebjgmkbmaaGreatProg
import Derived.KernelRfl
namespace Go.Proofs.YtilkpebjgmkbmaaGreat
open Go.Abs
set_option linter.unusedVariables false

def tbl : List (Option TI) := [
  none,
  none,
  some ⟨1, 8, .int .i64, [.int .i64 0], [.int .i64], [.int .i64]⟩,
  some ⟨1, 8, .int .i64, [.int .i64 0], [.int .i64], [.int .i64]⟩,
  some ⟨1, 1, .bool, [.bool false], [.bool], [.bool]⟩,
  some ⟨1, 1, .u8, [.u8 0], [.u8], [.u8]⟩,
  some ⟨1, 1, .u8, [.u8 0], [.u8], [.u8]⟩,
  some ⟨4, 24, .struct [(0, 2), (1, 3), (2, 4), (3, 6)], [.int .i64 0, .int .i64 0, .bool false, .u8 0], [.int .i64, .int .i64, .bool, .u8], [.int .i64, .int .i64, .bool, .u8]⟩,
  none,
  some ⟨1, 16, .str, [.str []], [.str], [.str]⟩,
  none,
  none,
  some ⟨1, 8, .int .u64, [.int .u64 0], [.int .u64], [.int .u64]⟩,
  none,
  none,
  some ⟨1, 8, .ptr 186, [.nilp], [.ptr], []⟩,
  some ⟨1, 8, .ptr 189, [.nilp], [.ptr], []⟩,
  some ⟨1, 8, .ptr 197, [.nilp], [.ptr], []⟩,
  some ⟨1, 8, .struct [(0, 17)], [.nilp], [.ptr], []⟩,
  some ⟨1, 8, .struct [(0, 17)], [.nilp], [.ptr], []⟩,
  none,
  some ⟨1, 4, .int .i32, [.int .i32 0], [.int .i32], [.int .i32]⟩,
  some ⟨1, 24, .slice 5 true, [.nils], [.bsl], []⟩,
  some ⟨4, 40, .struct [(0, 5), (1, 22), (2, 4), (3, 5)], [.u8 0, .nils, .bool false, .u8 0], [.u8, .bsl, .bool, .u8], []⟩,
  some ⟨4, 40, .struct [(0, 5), (1, 22), (2, 4), (3, 5)], [.u8 0, .nils, .bool false, .u8 0], [.u8, .bsl, .bool, .u8], []⟩,
  some ⟨1, 24, .slice 52 false, [.nils], [.sl 9], []⟩,
  some ⟨3, 48, .struct [(0, 9), (1, 9), (2, 9)], [.str [], .str [], .str []], [.str, .str, .str], [.str, .str, .str]⟩,
  some ⟨3, 48, .struct [(0, 9), (1, 9), (2, 9)], [.str [], .str [], .str []], [.str, .str, .str], [.str, .str, .str]⟩,
  some ⟨1, 24, .slice 55 false, [.nils], [.sl 8], []⟩,
  some ⟨4, 72, .struct [(0, 27), (3, 28)], [.str [], .str [], .str [], .nils], [.str, .str, .str, .sl 8], []⟩,
  some ⟨4, 72, .struct [(0, 27), (3, 28)], [.str [], .str [], .str [], .nils], [.str, .str, .str, .sl 8], []⟩,
  some ⟨1, 8, .int .u64, [.int .u64 0], [.int .u64], [.int .u64]⟩,
  some ⟨1, 8, .int .u64, [.int .u64 0], [.int .u64], [.int .u64]⟩,
  some ⟨19, 240, .struct [(0, 27), (3, 3), (4, 3), (5, 4), (6, 30), (10, 3), (11, 27), (14, 32), (15, 3), (16, 3), (17, 3), (18, 3)], [.str [], .str [], .str [], .int .i64 0, .int .i64 0, .bool false, .str [], .str [], .str [], .nils, .int .i64 0, .str [], .str [], .str [], .int .u64 0, .int .i64 0, .int .i64 0, .int .i64 0, .int .i64 0], [.str, .str, .str, .int .i64, .int .i64, .bool, .str, .str, .str, .sl 8, .int .i64, .str, .str, .str, .int .u64, .int .i64, .int .i64, .int .i64, .int .i64], []⟩,
  some ⟨19, 240, .struct [(0, 27), (3, 3), (4, 3), (5, 4), (6, 30), (10, 3), (11, 27), (14, 32), (15, 3), (16, 3), (17, 3), (18, 3)], [.str [], .str [], .str [], .int .i64 0, .int .i64 0, .bool false, .str [], .str [], .str [], .nils, .int .i64 0, .str [], .str [], .str [], .int .u64 0, .int .i64 0, .int .i64 0, .int .i64 0, .int .i64 0], [.str, .str, .str, .int .i64, .int .i64, .bool, .str, .str, .str, .sl 8, .int .i64, .str, .str, .str, .int .u64, .int .i64, .int .i64, .int .i64, .int .i64], []⟩,
  some ⟨9, 96, .struct [(0, 3), (1, 3), (2, 3), (3, 3), (4, 27), (7, 32), (8, 32)], [.int .i64 0, .int .i64 0, .int .i64 0, .int .i64 0, .str [], .str [], .str [], .int .u64 0, .int .u64 0], [.int .i64, .int .i64, .int .i64, .int .i64, .str, .str, .str, .int .u64, .int .u64], [.int .i64, .int .i64, .int .i64, .int .i64, .str, .str, .str, .int .u64, .int .u64]⟩,
  some ⟨9, 96, .struct [(0, 3), (1, 3), (2, 3), (3, 3), (4, 27), (7, 32), (8, 32)], [.int .i64 0, .int .i64 0, .int .i64 0, .int .i64 0, .str [], .str [], .str [], .int .u64 0, .int .u64 0], [.int .i64, .int .i64, .int .i64, .int .i64, .str, .str, .str, .int .u64, .int .u64], [.int .i64, .int .i64, .int .i64, .int .i64, .str, .str, .str, .int .u64, .int .u64]⟩,
  none,
  none,
  none,
  none,
  some ⟨1, 8, .int .i64, [.int .i64 0], [.int .i64], [.int .i64]⟩,
  none,
  none,
  none,
  none,
  none,
  some ⟨1, 24, .slice 34 false, [.nils], [.sl 19], []⟩,
  some ⟨1, 24, .slice 36 false, [.nils], [.sl 9], []⟩,
  some ⟨1, 24, .slice 32 false, [.nils], [.sl 1], []⟩,
  some ⟨1, 2, .int .u16, [.int .u16 0], [.int .u16], [.int .u16]⟩,
  some ⟨9, 12, .struct [(0, 5), (1, 5), (2, 5), (3, 5), (4, 5), (5, 5), (6, 50), (7, 50), (8, 50)], [.u8 0, .u8 0, .u8 0, .u8 0, .u8 0, .u8 0, .int .u16 0, .int .u16 0, .int .u16 0], [.u8, .u8, .u8, .u8, .u8, .u8, .int .u16, .int .u16, .int .u16], [.u8, .u8, .u8, .u8, .u8, .u8, .int .u16, .int .u16, .int .u16]⟩,
  some ⟨9, 12, .struct [(0, 5), (1, 5), (2, 5), (3, 5), (4, 5), (5, 5), (6, 50), (7, 50), (8, 50)], [.u8 0, .u8 0, .u8 0, .u8 0, .u8 0, .u8 0, .int .u16 0, .int .u16 0, .int .u16 0], [.u8, .u8, .u8, .u8, .u8, .u8, .int .u16, .int .u16, .int .u16], [.u8, .u8, .u8, .u8, .u8, .u8, .int .u16, .int .u16, .int .u16]⟩,
  none,
  some ⟨8, 104, .struct [(0, 27), (3, 32), (4, 3), (5, 3), (6, 3), (7, 22)], [.str [], .str [], .str [], .int .u64 0, .int .i64 0, .int .i64 0, .int .i64 0, .nils], [.str, .str, .str, .int .u64, .int .i64, .int .i64, .int .i64, .bsl], []⟩,
  some ⟨8, 104, .struct [(0, 27), (3, 32), (4, 3), (5, 3), (6, 3), (7, 22)], [.str [], .str [], .str [], .int .u64 0, .int .i64 0, .int .i64 0, .int .i64 0, .nils], [.str, .str, .str, .int .u64, .int .i64, .int .i64, .int .i64, .bsl], []⟩,
  none,
  none,
  none,
  none,
  none,
  none,
  none,
  some ⟨3, 40, .struct [(0, 3), (1, 41), (2, 22)], [.int .i64 0, .int .i64 0, .nils], [.int .i64, .int .i64, .bsl], []⟩,
  some ⟨3, 40, .struct [(0, 3), (1, 41), (2, 22)], [.int .i64 0, .int .i64 0, .nils], [.int .i64, .int .i64, .bsl], []⟩,
  none,
  some ⟨1, 24, .slice 27 false, [.nils], [.sl 3], []⟩,
  some ⟨1, 24, .slice 3 false, [.nils], [.sl 1], []⟩,
  none,
  none,
  none,
  none,
  none,
  none,
  none,
  none,
  none,
  none,
  none,
  none,
  none,
  some ⟨10, 160, .struct [(0, 3), (1, 27), (4, 3), (5, 9), (6, 22), (7, 9), (8, 9), (9, 22)], [.int .i64 0, .str [], .str [], .str [], .int .i64 0, .str [], .nils, .str [], .str [], .nils], [.int .i64, .str, .str, .str, .int .i64, .str, .bsl, .str, .str, .bsl], []⟩,
  some ⟨10, 160, .struct [(0, 3), (1, 27), (4, 3), (5, 9), (6, 22), (7, 9), (8, 9), (9, 22)], [.int .i64 0, .str [], .str [], .str [], .int .i64 0, .str [], .nils, .str [], .str [], .nils], [.int .i64, .str, .str, .str, .int .i64, .str, .bsl, .str, .str, .bsl], []⟩,
  some ⟨5, 48, .struct [(0, 9), (1, 3), (2, 3), (3, 3), (4, 32)], [.str [], .int .i64 0, .int .i64 0, .int .i64 0, .int .u64 0], [.str, .int .i64, .int .i64, .int .i64, .int .u64], [.str, .int .i64, .int .i64, .int .i64, .int .u64]⟩,
  some ⟨5, 48, .struct [(0, 9), (1, 3), (2, 3), (3, 3), (4, 32)], [.str [], .int .i64 0, .int .i64 0, .int .i64 0, .int .u64 0], [.str, .int .i64, .int .i64, .int .i64, .int .u64], [.str, .int .i64, .int .i64, .int .i64, .int .u64]⟩,
  none,
  none,
  none,
  none,
  some ⟨10, 128, .struct [(0, 9), (1, 3), (2, 32), (3, 3), (4, 3), (5, 3), (6, 27), (9, 22)], [.str [], .int .i64 0, .int .u64 0, .int .i64 0, .int .i64 0, .int .i64 0, .str [], .str [], .str [], .nils], [.str, .int .i64, .int .u64, .int .i64, .int .i64, .int .i64, .str, .str, .str, .bsl], []⟩,
  some ⟨10, 128, .struct [(0, 9), (1, 3), (2, 32), (3, 3), (4, 3), (5, 3), (6, 27), (9, 22)], [.str [], .int .i64 0, .int .u64 0, .int .i64 0, .int .i64 0, .int .i64 0, .str [], .str [], .str [], .nils], [.str, .int .i64, .int .u64, .int .i64, .int .i64, .int .i64, .str, .str, .str, .bsl], []⟩,
  none,
  none,
  none,
  none,
  none,
  none,
  none,
  none,
  none,
  none,
  none,
  none,
  none,
  none,
  none,
  none,
  none,
  none,
  some ⟨1, 24, .slice 9 false, [.nils], [.sl 1], []⟩,
  some ⟨1, 8, .ptr 112, [.nilp], [.ptr], []⟩,
  some ⟨2, 32, .struct [(0, 22), (1, 3)], [.nils, .int .i64 0], [.bsl, .int .i64], []⟩,
  some ⟨2, 32, .struct [(0, 22), (1, 3)], [.nils, .int .i64 0], [.bsl, .int .i64], []⟩,
  none,
  none,
  none,
  none,
  some ⟨1, 8, .int .u64, [.int .u64 0], [.int .u64], [.int .u64]⟩,
  none,
  none,
  none,
  none,
  none,
  none,
  none,
  none,
  none,
  none,
  none,
  none,
  some ⟨3, 40, .struct [(0, 22), (1, 3), (2, 4)], [.nils, .int .i64 0, .bool false], [.bsl, .int .i64, .bool], []⟩,
  some ⟨3, 40, .struct [(0, 22), (1, 3), (2, 4)], [.nils, .int .i64 0, .bool false], [.bsl, .int .i64, .bool], []⟩,
  none,
  none,
  none,
  some ⟨1, 4, .int .u32, [.int .u32 0], [.int .u32], [.int .u32]⟩,
  none,
  none,
  some ⟨1, 8, .ptr 140, [.nilp], [.ptr], []⟩,
  some ⟨4, 40, .struct [(0, 22), (1, 3), (2, 4), (3, 4)], [.nils, .int .i64 0, .bool false, .bool false], [.bsl, .int .i64, .bool, .bool], []⟩,
  some ⟨4, 40, .struct [(0, 22), (1, 3), (2, 4), (3, 4)], [.nils, .int .i64 0, .bool false, .bool false], [.bsl, .int .i64, .bool, .bool], []⟩,
  some ⟨3, 40, .struct [(0, 3), (1, 32), (2, 22)], [.int .i64 0, .int .u64 0, .nils], [.int .i64, .int .u64, .bsl], []⟩,
  some ⟨3, 40, .struct [(0, 3), (1, 32), (2, 22)], [.int .i64 0, .int .u64 0, .nils], [.int .i64, .int .u64, .bsl], []⟩,
  none,
  none,
  none,
  none,
  none,
  none,
  none,
  none,
  none,
  none,
  none,
  none,
  none,
  none,
  none,
  some ⟨1, 8, .ptr 131, [.nilp], [.ptr], []⟩,
  none,
  none,
  none,
  none,
  none,
  none,
  none,
  none,
  none,
  none,
  none,
  none,
  none,
  none,
  none,
  none,
  none,
  none,
  none,
  none,
  none,
  some ⟨4, 4, .arr 4 5 true, [.u8 0, .u8 0, .u8 0, .u8 0], [.u8, .u8, .u8, .u8], []⟩,
  some ⟨1, 8, .ptr 9, [.nilp], [.ptr], []⟩,
  some ⟨1, 24, .slice 181 false, [.nils], [.sl 1], []⟩,
  some ⟨1, 24, .slice 22 false, [.nils], [.sl 1], []⟩,
  none,
  some ⟨4, 40, .struct [(0, 17), (1, 17), (2, 17), (3, 9)], [.nilp, .nilp, .nilp, .str []], [.ptr, .ptr, .ptr, .str], []⟩,
  none,
  some ⟨0, 0, .arr 0 16 false, [], [], []⟩,
  none,
  none,
  some ⟨1, 1, .u8, [.u8 0], [.u8], [.u8]⟩,
  some ⟨1, 1, .u8, [.u8 0], [.u8], [.u8]⟩,
  none,
  some ⟨1, 8, .ptr 5, [.nilp], [.ptr], []⟩,
  some ⟨1, 4, .int .i32, [.int .i32 0], [.int .i32], [.int .i32]⟩,
  some ⟨1, 4, .int .i32, [.int .i32 0], [.int .i32], [.int .i32]⟩,
  none,
  none,
  none]

def keepT : List (Nat × Nat × List Keep) := [(3, 15, [.val 3 25, .val 6 32, .val 7 22, .cells 12 [.str, .str, .str, .int .i64, .int .i64, .bool, .str, .str, .str, .sl 8, .int .i64, .str, .str, .str, .int .u64, .int .i64, .int .i64, .int .i64, .int .i64], .ptr 12 12 0, .cells 13 [.int .i64, .int .i64, .int .i64, .int .i64, .str, .str, .str, .int .u64, .int .u64], .ptr 13 13 0, .val 16 4, .cells 17 [.str, .str, .str, .int .i64, .int .i64, .bool, .str, .str, .str, .sl 8, .int .i64, .str, .str, .str, .int .u64, .int .i64, .int .i64, .int .i64, .int .i64], .ptr 17 17 0, .cells 19 [.int .i64, .int .i64, .int .i64, .int .i64, .str, .str, .str, .int .u64, .int .u64], .ptr 19 19 0, .val 22 3]),
  (3, 18, [.val 3 25, .val 6 32, .val 7 22, .cells 12 [.str, .str, .str, .int .i64, .int .i64, .bool, .str, .str, .str, .sl 8, .int .i64, .str, .str, .str, .int .u64, .int .i64, .int .i64, .int .i64, .int .i64], .ptr 12 12 0, .cells 13 [.int .i64, .int .i64, .int .i64, .int .i64, .str, .str, .str, .int .u64, .int .u64], .ptr 13 13 0, .val 16 4, .cells 17 [.str, .str, .str, .int .i64, .int .i64, .bool, .str, .str, .str, .sl 8, .int .i64, .str, .str, .str, .int .u64, .int .i64, .int .i64, .int .i64, .int .i64], .ptr 17 17 0, .cells 19 [.int .i64, .int .i64, .int .i64, .int .i64, .str, .str, .str, .int .u64, .int .u64], .ptr 19 19 0, .val 22 3, .val 23 3]),
  (5, 6, [.val 2 32, .val 3 32, .val 5 3, .val 6 3, .val 7 5, .val 8 50, .cells 9 [.str, .str, .str, .int .i64, .int .i64, .bool, .str, .str, .str, .sl 8, .int .i64, .str, .str, .str, .int .u64, .int .i64, .int .i64, .int .i64, .int .i64], .ptr 9 9 0, .cells 10 [.u8, .bsl, .bool, .u8], .ptr 10 10 0, .cells 13 [.str, .str, .str], .ptr 13 13 0, .val 18 4, .val 19 3]),
  (14, 2000010, [.val 2 32, .cells 3 [.u8, .u8, .u8, .u8, .u8, .u8, .int .u16, .int .u16, .int .u16], .ptr 3 3 0, .val 7 3, .cells 8 [.str, .int .i64, .int .u64, .int .i64, .int .i64, .int .i64, .str, .str, .str, .bsl], .ptr 8 8 0, .val 62 4, .val 6 22]),
  (14, 2000014, [.val 2 32, .cells 3 [.u8, .u8, .u8, .u8, .u8, .u8, .int .u16, .int .u16, .int .u16], .ptr 3 3 0, .val 7 3, .cells 8 [.str, .int .i64, .int .u64, .int .i64, .int .i64, .int .i64, .str, .str, .str, .bsl], .ptr 8 8 0, .val 79 4, .val 6 22]),
  (14, 3000003, [.val 2 32, .cells 3 [.u8, .u8, .u8, .u8, .u8, .u8, .int .u16, .int .u16, .int .u16], .ptr 3 3 0, .cells 4 [.int .i64, .int .i64, .int .i64, .int .i64, .str, .str, .str, .int .u64, .int .u64], .ptr 4 4 0, .val 6 22, .val 7 3]),
  (14, 3000007, [.val 2 32, .cells 3 [.u8, .u8, .u8, .u8, .u8, .u8, .int .u16, .int .u16, .int .u16], .ptr 3 3 0, .cells 4 [.int .i64, .int .i64, .int .i64, .int .i64, .str, .str, .str, .int .u64, .int .u64], .ptr 4 4 0, .val 6 22, .val 7 3, .cells 8 [.str, .int .i64, .int .u64, .int .i64, .int .i64, .int .i64, .str, .str, .str, .bsl], .ptr 8 8 0]),
  (14, 3000009, [.val 2 32, .cells 3 [.u8, .u8, .u8, .u8, .u8, .u8, .int .u16, .int .u16, .int .u16], .ptr 3 3 0, .val 6 22, .val 7 3, .cells 8 [.str, .int .i64, .int .u64, .int .i64, .int .i64, .int .i64, .str, .str, .str, .bsl], .ptr 8 8 0]),
  (14, 3000011, [.val 2 32, .cells 3 [.u8, .u8, .u8, .u8, .u8, .u8, .int .u16, .int .u16, .int .u16], .ptr 3 3 0, .val 6 22, .val 7 3, .cells 8 [.str, .int .i64, .int .u64, .int .i64, .int .i64, .int .i64, .str, .str, .str, .bsl], .ptr 8 8 0]),
  (14, 3000013, [.val 2 32, .cells 3 [.u8, .u8, .u8, .u8, .u8, .u8, .int .u16, .int .u16, .int .u16], .ptr 3 3 0, .val 6 22, .val 7 3, .cells 8 [.str, .int .i64, .int .u64, .int .i64, .int .i64, .int .i64, .str, .str, .str, .bsl], .ptr 8 8 0]),
  (14, 3000015, [.val 2 32, .cells 3 [.u8, .u8, .u8, .u8, .u8, .u8, .int .u16, .int .u16, .int .u16], .ptr 3 3 0, .val 6 22, .val 7 3, .cells 8 [.str, .int .i64, .int .u64, .int .i64, .int .i64, .int .i64, .str, .str, .str, .bsl], .ptr 8 8 0]),
  (14, 3000017, [.val 2 32, .cells 3 [.u8, .u8, .u8, .u8, .u8, .u8, .int .u16, .int .u16, .int .u16], .ptr 3 3 0, .val 6 22, .val 7 3, .cells 8 [.str, .int .i64, .int .u64, .int .i64, .int .i64, .int .i64, .str, .str, .str, .bsl], .ptr 8 8 0]),
  (14, 3000022, [.cells 3 [.u8, .u8, .u8, .u8, .u8, .u8, .int .u16, .int .u16, .int .u16], .ptr 3 3 0, .val 6 22, .cells 13 [.int .i64, .int .i64, .bsl], .ptr 13 13 0]),
  (14, 3000025, [.val 6 22, .val 14 22]),
  (25, 3, [.cells 4 [.str, .str, .str, .sl 8], .ptr 4 4 0, .cells 12 [.bsl, .int .i64], .ptr 5 12 0, .cellsR 6 [.imm (.str), .imm (.str), .imm (.str), .own 20603 55 8 false], .ptr 6 6 0]),
  (25, 7, [.cells 4 [.str, .str, .str, .sl 8], .ptr 4 4 0, .cells 12 [.bsl, .int .i64], .ptr 5 12 0, .cellsR 6 [.imm (.str), .imm (.str), .imm (.str), .own 20603 55 8 false], .ptr 6 6 0, .cells 7 [.str, .str, .str, .int .u64, .int .i64, .int .i64, .int .i64, .bsl], .ptr 7 7 0, .val 8 4, .val 9 3]),
  (26, 8, [.cells 2 [.str, .str, .str, .sl 8], .ptr 2 2 0, .cells 3 [.str, .str, .str, .int .u64, .int .i64, .int .i64, .int .i64, .bsl], .ptr 3 3 0, .cells 4 [.str, .str, .str, .sl 8], .ptr 4 4 0, .rowL 7 55 8 false, .val 8 3]),
  (39, 1000023, [.val 0 3]),
  (40, 1000038, [.val 0 3]),
  (40, 1000042, [.val 0 3]),
  (46, 9, [.cells 2 [.str, .str, .str, .sl 8], .ptr 2 2 0, .cells 3 [.str, .str, .str, .int .u64, .int .i64, .int .i64, .int .i64, .bsl], .ptr 3 3 0, .cells 4 [.str, .str, .str, .sl 8], .ptr 4 4 0, .rowL 8 55 8 false, .val 28 28, .val 29 3, .val 30 3]),
  (52, 4, [.cells 2 [.str, .str, .str, .sl 8], .ptr 2 2 0, .cells 3 [.str, .str, .str, .sl 8], .ptr 3 3 0, .val 4 4, .val 5 3]),
  (66, 3, [.cells 0 [.bsl, .int .i64], .ptr 0 0 0, .cells 2 [.str, .str, .str, .int .u64, .int .i64, .int .i64, .int .i64, .bsl], .ptr 2 2 0, .cellsR 3 [.imm (.str), .imm (.str), .imm (.str), .imm (.int .u64), .imm (.int .i64), .imm (.int .i64), .imm (.int .i64), .own 20307 5 1 true], .ptr 3 3 0, .val 4 3]),
  (67, 6, [.cells 1 [.str, .str, .str, .sl 8], .ptr 1 1 0, .val 2 41, .val 3 3]),
  (76, 2, [.cells 2 [.str, .str, .str, .sl 8], .ptr 2 2 0, .cells 3 [.str, .str, .str], .ptr 3 3 0, .cells 4 [.str, .str, .str, .int .u64, .int .i64, .int .i64, .int .i64, .bsl], .ptr 4 4 0, .val 5 4, .val 6 3]),
  (80, 2, [.rowB 3 5 false]),
  (81, 3, [.val 0 32, .rowB 3 5 false, .val 4 3]),
  (84, 6, [.cells 1 [.str, .str, .str, .sl 8], .ptr 1 1 0, .val 2 41, .val 14 28, .val 15 3, .val 16 3]),
  (93, 2, [.val 0 3, .val 7 67, .val 8 3, .val 9 3]),
  (95, 5, [.val 1 67, .val 4 4, .val 5 41, .val 6 3, .val 7 4, .val 9 3]),
  (101, 5, [.val 0 22, .val 4 32, .val 5 3]),
  (109, 3, [.val 1 3, .val 2 3, .val 3 4, .rowB 9 5 false, .val 10 3]),
  (119, 2, [.val 0 9, .val 1 9, .val 4 4, .val 5 3]),
  (119, 7, [.val 0 9, .val 1 9, .val 4 4, .val 5 3, .val 6 3]),
  (121, 2, [.val 0 28, .cells 3 [.str, .str, .str], .ptr 3 3 0, .val 4 3, .val 7 28, .val 8 3, .val 9 3]),
  (123, 2, [.val 0 3, .val 4 4, .val 7 67, .val 8 3, .val 9 3]),
  (154, 3, [.val 0 32, .rowB 3 5 false, .val 7 3, .val 8 3]),
  (161, 2, [.val 0 9, .val 1 9, .val 4 4, .val 7 3, .val 8 3]),
  (163, 6, [.val 0 22, .val 1 3, .val 2 3, .val 3 4, .val 12 3, .val 22 3, .val 23 3]),
  (165, 3, [.val 0 22, .val 1 3, .val 2 3, .val 3 4, .barr 9 false, .ptr 9 9 0, .val 12 3, .val 13 3]),
  (167, 5, [.val 4 32, .val 10 22, .val 11 3, .val 12 3]),
  (169, 4, [.val 0 22, .val 1 3, .cells 4 [.str, .str, .str], .ptr 4 4 0, .val 5 3, .val 6 41, .cells 7 [.str, .str, .str], .ptr 7 7 0, .psl 14 7 [0, 1, 2], .val 15 3, .val 16 3]),
  (171, 6, [.val 2 3, .val 3 4, .val 11 22, .val 12 3, .val 14 3, .val 15 3]),
  (172, 4, [.val 0 22, .val 1 3, .val 4 9, .val 5 3, .val 6 41, .val 7 3]),
  (173, 3, [.val 0 183, .val 3 3, .val 9 183, .val 10 3, .val 11 3]),
  (173, 11, [.rowB 6 5 false, .val 25 183, .val 26 3, .val 27 3])]

def ownT : List Nat := [109, 176, 58, 60, 79, 173, 165, 131, 152, 166]

def rtsT : List (Nat × List Nat) := [(11, [32]), (18, [4]), (28, [32]), (35, [27]), (40, [22]), (42, [9]), (53, [4]), (59, [22]), (64, [4]), (65, [4]), (68, [109]), (69, [32]), (76, [55, 4]), (78, [4]), (80, [22]), (81, [22]), (83, [4]), (90, [4]), (93, [3]), (105, [27]), (109, [22]), (115, [3]), (116, [4]), (118, [22]), (119, [4]), (120, [4]), (121, [3]), (123, [4]), (125, [4]), (128, [4]), (129, [4]), (135, [4]), (139, [22]), (147, [4]), (148, [4]), (149, [4]), (150, [4]), (153, [4]), (154, [22]), (156, [4]), (162, [4]), (164, [41]), (176, [22]), (179, [3]), (180, [3]), (27, [27]), (29, [9]), (32, [4]), (45, [3, 4]), (52, [4]), (56, [27]), (58, [22]), (60, [22]), (73, [4]), (74, [4]), (75, [4]), (79, [22]), (82, [22]), (94, [55]), (103, [3, 3, 4]), (104, [3]), (122, [3, 4, 41]), (126, [22, 3, 41]), (130, [22]), (163, [3, 3, 41]), (173, [22]), (177, [3]), (178, [3]), (9, [27]), (17, [4]), (20, [22, 41]), (24, [27]), (36, [4]), (39, [22, 41]), (54, [4]), (55, [3]), (85, [4, 41]), (87, [22]), (124, [3, 3, 41]), (127, [3, 3, 41]), (155, [22]), (158, [22]), (165, [22]), (168, [3, 3, 41]), (174, [3]), (175, [9, 3, 41]), (38, [22, 41]), (63, [30, 41]), (66, [55]), (67, [41]), (86, [3]), (88, [3]), (107, [22, 41]), (131, [22]), (134, [3]), (151, [41]), (152, [22]), (160, [22]), (161, [4]), (166, [22]), (167, [32, 4]), (14, [22]), (23, [34, 41]), (25, [30]), (26, [30, 41]), (106, [22, 41]), (110, [4]), (111, [4]), (132, [22]), (133, [142, 3, 41]), (136, [32]), (159, [22]), (8, [34]), (89, [22, 41]), (91, [22, 4]), (112, [4]), (43, [64, 41]), (61, [4]), (84, [41]), (157, [41]), (169, [27, 3, 41]), (170, [41]), (41, [41]), (46, [30, 41]), (108, [22, 41]), (137, [27]), (138, [22, 41]), (57, [22, 41]), (92, [90, 41]), (19, [36, 22, 41]), (44, [90, 41]), (15, [34, 36, 55, 41]), (6, [4]), (4, [4])]

def sp11 : Abs.Spec := fun xs bl => match xs, bl with
  | [.int .i64 n], [] => chk (decide (0 ≤ n) && decide (n ≤ 1000)) (some (.int .u64 (Kerb.long n), []))
  | _, _ => none

def sp18 : Abs.Spec := fun xs bl => match xs, bl with
  | [.agg [.str x, .str y, .str z, .int .u64 k, .int .i64 lf, .int .i64 kv, .int .i64 iss, .bs tk], .agg [.str s1, .str s2, .str s3, .int .u64 sk2, .int .i64 lf2, .int .i64 kv2, .int .i64 is2, .bs tk2]], [] => some (.bool ((x == s1 && (y == s2 && z == s3)) && k == sk2 && lf == lf2 && kv == kv2 && iss == is2 && tk == tk2), [])
  | _, _ => none

def sp28 : Abs.Spec := fun xs bl => match xs, bl with
  | [.int .i64 n], [] => chk (decide (0 ≤ n) && decide (n ≤ 1000)) (some (.int .u64 (Kerb.session n), []))
  | _, _ => none

def sp35 : Abs.Spec := fun xs bl => match xs, bl with
  | [.str r, .str t], [] => some (.agg [.str [107, 114, 98, 116, 103, 116], .str t, .str r], [])
  | _, _ => none

def sp40 : Abs.Spec := fun xs bl => match xs, bl with
  | [.bs b, .int .u16 how], [] => chk (decide (b.length ≤ 1000000) && decide (0 ≤ how) && decide (how ≤ 65535)) (some (.bs (Kerb.spoil b how), []))
  | _, _ => none

def sp42 : Abs.Spec := fun xs bl => match xs, bl with
  | [.int .i64 n], [] => some (.str (Kerb.kaLabel n), [])
  | _, _ => none

def sp53 : Abs.Spec := fun xs bl => match xs, bl with
  | [.int .i64 n, .int .i64 m], [] => some (.bool (Kerb.within n m), [])
  | _, _ => none

def sp59 : Abs.Spec := fun xs bl => match xs, bl with
  | [.int .i64 k, .bool little], [] => some (.bs (Kerb.header k little), [])
  | _, _ => none

def sp64 : Abs.Spec := fun xs bl => match xs, bl with
  | [.int .i64 n, .int .i64 m], [] => some (.bool (Kerb.within n m), [])
  | _, _ => none

def sp65 : Abs.Spec := fun xs bl => match xs, bl with
  | [.ptr 0 0], [(0, [.bs l, .int .i64 pos])] => some (.bool (decide (pos < (l.length : Int))), [[.bs l, .int .i64 pos]])
  | _, _ => none

def sp68 : Abs.Spec := fun xs bl => match xs, bl with
  | [], [] => some (.sl 1 [.str [65, 84, 72], .str [66, 79, 83], .str [67, 65, 77]], [])
  | _, _ => none

def sp69 : Abs.Spec := fun xs bl => match xs, bl with
  | [.int .i64 c, .int .i64 n], [] => some (.int .u64 (cond (Kerb.isClass c && Kerb.isSerial n) (c * 72057594037927936 + n) 0), [])
  | _, _ => none

def sp76 : Abs.Spec := fun xs bl => match xs, bl with
  | [.agg [.str o1, .str o2, .str o3, .sl 8 els], .agg [.str x, .str y, .str z]], [] => chk (els.all Kerb.isCred && decide (els.length ≤ 1000000)) (some (.tup [.agg [.str ((Kerb.getCred (els.map Kerb.toCred) ⟨x, y, z⟩).1).service.name, .str ((Kerb.getCred (els.map Kerb.toCred) ⟨x, y, z⟩).1).service.inst, .str ((Kerb.getCred (els.map Kerb.toCred) ⟨x, y, z⟩).1).service.realm, .int .u64 ((Kerb.getCred (els.map Kerb.toCred) ⟨x, y, z⟩).1).session, .int .i64 ((Kerb.getCred (els.map Kerb.toCred) ⟨x, y, z⟩).1).life, .int .i64 ((Kerb.getCred (els.map Kerb.toCred) ⟨x, y, z⟩).1).kvno, .int .i64 ((Kerb.getCred (els.map Kerb.toCred) ⟨x, y, z⟩).1).issued, .bs ((Kerb.getCred (els.map Kerb.toCred) ⟨x, y, z⟩).1).ticket], .bool (Kerb.getCred (els.map Kerb.toCred) ⟨x, y, z⟩).2], []))
  | _, _ => none

def sp78 : Abs.Spec := fun xs bl => match xs, bl with
  | [.int .i64 n, .int .i64 m], [] => some (.bool (Kerb.within n m), [])
  | _, _ => none

def sp80 : Abs.Spec := fun xs bl => match xs, bl with
  | [.bs b], [] => chk (decide (b.length ≤ 70368744177664)) (some (.bs (Kerb.pad b), []))
  | _, _ => none

def sp81 : Abs.Spec := fun xs bl => match xs, bl with
  | [.int .u64 k], [] => chk (decide (0 ≤ k) && decide (k < 18446744073709551616)) (some (.bs (Kerb.keyBytes k), []))
  | _, _ => none

def sp83 : Abs.Spec := fun xs bl => match xs, bl with
  | [.int .i64 n, .int .i64 m], [] => some (.bool (Kerb.within n m), [])
  | _, _ => none

def sp90 : Abs.Spec := fun xs bl => match xs, bl with
  | [.bs a, .bs b], [] => some (.bool (a == b), [])
  | _, _ => none

def sp93 : Abs.Spec := fun xs bl => match xs, bl with
  | [.int .i64 n, .sl 1 [.int .i64 m]], [] => some (.int .i64 (Kerb.imin n m), [])
  | _, _ => none

def sp105 : Abs.Spec := fun xs bl => match xs, bl with
  | [.str r, .str t], [] => some (.agg [.str [107, 114, 98, 116, 103, 116], .str t, .str r], [])
  | _, _ => none

def sp109 : Abs.Spec := fun xs bl => match xs, bl with
  | [.bs b, .int .i64 n, .int .i64 k, .bool little], [] => chk (decide (k = 1 ∨ k = 2 ∨ k = 4) && decide (b.length ≤ 70368744177664)) (some (.ownB (b ++ Kerb.putN n k.toNat little), []))
  | _, _ => none

def sp115 : Abs.Spec := fun xs bl => match xs, bl with
  | [.ptr 0 0, .int .i64 n], [(0, [.bs l, .int .i64 pos])] => chk (decide (l.length ≤ 4611686018427387904) && decide (0 ≤ pos)) (some (.int .i64 (Kerb.next l pos n), [[.bs l, .int .i64 (Kerb.nextPos l pos n)]]))
  | _, _ => none

def sp116 : Abs.Spec := fun xs bl => match xs, bl with
  | [.int .i64 n, .int .i64 m], [] => some (.bool (Kerb.within n m), [])
  | _, _ => none

def sp118 : Abs.Spec := fun xs bl => match xs, bl with
  | [.bs b, .str s], [] => chk (decide (b.length + s.length ≤ 70368744177664)) (some (.bs (Kerb.putText b s), []))
  | _, _ => none

def sp119 : Abs.Spec := fun xs bl => match xs, bl with
  | [.str s, .str bad], [] => chk (decide (s.length ≤ 9223372036854775807) && decide (bad.length ≤ 100)) (some (.bool (Kerb.printable s bad && decide (s.length ≤ 39)), []))
  | _, _ => none

def sp120 : Abs.Spec := fun xs bl => match xs, bl with
  | [.int .i64 n, .int .i64 m], [] => some (.bool (Kerb.within n m), [])
  | _, _ => none

def sp121 : Abs.Spec := fun xs bl => match xs, bl with
  | [.sl 8 els, .agg [.str x, .str y, .str z]], [] => chk (els.all Kerb.isCred && decide (els.length ≤ 1000000)) (some (.int .i64 ((Kerb.credAt (els.map Kerb.toCred) ⟨x, y, z⟩ : Nat) : Int), []))
  | _, _ => none

def sp123 : Abs.Spec := fun xs bl => match xs, bl with
  | [.int .i64 k, .sl 1 els], [] => chk (allInts els && decide (els.length ≤ 1000)) (some (.bool ((intsIn els).contains k), []))
  | _, _ => none

def sp125 : Abs.Spec := fun xs bl => match xs, bl with
  | [.ptr 0 0, .int .i64 nx, .int .i64 e], [(0, [.bs B, .int .i64 at_, .bool bad])] => some (.bool (!(bad || !(e == 0))), [[.bs B, .int .i64 (cond (bad || !(e == 0)) at_ nx), .bool (bad || !(e == 0))]])
  | _, _ => none

def sp128 : Abs.Spec := fun xs bl => match xs, bl with
  | [.int .i64 n], [] => some (.bool (Kerb.kaOp n), [])
  | _, _ => none

def sp129 : Abs.Spec := fun xs bl => match xs, bl with
  | [.int .i64 n, .int .i64 m], [] => some (.bool (Kerb.within n m), [])
  | _, _ => none

def sp135 : Abs.Spec := fun xs bl => match xs, bl with
  | [.str l], [] => some (.bool (Kerb.ticketed l), [])
  | _, _ => none

def sp139 : Abs.Spec := fun xs bl => match xs, bl with
  | [.bs b], [] => chk (decide (b.length ≤ 140737488355328)) (some (.bs b, []))
  | _, _ => none

def sp147 : Abs.Spec := fun xs bl => match xs, bl with
  | [.int .i64 k], [] => some (.bool (Kerb.isClass k), [])
  | _, _ => none

def sp148 : Abs.Spec := fun xs bl => match xs, bl with
  | [.int .i64 k], [] => some (.bool (Kerb.isSerial k), [])
  | _, _ => none

def sp149 : Abs.Spec := fun xs bl => match xs, bl with
  | [.int .i64 n], [] => some (.bool (Kerb.within n 4294967295), [])
  | _, _ => none

def sp150 : Abs.Spec := fun xs bl => match xs, bl with
  | [.int .i64 n], [] => some (.bool (Kerb.within n 255), [])
  | _, _ => none

def sp153 : Abs.Spec := fun xs bl => match xs, bl with
  | [.str l], [] => some (.bool (Kerb.timed l), [])
  | _, _ => none

def sp154 : Abs.Spec := fun xs bl => match xs, bl with
  | [.int .u64 k], [] => chk (decide (0 ≤ k) && decide (k < 18446744073709551616)) (some (.bs (Kerb.keyBytes k), []))
  | _, _ => none

def sp156 : Abs.Spec := fun xs bl => match xs, bl with
  | [.int .i64 k], [] => some (.bool (Kerb.isKind k), [])
  | _, _ => none

def sp162 : Abs.Spec := fun xs bl => match xs, bl with
  | [.int .i64 k], [] => some (.bool (Kerb.isKind k), [])
  | _, _ => none

def sp164 : Abs.Spec := fun xs bl => match xs, bl with
  | [.bs b, .int .i64 pos, .int .i64 n], [] => chk (decide (b.length ≤ 4611686018427387904)) (some (.int .i64 (Kerb.room b pos n), []))
  | _, _ => none

def sp176 : Abs.Spec := fun xs bl => match xs, bl with
  | [.nils, .int .i64 n], [] => chk (decide (0 ≤ n) && decide (n ≤ 140737488355328)) (some (.ownB [], []))
  | _, _ => none

def sp179 : Abs.Spec := fun xs bl => match xs, bl with
  | [.str s, .u8 c], [] => some (.int .i64 (Kerb.indexOf c s), [])
  | _, _ => none

def sp180 : Abs.Spec := fun xs bl => match xs, bl with
  | [.bs s, .u8 c], [] => some (.int .i64 (Kerb.indexOf c s), [])
  | _, _ => none

def sp27 : Abs.Spec := fun xs bl => match xs, bl with
  | [.agg [.str m1, .str m2, .str m3], .agg [.str x, .str y, .str z]], [] => some (.agg [.str [107, 114, 98, 116, 103, 116], .str z, .str m3], [])
  | _, _ => none

def sp29 : Abs.Spec := fun xs bl => match xs, bl with
  | [.int .i64 n], [] => chk (decide (0 ≤ n)) (some (.str (Kerb.realm n), []))
  | _, _ => none

def sp32 : Abs.Spec := fun xs bl => match xs, bl with
  | [.int .u64 k], [] => chk (decide (0 ≤ k) && decide (k < 18446744073709551616)) (some (.bool (Kerb.keyValid k), []))
  | _, _ => none

def sp45 : Abs.Spec := fun xs bl => match xs, bl with
  | [.int .i64 n], [] => chk (decide (-9223372036854775808 ≤ n) && decide (n ≤ 9223372036854775807)) (some (.tup [.int .i64 (cond (decide (n < 300)) 0 (Kerb.fromSec n)), .bool (!decide (n < 300))], []))
  | _, _ => none

def sp52 : Abs.Spec := fun xs bl => match xs, bl with
  | [.agg [.str o1, .str o2, .str o3, .sl 8 els], .agg [.str o1b, .str o2b, .str o3b, .sl 8 elsb]], [] => chk (els.all Kerb.isCred && decide (els.length ≤ 1000000) && elsb.all Kerb.isCred && decide (elsb.length ≤ 1000000)) (some (.bool (Kerb.Cache.same (Kerb.Cache.mk ⟨o1, o2, o3⟩ (els.map Kerb.toCred)) (Kerb.Cache.mk ⟨o1b, o2b, o3b⟩ (elsb.map Kerb.toCred))), []))
  | _, _ => none

def sp56 : Abs.Spec := fun xs bl => match xs, bl with
  | [.agg [.str m1, .str m2, .str m3, .int .i64 ad, .int .i64 sk, .bool li, .str o1, .str o2, .str o3, .sl 8 els, .int .i64 wt, .str w1, .str w2, .str w3, .int .u64 se, .int .i64 tm, .int .i64 lf, .int .i64 cs, .int .i64 tc]], [] => some (.agg [.str [107, 114, 98, 116, 103, 116], .str m3, .str m3], [])
  | _, _ => none

def sp58 : Abs.Spec := fun xs bl => match xs, bl with
  | [.bs b, .int .i64 n], [] => chk (decide (b.length ≤ 70368744177664)) (some (.ownB (b ++ Kerb.putN n 1 false), []))
  | _, _ => none

def sp60 : Abs.Spec := fun xs bl => match xs, bl with
  | [.bs b, .int .i64 n, .bool little], [] => chk (decide (b.length ≤ 70368744177664)) (some (.ownB (b ++ Kerb.putN n 2 little), []))
  | _, _ => none

def sp73 : Abs.Spec := fun xs bl => match xs, bl with
  | [.str s], [] => chk (decide (s.length ≤ 9223372036854775807)) (some (.bool (Kerb.validName s), []))
  | _, _ => none

def sp74 : Abs.Spec := fun xs bl => match xs, bl with
  | [.str s], [] => chk (decide (s.length ≤ 9223372036854775807)) (some (.bool (Kerb.validInst s), []))
  | _, _ => none

def sp75 : Abs.Spec := fun xs bl => match xs, bl with
  | [.str s], [] => chk (decide (s.length ≤ 9223372036854775807)) (some (.bool (Kerb.validRealm s), []))
  | _, _ => none

def sp79 : Abs.Spec := fun xs bl => match xs, bl with
  | [.bs b, .int .i64 n, .bool little], [] => chk (decide (b.length ≤ 70368744177664)) (some (.ownB (b ++ Kerb.putN n 4 little), []))
  | _, _ => none

def sp82 : Abs.Spec := fun xs bl => match xs, bl with
  | [.bs b, .agg [.str x, .str y, .str z]], [] => chk (decide (b.length + x.length + y.length + z.length ≤ 70368744170000)) (some (.bs (Kerb.putPrin b ⟨x, y, z⟩), []))
  | _, _ => none

def sp94 : Abs.Spec := fun xs bl => match xs, bl with
  | [.agg [.str x, .str y, .str z, .int .u64 k, .int .i64 lf, .int .i64 kv, .int .i64 iss, .bs tk]], [] => chk (decide (tk.length ≤ 140737488355328)) (some (.agg [.str x, .str y, .str z, .int .u64 k, .int .i64 lf, .int .i64 kv, .int .i64 iss, .bs tk], []))
  | _, _ => none

def sp103 : Abs.Spec := fun xs bl => match xs, bl with
  | [.int .u64 k], [] => chk (decide (0 ≤ k) && decide (k < 18446744073709551616)) (some (.tup [.int .i64 (cond (Kerb.keyValid k) (Kerb.keyClass k) 0), .int .i64 (cond (Kerb.keyValid k) (Kerb.keySerial k) 0), .bool (Kerb.keyValid k)], []))
  | _, _ => none

def sp104 : Abs.Spec := fun xs bl => match xs, bl with
  | [.int .i64 i, .int .i64 l], [] => some (.int .i64 (Kerb.tEnd i l), [])
  | _, _ => none

def sp122 : Abs.Spec := fun xs bl => match xs, bl with
  | [.bs b], [] => some (.tup [.int .i64 (Kerb.readHead b).kind, .bool (Kerb.readHead b).little, .int .i64 (Kerb.readHead b).err], [])
  | _, _ => none

def sp126 : Abs.Spec := fun xs bl => match xs, bl with
  | [.bs b, .int .i64 pos, .int .i64 n], [] => chk (decide (b.length ≤ 140737488355328)) (some (.tup [.bs (Kerb.bytes b pos n).val, .int .i64 (Kerb.bytes b pos n).next, .int .i64 (Kerb.bytes b pos n).err], []))
  | _, _ => none

def sp130 : Abs.Spec := fun xs bl => match xs, bl with
  | [.int .i64 k, .bool little], [] => some (.bs (Kerb.header k little), [])
  | _, _ => none

def sp163 : Abs.Spec := fun xs bl => match xs, bl with
  | [.bs b, .int .i64 pos, .int .i64 k, .bool little], [] => chk (decide (b.length ≤ 4611686018427387904) && decide (0 ≤ k) && decide (k ≤ 4)) (some (.tup [.int .i64 (Kerb.get b pos k little).val, .int .i64 (Kerb.get b pos k little).next, .int .i64 (Kerb.get b pos k little).err], []))
  | _, _ => none

def sp173 : Abs.Spec := fun xs bl => match xs, bl with
  | [.sl 1 els], [] => chk (allB els && decide ((catB els).length ≤ 140737488355328) && decide (els.length ≤ 1000)) (some (.ownB (catB els), []))
  | _, _ => none

def sp177 : Abs.Spec := fun xs bl => match xs, bl with
  | [.str s, .u8 c], [] => some (.int .i64 (Kerb.indexOf c s), [])
  | _, _ => none

def sp178 : Abs.Spec := fun xs bl => match xs, bl with
  | [.bs s, .u8 c], [] => some (.int .i64 (Kerb.indexOf c s), [])
  | _, _ => none

def sp9 : Abs.Spec := fun xs bl => match xs, bl with
  | [.int .i64 n], [] => chk (decide (0 ≤ n) && decide (n ≤ 4611686018427387904)) (some (.agg [.str (Kerb.service n).name, .str (Kerb.service n).inst, .str (Kerb.service n).realm], []))
  | _, _ => none

def sp17 : Abs.Spec := fun xs bl => match xs, bl with
  | [.agg [.str m1, .str m2, .str m3, .int .i64 ad, .int .i64 sk, .bool li, .str o1, .str o2, .str o3, .sl 8 els, .int .i64 wt, .str w1, .str w2, .str w3, .int .u64 se, .int .i64 tm, .int .i64 lf, .int .i64 cs, .int .i64 tc], .agg [.str m1b, .str m2b, .str m3b, .int .i64 adb, .int .i64 skb, .bool lib, .str o1b, .str o2b, .str o3b, .sl 8 elsb, .int .i64 wtb, .str w1b, .str w2b, .str w3b, .int .u64 seb, .int .i64 tmb, .int .i64 lfb, .int .i64 csb, .int .i64 tcb]], [] => chk (els.all Kerb.isCred && decide (els.length ≤ 1000000) && elsb.all Kerb.isCred && decide (elsb.length ≤ 1000000)) (some (.bool (Kerb.Client.same (Kerb.Client.mk ⟨m1, m2, m3⟩ ad sk li ⟨⟨o1, o2, o3⟩, els.map Kerb.toCred⟩ wt ⟨w1, w2, w3⟩ se tm lf cs tc) (Kerb.Client.mk ⟨m1b, m2b, m3b⟩ adb skb lib ⟨⟨o1b, o2b, o3b⟩, elsb.map Kerb.toCred⟩ wtb ⟨w1b, w2b, w3b⟩ seb tmb lfb csb tcb)), []))
  | _, _ => none

def sp20 : Abs.Spec := fun xs bl => match xs, bl with
  | [.agg [.int .i64 op, .int .i64 cd, .bs bx]], [] => some (.tup [.bs (Kerb.encodeKaReply ⟨op, cd, bx⟩).val, .int .i64 (Kerb.encodeKaReply ⟨op, cd, bx⟩).err], [])
  | _, _ => none

def sp24 : Abs.Spec := fun xs bl => match xs, bl with
  | [.int .i64 n], [] => chk (decide (0 ≤ n) && decide (n ≤ 4611686018427387904)) (some (.agg [.str (Kerb.user n).name, .str (Kerb.user n).inst, .str (Kerb.user n).realm], []))
  | _, _ => none

def sp36 : Abs.Spec := fun xs bl => match xs, bl with
  | [.agg [.str a, .str b, .str c]], [] => chk (decide (a.length ≤ 9223372036854775807) && decide (b.length ≤ 9223372036854775807) && decide (c.length ≤ 9223372036854775807)) (some (.bool (Kerb.Prin.valid ⟨a, b, c⟩), []))
  | _, _ => none

def sp39 : Abs.Spec := fun xs bl => match xs, bl with
  | [.int .i64 kd, .int .u64 k, .bs bd], [] => chk (decide (0 ≤ k) && decide (k < 18446744073709551616)) (some (.tup [.bs (Kerb.makeBox kd k bd).val, .int .i64 (Kerb.makeBox kd k bd).err], []))
  | _, _ => none

def sp54 : Abs.Spec := fun xs bl => match xs, bl with
  | [.int .u64 k], [] => chk (decide (0 ≤ k) && decide (k < 18446744073709551616)) (some (.bool (Kerb.keyValid k), []))
  | _, _ => none

def sp55 : Abs.Spec := fun xs bl => match xs, bl with
  | [.int .i64 n, .int .i64 l], [] => some (.int .i64 (Kerb.kaEnd n l), [])
  | _, _ => none

def sp85 : Abs.Spec := fun xs bl => match xs, bl with
  | [.bs b, .sl 1 els], [] => chk (allInts els && decide (els.length ≤ 1000)) (some (.tup [.bool (Kerb.headIs b (intsIn els)).1, .int .i64 (Kerb.headIs b (intsIn els)).2], []))
  | _, _ => none

def sp87 : Abs.Spec := fun xs bl => match xs, bl with
  | [.ptr 0 0, .int .i64 n], [(0, [.bs B, .int .i64 at_, .bool bad])] => chk (decide (B.length ≤ 140737488355328)) (some (.bs (Kerb.pBytes B n at_ bad).val, [[.bs B, .int .i64 (Kerb.pBytes B n at_ bad).pos, .bool (Kerb.pBytes B n at_ bad).bad]]))
  | _, _ => none

def sp124 : Abs.Spec := fun xs bl => match xs, bl with
  | [.bs b, .int .i64 pos], [] => chk (decide (b.length ≤ 4611686018427387904)) (some (.tup [.int .i64 (Kerb.get b pos 1 false).val, .int .i64 (Kerb.get b pos 1 false).next, .int .i64 (Kerb.get b pos 1 false).err], []))
  | _, _ => none

def sp127 : Abs.Spec := fun xs bl => match xs, bl with
  | [.bs b, .int .i64 pos, .bool little], [] => chk (decide (b.length ≤ 4611686018427387904)) (some (.tup [.int .i64 (Kerb.get b pos 2 little).val, .int .i64 (Kerb.get b pos 2 little).next, .int .i64 (Kerb.get b pos 2 little).err], []))
  | _, _ => none

def sp155 : Abs.Spec := fun xs bl => match xs, bl with
  | [.bs b], [] => chk (decide (b.length ≤ 70368744177664)) (some (.bs (Kerb.pad b), []))
  | _, _ => none

def sp158 : Abs.Spec := fun xs bl => match xs, bl with
  | [.bs b, .str s], [] => chk (decide (b.length + s.length ≤ 70368744177664)) (some (.bs (Kerb.putText b s), []))
  | _, _ => none

def sp165 : Abs.Spec := fun xs bl => match xs, bl with
  | [.bs b, .int .i64 n, .int .i64 k, .bool little], [] => chk (decide (k = 1 ∨ k = 2 ∨ k = 4) && decide (b.length ≤ 70368744177664)) (some (.ownB (b ++ Kerb.putN n k.toNat little), []))
  | _, _ => none

def sp168 : Abs.Spec := fun xs bl => match xs, bl with
  | [.bs b, .int .i64 pos, .bool little], [] => chk (decide (b.length ≤ 4611686018427387904)) (some (.tup [.int .i64 (Kerb.get b pos 4 little).val, .int .i64 (Kerb.get b pos 4 little).next, .int .i64 (Kerb.get b pos 4 little).err], []))
  | _, _ => none

def sp174 : Abs.Spec := fun xs bl => match xs, bl with
  | [.str s, .u8 c], [] => some (.int .i64 (Kerb.indexOf c s), [])
  | _, _ => none

def sp175 : Abs.Spec := fun xs bl => match xs, bl with
  | [.bs b, .int .i64 pos], [] => chk (decide (b.length ≤ 4611686018427387904)) (some (.tup [.str (Kerb.text b pos).val, .int .i64 (Kerb.text b pos).next, .int .i64 (Kerb.text b pos).err], []))
  | _, _ => none

def sp38 : Abs.Spec := fun xs bl => match xs, bl with
  | [.agg [.str lb, .int .i64 t, .int .u64 k, .int .i64 st, .int .i64 en, .int .i64 kv, .str x, .str y, .str z, .bs tk]], [] => chk (decide (x.length ≤ 9223372036854775807) && decide (y.length ≤ 9223372036854775807) && decide (z.length ≤ 9223372036854775807) && decide (0 ≤ k) && decide (k < 18446744073709551616)) (some (.tup [.bs (Kerb.encodeKaAnswer ⟨lb, t, k, st, en, kv, ⟨x, y, z⟩, tk⟩).val, .int .i64 (Kerb.encodeKaAnswer ⟨lb, t, k, st, en, kv, ⟨x, y, z⟩, tk⟩).err], []))
  | _, _ => none

def sp63 : Abs.Spec := fun xs bl => match xs, bl with
  | [.agg [.str x, .str y, .str z]], [] => chk (decide (x.length ≤ 9223372036854775807) && decide (y.length ≤ 9223372036854775807) && decide (z.length ≤ 9223372036854775807)) (some (.tup [.agg [.str (cond (Kerb.Prin.valid ⟨x, y, z⟩) (Kerb.Cache.mk ⟨x, y, z⟩ []) Kerb.noCache).owner.name, .str (cond (Kerb.Prin.valid ⟨x, y, z⟩) (Kerb.Cache.mk ⟨x, y, z⟩ []) Kerb.noCache).owner.inst, .str (cond (Kerb.Prin.valid ⟨x, y, z⟩) (Kerb.Cache.mk ⟨x, y, z⟩ []) Kerb.noCache).owner.realm, .sl 8 ((cond (Kerb.Prin.valid ⟨x, y, z⟩) (Kerb.Cache.mk ⟨x, y, z⟩ []) Kerb.noCache).creds.map Kerb.Cred.av)], .int .i64 (cond (Kerb.Prin.valid ⟨x, y, z⟩) 0 103)], []))
  | _, _ => none

def sp66 : Abs.Spec := fun xs bl => match xs, bl with
  | [.ptr 0 0], [(0, [.bs l, .int .i64 pos])] => chk (decide (l.length ≤ 1000000) && decide (0 ≤ pos)) (some (.agg [.str (Kerb.dataCred l pos).service.name, .str (Kerb.dataCred l pos).service.inst, .str (Kerb.dataCred l pos).service.realm, .int .u64 (Kerb.dataCred l pos).session, .int .i64 (Kerb.dataCred l pos).life, .int .i64 (Kerb.dataCred l pos).kvno, .int .i64 (Kerb.dataCred l pos).issued, .bs (Kerb.dataCred l pos).ticket], [[.bs l, .int .i64 (Kerb.dataPos l pos)]]))
  | _, _ => none

def sp67 : Abs.Spec := fun xs bl => match xs, bl with
  | [.agg [.str o1, .str o2, .str o3, .sl 8 els]], [] => chk (decide (o1.length ≤ 9223372036854775807) && decide (o2.length ≤ 9223372036854775807) && decide (o3.length ≤ 9223372036854775807) && els.all Kerb.isCred && decide (els.length ≤ 1000000)) (some (.int .i64 (Kerb.Cache.mk ⟨o1, o2, o3⟩ (els.map Kerb.toCred)).err, []))
  | _, _ => none

def sp86 : Abs.Spec := fun xs bl => match xs, bl with
  | [.ptr 0 0], [(0, [.bs B, .int .i64 at_, .bool bad])] => chk (decide (B.length ≤ 140737488355328)) (some (.int .i64 (Kerb.pGet B 1 at_ bad).val, [[.bs B, .int .i64 (Kerb.pGet B 1 at_ bad).pos, .bool (Kerb.pGet B 1 at_ bad).bad]]))
  | _, _ => none

def sp88 : Abs.Spec := fun xs bl => match xs, bl with
  | [.ptr 0 0], [(0, [.bs B, .int .i64 at_, .bool bad])] => chk (decide (B.length ≤ 140737488355328)) (some (.int .i64 (Kerb.pGet B 2 at_ bad).val, [[.bs B, .int .i64 (Kerb.pGet B 2 at_ bad).pos, .bool (Kerb.pGet B 2 at_ bad).bad]]))
  | _, _ => none

def sp107 : Abs.Spec := fun xs bl => match xs, bl with
  | [.int .i64 kd, .int .u64 k, .bs bd], [] => chk (decide (0 ≤ k) && decide (k < 18446744073709551616)) (some (.tup [.bs (Kerb.makeBox kd k bd).val, .int .i64 (Kerb.makeBox kd k bd).err], []))
  | _, _ => none

def sp131 : Abs.Spec := fun xs bl => match xs, bl with
  | [.bs b, .int .i64 n], [] => chk (decide (b.length ≤ 70368744177664)) (some (.ownB (b ++ Kerb.putN n 1 false), []))
  | _, _ => none

def sp134 : Abs.Spec := fun xs bl => match xs, bl with
  | [.ptr 0 0], [(0, [.bs B, .int .i64 at_, .bool bad])] => chk (decide (B.length ≤ 140737488355328)) (some (.int .i64 (Kerb.pGet B 4 at_ bad).val, [[.bs B, .int .i64 (Kerb.pGet B 4 at_ bad).pos, .bool (Kerb.pGet B 4 at_ bad).bad]]))
  | _, _ => none

def sp151 : Abs.Spec := fun xs bl => match xs, bl with
  | [.agg [.str lb, .int .i64 t, .int .i64 st, .int .i64 en, .int .u64 k]], [] => chk (decide (0 ≤ k) && decide (k < 18446744073709551616)) (some (.int .i64 (Kerb.encodeKaSecret ⟨lb, t, st, en, k⟩).err, []))
  | _, _ => none

def sp152 : Abs.Spec := fun xs bl => match xs, bl with
  | [.bs b, .int .i64 n, .bool little], [] => chk (decide (b.length ≤ 70368744177664)) (some (.ownB (b ++ Kerb.putN n 4 little), []))
  | _, _ => none

def sp160 : Abs.Spec := fun xs bl => match xs, bl with
  | [.bs b, .agg [.str x, .str y, .str z]], [] => chk (decide (b.length + x.length + y.length + z.length ≤ 70368744170000)) (some (.bs (Kerb.putPrin b ⟨x, y, z⟩), []))
  | _, _ => none

def sp161 : Abs.Spec := fun xs bl => match xs, bl with
  | [.str s, .str bad], [] => chk (decide (s.length ≤ 9223372036854775807)) (some (.bool (Kerb.printable s bad), []))
  | _, _ => none

def sp166 : Abs.Spec := fun xs bl => match xs, bl with
  | [.bs b, .int .i64 n, .bool little], [] => chk (decide (b.length ≤ 70368744177664)) (some (.ownB (b ++ Kerb.putN n 2 little), []))
  | _, _ => none

def sp167 : Abs.Spec := fun xs bl => match xs, bl with
  | [.bs b], [] => chk (decide (b.length ≤ 4611686018427387904)) (some (.tup [.int .u64 (Kerb.keyRead b).1, .bool (Kerb.keyRead b).2], []))
  | _, _ => none

def sp14 : Abs.Spec := fun xs bl => match xs, bl with
  | [.agg [.u8 ao, .u8 al, .u8 at_, .u8 av, .u8 ak, .u8 ac, .int .u16 as_, .int .u16 ae, .int .u16 ah], .agg [.int .i64 vop, .int .i64 vtm, .int .i64 vst, .int .i64 ven, .str v1, .str v2, .str v3, .int .u64 vse, .int .u64 vne], .int .u64 k], [] => chk (decide (0 ≤ as_) && decide (as_ ≤ 65535) && decide (0 ≤ ae) && decide (ae ≤ 65535) && decide (0 ≤ ah) && decide (ah ≤ 65535) && decide (v1.length ≤ 9223372036854775807) && decide (v2.length ≤ 9223372036854775807) && decide (v3.length ≤ 9223372036854775807) && decide (0 ≤ vse) && decide (vse < 18446744073709551616) && decide (0 ≤ k) && decide (k < 18446744073709551616)) (some (.bs (Kerb.kacText (Kerb.KacAns.mk ao al at_ av ak ac as_ ae ah) (Kerb.KaWait.mk vop vtm vst ven ⟨v1, v2, v3⟩ vse vne) k), []))
  | _, _ => none

def sp23 : Abs.Spec := fun xs bl => match xs, bl with
  | [.agg [.str x, .str y, .str z], .int .i64 ad, .int .i64 sk, .bool li], [] => chk (decide (x.length ≤ 9223372036854775807) && decide (y.length ≤ 9223372036854775807) && decide (z.length ≤ 9223372036854775807)) (some (.tup [.agg [.str ((Kerb.newClient ⟨x, y, z⟩ ad sk li).val).me.name, .str ((Kerb.newClient ⟨x, y, z⟩ ad sk li).val).me.inst, .str ((Kerb.newClient ⟨x, y, z⟩ ad sk li).val).me.realm, .int .i64 ((Kerb.newClient ⟨x, y, z⟩ ad sk li).val).address, .int .i64 ((Kerb.newClient ⟨x, y, z⟩ ad sk li).val).skew, .bool ((Kerb.newClient ⟨x, y, z⟩ ad sk li).val).little, .str ((Kerb.newClient ⟨x, y, z⟩ ad sk li).val).cache.owner.name, .str ((Kerb.newClient ⟨x, y, z⟩ ad sk li).val).cache.owner.inst, .str ((Kerb.newClient ⟨x, y, z⟩ ad sk li).val).cache.owner.realm, .sl 8 (((Kerb.newClient ⟨x, y, z⟩ ad sk li).val).cache.creds.map Kerb.Cred.av), .int .i64 ((Kerb.newClient ⟨x, y, z⟩ ad sk li).val).wait, .str ((Kerb.newClient ⟨x, y, z⟩ ad sk li).val).wanted.name, .str ((Kerb.newClient ⟨x, y, z⟩ ad sk li).val).wanted.inst, .str ((Kerb.newClient ⟨x, y, z⟩ ad sk li).val).wanted.realm, .int .u64 ((Kerb.newClient ⟨x, y, z⟩ ad sk li).val).session, .int .i64 ((Kerb.newClient ⟨x, y, z⟩ ad sk li).val).time, .int .i64 ((Kerb.newClient ⟨x, y, z⟩ ad sk li).val).life, .int .i64 ((Kerb.newClient ⟨x, y, z⟩ ad sk li).val).checksum, .int .i64 ((Kerb.newClient ⟨x, y, z⟩ ad sk li).val).tick], .int .i64 (Kerb.newClient ⟨x, y, z⟩ ad sk li).err], []))
  | _, _ => none

def sp25 : Abs.Spec := fun xs bl => match xs, bl with
  | [.bs l, .int .i64 n], [] => chk (decide (l.length ≤ 1000000) && decide (0 ≤ n) && decide (n ≤ 1000)) (some (.agg [.str (Kerb.dataCache l n).owner.name, .str (Kerb.dataCache l n).owner.inst, .str (Kerb.dataCache l n).owner.realm, .sl 8 ((Kerb.dataCache l n).creds.map Kerb.Cred.av)], []))
  | _, _ => none

def sp26 : Abs.Spec := fun xs bl => match xs, bl with
  | [.agg [.str o1, .str o2, .str o3, .sl 8 els], .agg [.str x, .str y, .str z, .int .u64 k, .int .i64 lf, .int .i64 kv, .int .i64 iss, .bs tk]], [] => chk (decide (o1.length ≤ 9223372036854775807) && decide (o2.length ≤ 9223372036854775807) && decide (o3.length ≤ 9223372036854775807) && els.all Kerb.isCred && decide (els.length ≤ 1000000) && Kerb.isCred (.agg [.str x, .str y, .str z, .int .u64 k, .int .i64 lf, .int .i64 kv, .int .i64 iss, .bs tk])) (some (.tup [.agg [.str ((Kerb.storeCred (Kerb.Cache.mk ⟨o1, o2, o3⟩ (els.map Kerb.toCred)) (Kerb.Cred.mk ⟨x, y, z⟩ k lf kv iss tk)).val).owner.name, .str ((Kerb.storeCred (Kerb.Cache.mk ⟨o1, o2, o3⟩ (els.map Kerb.toCred)) (Kerb.Cred.mk ⟨x, y, z⟩ k lf kv iss tk)).val).owner.inst, .str ((Kerb.storeCred (Kerb.Cache.mk ⟨o1, o2, o3⟩ (els.map Kerb.toCred)) (Kerb.Cred.mk ⟨x, y, z⟩ k lf kv iss tk)).val).owner.realm, .sl 8 (((Kerb.storeCred (Kerb.Cache.mk ⟨o1, o2, o3⟩ (els.map Kerb.toCred)) (Kerb.Cred.mk ⟨x, y, z⟩ k lf kv iss tk)).val).creds.map Kerb.Cred.av)], .int .i64 (Kerb.storeCred (Kerb.Cache.mk ⟨o1, o2, o3⟩ (els.map Kerb.toCred)) (Kerb.Cred.mk ⟨x, y, z⟩ k lf kv iss tk)).err], []))
  | _, _ => none

def sp106 : Abs.Spec := fun xs bl => match xs, bl with
  | [.agg [.str lb, .int .i64 t, .int .i64 st, .int .i64 en, .int .u64 k]], [] => chk (decide (0 ≤ k) && decide (k < 18446744073709551616)) (some (.tup [.bs (Kerb.encodeKaSecret ⟨lb, t, st, en, k⟩).val, .int .i64 (Kerb.encodeKaSecret ⟨lb, t, st, en, k⟩).err], []))
  | _, _ => none

def sp110 : Abs.Spec := fun xs bl => match xs, bl with
  | [.str s], [] => chk (decide (s.length ≤ 9223372036854775807)) (some (.bool (Kerb.validName s), []))
  | _, _ => none

def sp111 : Abs.Spec := fun xs bl => match xs, bl with
  | [.str s], [] => chk (decide (s.length ≤ 9223372036854775807)) (some (.bool (Kerb.validInst s), []))
  | _, _ => none

def sp132 : Abs.Spec := fun xs bl => match xs, bl with
  | [.bs b, .bs t], [] => chk (decide (b.length + t.length ≤ 70368744170000)) (some (.bs (Kerb.putBox b t), []))
  | _, _ => none

def sp133 : Abs.Spec := fun xs bl => match xs, bl with
  | [.bs b], [] => chk (decide (b.length ≤ 140737488355328)) (some (.tup [.agg [.int .i64 (Kerb.readBox b).box.kind, .int .u64 (Kerb.readBox b).box.key, .bs (Kerb.readBox b).box.body], .int .i64 (Kerb.readBox b).n, .int .i64 (Kerb.readBox b).err], []))
  | _, _ => none

def sp136 : Abs.Spec := fun xs bl => match xs, bl with
  | [.ptr 0 0], [(0, [.bs B, .int .i64 at_, .bool bad])] => chk (decide (B.length ≤ 140737488355328)) (some (.int .u64 (Kerb.pKey B at_ bad).val, [[.bs B, .int .i64 (Kerb.pKey B at_ bad).pos, .bool (Kerb.pKey B at_ bad).bad]]))
  | _, _ => none

def sp159 : Abs.Spec := fun xs bl => match xs, bl with
  | [.bs b, .bs t], [] => chk (decide (b.length + t.length ≤ 70368744170000)) (some (.bs (Kerb.putTick b t), []))
  | _, _ => none

def sp8 : Abs.Spec := fun xs bl => match xs, bl with
  | [.agg [.u8 pw, .bs pc, .bool pt, .u8 pf]], [] => some (.agg [.str ((Kerb.kacPerson pw pc pt pf)).me.name, .str ((Kerb.kacPerson pw pc pt pf)).me.inst, .str ((Kerb.kacPerson pw pc pt pf)).me.realm, .int .i64 ((Kerb.kacPerson pw pc pt pf)).address, .int .i64 ((Kerb.kacPerson pw pc pt pf)).skew, .bool ((Kerb.kacPerson pw pc pt pf)).little, .str ((Kerb.kacPerson pw pc pt pf)).cache.owner.name, .str ((Kerb.kacPerson pw pc pt pf)).cache.owner.inst, .str ((Kerb.kacPerson pw pc pt pf)).cache.owner.realm, .sl 8 (((Kerb.kacPerson pw pc pt pf)).cache.creds.map Kerb.Cred.av), .int .i64 ((Kerb.kacPerson pw pc pt pf)).wait, .str ((Kerb.kacPerson pw pc pt pf)).wanted.name, .str ((Kerb.kacPerson pw pc pt pf)).wanted.inst, .str ((Kerb.kacPerson pw pc pt pf)).wanted.realm, .int .u64 ((Kerb.kacPerson pw pc pt pf)).session, .int .i64 ((Kerb.kacPerson pw pc pt pf)).time, .int .i64 ((Kerb.kacPerson pw pc pt pf)).life, .int .i64 ((Kerb.kacPerson pw pc pt pf)).checksum, .int .i64 ((Kerb.kacPerson pw pc pt pf)).tick], [])
  | _, _ => none

def sp89 : Abs.Spec := fun xs bl => match xs, bl with
  | [.agg [.int .i64 op, .int .i64 cd, .bs bx]], [] => some (.tup [.bs (Kerb.encodeKaReply ⟨op, cd, bx⟩).val, .int .i64 (Kerb.encodeKaReply ⟨op, cd, bx⟩).err], [])
  | _, _ => none

def sp91 : Abs.Spec := fun xs bl => match xs, bl with
  | [.bs b, .int .i64 kd, .int .u64 k], [] => chk (decide (b.length ≤ 140737488355328)) (some (.tup [.bs (Kerb.openBox b kd k).1, .bool (Kerb.openBox b kd k).2], []))
  | _, _ => none

def sp112 : Abs.Spec := fun xs bl => match xs, bl with
  | [.str s], [] => chk (decide (s.length ≤ 9223372036854775807)) (some (.bool (Kerb.validRealm s), []))
  | _, _ => none

def sp43 : Abs.Spec := fun xs bl => match xs, bl with
  | [.bs b], [] => chk (decide (b.length ≤ 140737488355328)) (some (.tup [.agg [.int .i64 ((Kerb.decodeKaReply b).val).op, .int .i64 ((Kerb.decodeKaReply b).val).code, .bs ((Kerb.decodeKaReply b).val).box], .int .i64 (Kerb.decodeKaReply b).err], []))
  | _, _ => none

def sp61 : Abs.Spec := fun xs bl => match xs, bl with
  | [.agg [.str a, .str b, .str c]], [] => chk (decide (a.length ≤ 9223372036854775807) && decide (b.length ≤ 9223372036854775807) && decide (c.length ≤ 9223372036854775807)) (some (.bool (Kerb.Prin.valid ⟨a, b, c⟩), []))
  | _, _ => none

def sp84 : Abs.Spec := fun xs bl => match xs, bl with
  | [.agg [.str o1, .str o2, .str o3, .sl 8 els]], [] => chk (decide (o1.length ≤ 9223372036854775807) && decide (o2.length ≤ 9223372036854775807) && decide (o3.length ≤ 9223372036854775807) && els.all Kerb.isCred && decide (els.length ≤ 1000000)) (some (.int .i64 (Kerb.Cache.mk ⟨o1, o2, o3⟩ (els.map Kerb.toCred)).err, []))
  | _, _ => none

def sp157 : Abs.Spec := fun xs bl => match xs, bl with
  | [.agg [.int .i64 op, .str ux, .str uy, .str uz, .int .i64 kv, .str rl, .bs tk, .str sv, .str ins, .bs bx]], [] => chk (decide (ux.length ≤ 9223372036854775807) && decide (uy.length ≤ 9223372036854775807) && decide (uz.length ≤ 9223372036854775807) && decide (rl.length ≤ 9223372036854775807) && decide (sv.length ≤ 9223372036854775807) && decide (ins.length ≤ 9223372036854775807)) (some (.int .i64 (Kerb.encodeKaRequest ⟨op, ⟨ux, uy, uz⟩, kv, rl, tk, sv, ins, bx⟩).err, []))
  | _, _ => none

def sp169 : Abs.Spec := fun xs bl => match xs, bl with
  | [.bs b, .int .i64 pos], [] => chk (decide (b.length ≤ 4611686018427387904)) (some (.tup [.agg [.str (Kerb.prin b pos).val.name, .str (Kerb.prin b pos).val.inst, .str (Kerb.prin b pos).val.realm], .int .i64 (Kerb.prin b pos).next, .int .i64 (Kerb.prin b pos).err], []))
  | _, _ => none

def sp170 : Abs.Spec := fun xs bl => match xs, bl with
  | [.agg [.str lb, .int .i64 t, .int .u64 k, .int .i64 st, .int .i64 en, .int .i64 kv, .str x, .str y, .str z, .bs tk]], [] => chk (decide (x.length ≤ 9223372036854775807) && decide (y.length ≤ 9223372036854775807) && decide (z.length ≤ 9223372036854775807) && decide (0 ≤ k) && decide (k < 18446744073709551616)) (some (.int .i64 (Kerb.encodeKaAnswer ⟨lb, t, k, st, en, kv, ⟨x, y, z⟩, tk⟩).err, []))
  | _, _ => none

def sp41 : Abs.Spec := fun xs bl => match xs, bl with
  | [.agg [.str m1, .str m2, .str m3, .int .i64 ad, .int .i64 sk, .bool li, .str o1, .str o2, .str o3, .sl 8 els, .int .i64 wt, .str w1, .str w2, .str w3, .int .u64 se, .int .i64 tm, .int .i64 lf, .int .i64 cs, .int .i64 tc]], [] => chk (decide (m1.length ≤ 9223372036854775807) && decide (m2.length ≤ 9223372036854775807) && decide (m3.length ≤ 9223372036854775807) && decide (o1.length ≤ 9223372036854775807) && decide (o2.length ≤ 9223372036854775807) && decide (o3.length ≤ 9223372036854775807) && els.all Kerb.isCred && decide (els.length ≤ 1000000)) (some (.int .i64 (Kerb.Client.mk ⟨m1, m2, m3⟩ ad sk li ⟨⟨o1, o2, o3⟩, els.map Kerb.toCred⟩ wt ⟨w1, w2, w3⟩ se tm lf cs tc).err, []))
  | _, _ => none

def sp46 : Abs.Spec := fun xs bl => match xs, bl with
  | [.agg [.str o1, .str o2, .str o3, .sl 8 els], .agg [.str x, .str y, .str z, .int .u64 k, .int .i64 lf, .int .i64 kv, .int .i64 iss, .bs tk]], [] => chk (decide (o1.length ≤ 9223372036854775807) && decide (o2.length ≤ 9223372036854775807) && decide (o3.length ≤ 9223372036854775807) && els.all Kerb.isCred && decide (els.length ≤ 1000000) && Kerb.isCred (.agg [.str x, .str y, .str z, .int .u64 k, .int .i64 lf, .int .i64 kv, .int .i64 iss, .bs tk])) (some (.tup [.agg [.str ((Kerb.storeCred (Kerb.Cache.mk ⟨o1, o2, o3⟩ (els.map Kerb.toCred)) (Kerb.Cred.mk ⟨x, y, z⟩ k lf kv iss tk)).val).owner.name, .str ((Kerb.storeCred (Kerb.Cache.mk ⟨o1, o2, o3⟩ (els.map Kerb.toCred)) (Kerb.Cred.mk ⟨x, y, z⟩ k lf kv iss tk)).val).owner.inst, .str ((Kerb.storeCred (Kerb.Cache.mk ⟨o1, o2, o3⟩ (els.map Kerb.toCred)) (Kerb.Cred.mk ⟨x, y, z⟩ k lf kv iss tk)).val).owner.realm, .sl 8 (((Kerb.storeCred (Kerb.Cache.mk ⟨o1, o2, o3⟩ (els.map Kerb.toCred)) (Kerb.Cred.mk ⟨x, y, z⟩ k lf kv iss tk)).val).creds.map Kerb.Cred.av)], .int .i64 (Kerb.storeCred (Kerb.Cache.mk ⟨o1, o2, o3⟩ (els.map Kerb.toCred)) (Kerb.Cred.mk ⟨x, y, z⟩ k lf kv iss tk)).err], []))
  | _, _ => none

def sp108 : Abs.Spec := fun xs bl => match xs, bl with
  | [.agg [.int .i64 op, .str ux, .str uy, .str uz, .int .i64 kv, .str rl, .bs tk, .str sv, .str ins, .bs bx]], [] => chk (decide (ux.length ≤ 9223372036854775807) && decide (uy.length ≤ 9223372036854775807) && decide (uz.length ≤ 9223372036854775807) && decide (rl.length ≤ 9223372036854775807) && decide (sv.length ≤ 9223372036854775807) && decide (ins.length ≤ 9223372036854775807)) (some (.tup [.bs (Kerb.encodeKaRequest ⟨op, ⟨ux, uy, uz⟩, kv, rl, tk, sv, ins, bx⟩).val, .int .i64 (Kerb.encodeKaRequest ⟨op, ⟨ux, uy, uz⟩, kv, rl, tk, sv, ins, bx⟩).err], []))
  | _, _ => none

def sp137 : Abs.Spec := fun xs bl => match xs, bl with
  | [.ptr 0 0], [(0, [.bs B, .int .i64 at_, .bool bad])] => chk (decide (B.length ≤ 140737488355328)) (some (.agg [.str (Kerb.pPrin B at_ bad).val.name, .str (Kerb.pPrin B at_ bad).val.inst, .str (Kerb.pPrin B at_ bad).val.realm], [[.bs B, .int .i64 (Kerb.pPrin B at_ bad).pos, .bool (Kerb.pPrin B at_ bad).bad]]))
  | _, _ => none

def sp138 : Abs.Spec := fun xs bl => match xs, bl with
  | [.agg [.str lb, .int .i64 t, .int .u64 k, .int .i64 st, .int .i64 en, .int .i64 kv, .str x, .str y, .str z, .bs tk]], [] => chk (decide (x.length ≤ 9223372036854775807) && decide (y.length ≤ 9223372036854775807) && decide (z.length ≤ 9223372036854775807) && decide (0 ≤ k) && decide (k < 18446744073709551616)) (some (.tup [.bs (Kerb.encodeKaAnswer ⟨lb, t, k, st, en, kv, ⟨x, y, z⟩, tk⟩).val, .int .i64 (Kerb.encodeKaAnswer ⟨lb, t, k, st, en, kv, ⟨x, y, z⟩, tk⟩).err], []))
  | _, _ => none

def sp57 : Abs.Spec := fun xs bl => match xs, bl with
  | [.agg [.int .i64 op, .str ux, .str uy, .str uz, .int .i64 kv, .str rl, .bs tk, .str sv, .str ins, .bs bx], .agg [.str slb, .int .i64 sst, .int .i64 sss, .int .i64 sse, .int .u64 sk], .int .u64 key], [] => chk (decide (ux.length ≤ 9223372036854775807) && decide (uy.length ≤ 9223372036854775807) && decide (uz.length ≤ 9223372036854775807) && decide (rl.length ≤ 9223372036854775807) && decide (sv.length ≤ 9223372036854775807) && decide (ins.length ≤ 9223372036854775807) && decide (0 ≤ sk) && decide (sk < 18446744073709551616) && decide (0 ≤ key) && decide (key < 18446744073709551616)) (some (.tup [.bs (Kerb.kaSend ⟨op, ⟨ux, uy, uz⟩, kv, rl, tk, sv, ins, bx⟩ ⟨slb, sst, sss, sse, sk⟩ key).val, .int .i64 (Kerb.kaSend ⟨op, ⟨ux, uy, uz⟩, kv, rl, tk, sv, ins, bx⟩ ⟨slb, sst, sss, sse, sk⟩ key).err], []))
  | _, _ => none

def sp92 : Abs.Spec := fun xs bl => match xs, bl with
  | [.bs b], [] => chk (decide (b.length ≤ 140737488355328)) (some (.tup [.agg [.str ((Kerb.decodeKaAnswer b).val).label, .int .i64 ((Kerb.decodeKaAnswer b).val).time, .int .u64 ((Kerb.decodeKaAnswer b).val).session, .int .i64 ((Kerb.decodeKaAnswer b).val).start, .int .i64 ((Kerb.decodeKaAnswer b).val).stop, .int .i64 ((Kerb.decodeKaAnswer b).val).kvno, .str ((Kerb.decodeKaAnswer b).val).service.name, .str ((Kerb.decodeKaAnswer b).val).service.inst, .str ((Kerb.decodeKaAnswer b).val).service.realm, .bs ((Kerb.decodeKaAnswer b).val).ticket], .int .i64 (Kerb.decodeKaAnswer b).err], []))
  | _, _ => none

def sp19 : Abs.Spec := fun xs bl => match xs, bl with
  | [.agg [.str m1, .str m2, .str m3, .int .i64 ad, .int .i64 sk, .bool li, .str o1, .str o2, .str o3, .sl 8 els, .int .i64 wt, .str w1, .str w2, .str w3, .int .u64 se, .int .i64 tm, .int .i64 lf, .int .i64 cs, .int .i64 tc], .int .u64 k, .int .i64 life, .int .i64 now], [] => chk (decide (m1.length ≤ 9223372036854775807) && decide (m2.length ≤ 9223372036854775807) && decide (m3.length ≤ 9223372036854775807) && decide (o1.length ≤ 9223372036854775807) && decide (o2.length ≤ 9223372036854775807) && decide (o3.length ≤ 9223372036854775807) && els.all Kerb.isCred && decide (els.length ≤ 1000000) && decide (0 ≤ k) && decide (k < 18446744073709551616)) (some (.tup [.agg [.int .i64 ((Kerb.kaAuth (Kerb.Client.mk ⟨m1, m2, m3⟩ ad sk li ⟨⟨o1, o2, o3⟩, els.map Kerb.toCred⟩ wt ⟨w1, w2, w3⟩ se tm lf cs tc) k life now).w).op, .int .i64 ((Kerb.kaAuth (Kerb.Client.mk ⟨m1, m2, m3⟩ ad sk li ⟨⟨o1, o2, o3⟩, els.map Kerb.toCred⟩ wt ⟨w1, w2, w3⟩ se tm lf cs tc) k life now).w).time, .int .i64 ((Kerb.kaAuth (Kerb.Client.mk ⟨m1, m2, m3⟩ ad sk li ⟨⟨o1, o2, o3⟩, els.map Kerb.toCred⟩ wt ⟨w1, w2, w3⟩ se tm lf cs tc) k life now).w).start, .int .i64 ((Kerb.kaAuth (Kerb.Client.mk ⟨m1, m2, m3⟩ ad sk li ⟨⟨o1, o2, o3⟩, els.map Kerb.toCred⟩ wt ⟨w1, w2, w3⟩ se tm lf cs tc) k life now).w).stop, .str ((Kerb.kaAuth (Kerb.Client.mk ⟨m1, m2, m3⟩ ad sk li ⟨⟨o1, o2, o3⟩, els.map Kerb.toCred⟩ wt ⟨w1, w2, w3⟩ se tm lf cs tc) k life now).w).service.name, .str ((Kerb.kaAuth (Kerb.Client.mk ⟨m1, m2, m3⟩ ad sk li ⟨⟨o1, o2, o3⟩, els.map Kerb.toCred⟩ wt ⟨w1, w2, w3⟩ se tm lf cs tc) k life now).w).service.inst, .str ((Kerb.kaAuth (Kerb.Client.mk ⟨m1, m2, m3⟩ ad sk li ⟨⟨o1, o2, o3⟩, els.map Kerb.toCred⟩ wt ⟨w1, w2, w3⟩ se tm lf cs tc) k life now).w).service.realm, .int .u64 ((Kerb.kaAuth (Kerb.Client.mk ⟨m1, m2, m3⟩ ad sk li ⟨⟨o1, o2, o3⟩, els.map Kerb.toCred⟩ wt ⟨w1, w2, w3⟩ se tm lf cs tc) k life now).w).session, .int .u64 ((Kerb.kaAuth (Kerb.Client.mk ⟨m1, m2, m3⟩ ad sk li ⟨⟨o1, o2, o3⟩, els.map Kerb.toCred⟩ wt ⟨w1, w2, w3⟩ se tm lf cs tc) k life now).w).new], .bs (Kerb.kaAuth (Kerb.Client.mk ⟨m1, m2, m3⟩ ad sk li ⟨⟨o1, o2, o3⟩, els.map Kerb.toCred⟩ wt ⟨w1, w2, w3⟩ se tm lf cs tc) k life now).msg, .int .i64 (Kerb.kaAuth (Kerb.Client.mk ⟨m1, m2, m3⟩ ad sk li ⟨⟨o1, o2, o3⟩, els.map Kerb.toCred⟩ wt ⟨w1, w2, w3⟩ se tm lf cs tc) k life now).err], []))
  | _, _ => none

def sp44 : Abs.Spec := fun xs bl => match xs, bl with
  | [.agg [.int .i64 vop, .int .i64 vtm, .int .i64 vst, .int .i64 ven, .str v1, .str v2, .str v3, .int .u64 vse, .int .u64 vne], .int .u64 k, .bs b], [] => chk (decide (b.length ≤ 140737488355328)) (some (.tup [.agg [.str ((Kerb.kaOpen (Kerb.KaWait.mk vop vtm vst ven ⟨v1, v2, v3⟩ vse vne) k b).val).label, .int .i64 ((Kerb.kaOpen (Kerb.KaWait.mk vop vtm vst ven ⟨v1, v2, v3⟩ vse vne) k b).val).time, .int .u64 ((Kerb.kaOpen (Kerb.KaWait.mk vop vtm vst ven ⟨v1, v2, v3⟩ vse vne) k b).val).session, .int .i64 ((Kerb.kaOpen (Kerb.KaWait.mk vop vtm vst ven ⟨v1, v2, v3⟩ vse vne) k b).val).start, .int .i64 ((Kerb.kaOpen (Kerb.KaWait.mk vop vtm vst ven ⟨v1, v2, v3⟩ vse vne) k b).val).stop, .int .i64 ((Kerb.kaOpen (Kerb.KaWait.mk vop vtm vst ven ⟨v1, v2, v3⟩ vse vne) k b).val).kvno, .str ((Kerb.kaOpen (Kerb.KaWait.mk vop vtm vst ven ⟨v1, v2, v3⟩ vse vne) k b).val).service.name, .str ((Kerb.kaOpen (Kerb.KaWait.mk vop vtm vst ven ⟨v1, v2, v3⟩ vse vne) k b).val).service.inst, .str ((Kerb.kaOpen (Kerb.KaWait.mk vop vtm vst ven ⟨v1, v2, v3⟩ vse vne) k b).val).service.realm, .bs ((Kerb.kaOpen (Kerb.KaWait.mk vop vtm vst ven ⟨v1, v2, v3⟩ vse vne) k b).val).ticket], .int .i64 (Kerb.kaOpen (Kerb.KaWait.mk vop vtm vst ven ⟨v1, v2, v3⟩ vse vne) k b).err], []))
  | _, _ => none

def sp15 : Abs.Spec := fun xs bl => match xs, bl with
  | [.agg [.str m1, .str m2, .str m3, .int .i64 ad, .int .i64 sk, .bool li, .str o1, .str o2, .str o3, .sl 8 els, .int .i64 wt, .str w1, .str w2, .str w3, .int .u64 se, .int .i64 tm, .int .i64 lf, .int .i64 cs, .int .i64 tc], .agg [.int .i64 vop, .int .i64 vtm, .int .i64 vst, .int .i64 ven, .str v1, .str v2, .str v3, .int .u64 vse, .int .u64 vne], .int .u64 k, .bs msg], [] => chk (decide (m1.length ≤ 9223372036854775807) && decide (m2.length ≤ 9223372036854775807) && decide (m3.length ≤ 9223372036854775807) && decide (o1.length ≤ 9223372036854775807) && decide (o2.length ≤ 9223372036854775807) && decide (o3.length ≤ 9223372036854775807) && els.all Kerb.isCred && decide (els.length ≤ 1000000) && decide (msg.length ≤ 140737488355328)) (some (.tup [.agg [.str ((Kerb.kaReceive (Kerb.Client.mk ⟨m1, m2, m3⟩ ad sk li ⟨⟨o1, o2, o3⟩, els.map Kerb.toCred⟩ wt ⟨w1, w2, w3⟩ se tm lf cs tc) (Kerb.KaWait.mk vop vtm vst ven ⟨v1, v2, v3⟩ vse vne) k msg).c).me.name, .str ((Kerb.kaReceive (Kerb.Client.mk ⟨m1, m2, m3⟩ ad sk li ⟨⟨o1, o2, o3⟩, els.map Kerb.toCred⟩ wt ⟨w1, w2, w3⟩ se tm lf cs tc) (Kerb.KaWait.mk vop vtm vst ven ⟨v1, v2, v3⟩ vse vne) k msg).c).me.inst, .str ((Kerb.kaReceive (Kerb.Client.mk ⟨m1, m2, m3⟩ ad sk li ⟨⟨o1, o2, o3⟩, els.map Kerb.toCred⟩ wt ⟨w1, w2, w3⟩ se tm lf cs tc) (Kerb.KaWait.mk vop vtm vst ven ⟨v1, v2, v3⟩ vse vne) k msg).c).me.realm, .int .i64 ((Kerb.kaReceive (Kerb.Client.mk ⟨m1, m2, m3⟩ ad sk li ⟨⟨o1, o2, o3⟩, els.map Kerb.toCred⟩ wt ⟨w1, w2, w3⟩ se tm lf cs tc) (Kerb.KaWait.mk vop vtm vst ven ⟨v1, v2, v3⟩ vse vne) k msg).c).address, .int .i64 ((Kerb.kaReceive (Kerb.Client.mk ⟨m1, m2, m3⟩ ad sk li ⟨⟨o1, o2, o3⟩, els.map Kerb.toCred⟩ wt ⟨w1, w2, w3⟩ se tm lf cs tc) (Kerb.KaWait.mk vop vtm vst ven ⟨v1, v2, v3⟩ vse vne) k msg).c).skew, .bool ((Kerb.kaReceive (Kerb.Client.mk ⟨m1, m2, m3⟩ ad sk li ⟨⟨o1, o2, o3⟩, els.map Kerb.toCred⟩ wt ⟨w1, w2, w3⟩ se tm lf cs tc) (Kerb.KaWait.mk vop vtm vst ven ⟨v1, v2, v3⟩ vse vne) k msg).c).little, .str ((Kerb.kaReceive (Kerb.Client.mk ⟨m1, m2, m3⟩ ad sk li ⟨⟨o1, o2, o3⟩, els.map Kerb.toCred⟩ wt ⟨w1, w2, w3⟩ se tm lf cs tc) (Kerb.KaWait.mk vop vtm vst ven ⟨v1, v2, v3⟩ vse vne) k msg).c).cache.owner.name, .str ((Kerb.kaReceive (Kerb.Client.mk ⟨m1, m2, m3⟩ ad sk li ⟨⟨o1, o2, o3⟩, els.map Kerb.toCred⟩ wt ⟨w1, w2, w3⟩ se tm lf cs tc) (Kerb.KaWait.mk vop vtm vst ven ⟨v1, v2, v3⟩ vse vne) k msg).c).cache.owner.inst, .str ((Kerb.kaReceive (Kerb.Client.mk ⟨m1, m2, m3⟩ ad sk li ⟨⟨o1, o2, o3⟩, els.map Kerb.toCred⟩ wt ⟨w1, w2, w3⟩ se tm lf cs tc) (Kerb.KaWait.mk vop vtm vst ven ⟨v1, v2, v3⟩ vse vne) k msg).c).cache.owner.realm, .sl 8 (((Kerb.kaReceive (Kerb.Client.mk ⟨m1, m2, m3⟩ ad sk li ⟨⟨o1, o2, o3⟩, els.map Kerb.toCred⟩ wt ⟨w1, w2, w3⟩ se tm lf cs tc) (Kerb.KaWait.mk vop vtm vst ven ⟨v1, v2, v3⟩ vse vne) k msg).c).cache.creds.map Kerb.Cred.av), .int .i64 ((Kerb.kaReceive (Kerb.Client.mk ⟨m1, m2, m3⟩ ad sk li ⟨⟨o1, o2, o3⟩, els.map Kerb.toCred⟩ wt ⟨w1, w2, w3⟩ se tm lf cs tc) (Kerb.KaWait.mk vop vtm vst ven ⟨v1, v2, v3⟩ vse vne) k msg).c).wait, .str ((Kerb.kaReceive (Kerb.Client.mk ⟨m1, m2, m3⟩ ad sk li ⟨⟨o1, o2, o3⟩, els.map Kerb.toCred⟩ wt ⟨w1, w2, w3⟩ se tm lf cs tc) (Kerb.KaWait.mk vop vtm vst ven ⟨v1, v2, v3⟩ vse vne) k msg).c).wanted.name, .str ((Kerb.kaReceive (Kerb.Client.mk ⟨m1, m2, m3⟩ ad sk li ⟨⟨o1, o2, o3⟩, els.map Kerb.toCred⟩ wt ⟨w1, w2, w3⟩ se tm lf cs tc) (Kerb.KaWait.mk vop vtm vst ven ⟨v1, v2, v3⟩ vse vne) k msg).c).wanted.inst, .str ((Kerb.kaReceive (Kerb.Client.mk ⟨m1, m2, m3⟩ ad sk li ⟨⟨o1, o2, o3⟩, els.map Kerb.toCred⟩ wt ⟨w1, w2, w3⟩ se tm lf cs tc) (Kerb.KaWait.mk vop vtm vst ven ⟨v1, v2, v3⟩ vse vne) k msg).c).wanted.realm, .int .u64 ((Kerb.kaReceive (Kerb.Client.mk ⟨m1, m2, m3⟩ ad sk li ⟨⟨o1, o2, o3⟩, els.map Kerb.toCred⟩ wt ⟨w1, w2, w3⟩ se tm lf cs tc) (Kerb.KaWait.mk vop vtm vst ven ⟨v1, v2, v3⟩ vse vne) k msg).c).session, .int .i64 ((Kerb.kaReceive (Kerb.Client.mk ⟨m1, m2, m3⟩ ad sk li ⟨⟨o1, o2, o3⟩, els.map Kerb.toCred⟩ wt ⟨w1, w2, w3⟩ se tm lf cs tc) (Kerb.KaWait.mk vop vtm vst ven ⟨v1, v2, v3⟩ vse vne) k msg).c).time, .int .i64 ((Kerb.kaReceive (Kerb.Client.mk ⟨m1, m2, m3⟩ ad sk li ⟨⟨o1, o2, o3⟩, els.map Kerb.toCred⟩ wt ⟨w1, w2, w3⟩ se tm lf cs tc) (Kerb.KaWait.mk vop vtm vst ven ⟨v1, v2, v3⟩ vse vne) k msg).c).life, .int .i64 ((Kerb.kaReceive (Kerb.Client.mk ⟨m1, m2, m3⟩ ad sk li ⟨⟨o1, o2, o3⟩, els.map Kerb.toCred⟩ wt ⟨w1, w2, w3⟩ se tm lf cs tc) (Kerb.KaWait.mk vop vtm vst ven ⟨v1, v2, v3⟩ vse vne) k msg).c).checksum, .int .i64 ((Kerb.kaReceive (Kerb.Client.mk ⟨m1, m2, m3⟩ ad sk li ⟨⟨o1, o2, o3⟩, els.map Kerb.toCred⟩ wt ⟨w1, w2, w3⟩ se tm lf cs tc) (Kerb.KaWait.mk vop vtm vst ven ⟨v1, v2, v3⟩ vse vne) k msg).c).tick], .agg [.int .i64 ((Kerb.kaReceive (Kerb.Client.mk ⟨m1, m2, m3⟩ ad sk li ⟨⟨o1, o2, o3⟩, els.map Kerb.toCred⟩ wt ⟨w1, w2, w3⟩ se tm lf cs tc) (Kerb.KaWait.mk vop vtm vst ven ⟨v1, v2, v3⟩ vse vne) k msg).w).op, .int .i64 ((Kerb.kaReceive (Kerb.Client.mk ⟨m1, m2, m3⟩ ad sk li ⟨⟨o1, o2, o3⟩, els.map Kerb.toCred⟩ wt ⟨w1, w2, w3⟩ se tm lf cs tc) (Kerb.KaWait.mk vop vtm vst ven ⟨v1, v2, v3⟩ vse vne) k msg).w).time, .int .i64 ((Kerb.kaReceive (Kerb.Client.mk ⟨m1, m2, m3⟩ ad sk li ⟨⟨o1, o2, o3⟩, els.map Kerb.toCred⟩ wt ⟨w1, w2, w3⟩ se tm lf cs tc) (Kerb.KaWait.mk vop vtm vst ven ⟨v1, v2, v3⟩ vse vne) k msg).w).start, .int .i64 ((Kerb.kaReceive (Kerb.Client.mk ⟨m1, m2, m3⟩ ad sk li ⟨⟨o1, o2, o3⟩, els.map Kerb.toCred⟩ wt ⟨w1, w2, w3⟩ se tm lf cs tc) (Kerb.KaWait.mk vop vtm vst ven ⟨v1, v2, v3⟩ vse vne) k msg).w).stop, .str ((Kerb.kaReceive (Kerb.Client.mk ⟨m1, m2, m3⟩ ad sk li ⟨⟨o1, o2, o3⟩, els.map Kerb.toCred⟩ wt ⟨w1, w2, w3⟩ se tm lf cs tc) (Kerb.KaWait.mk vop vtm vst ven ⟨v1, v2, v3⟩ vse vne) k msg).w).service.name, .str ((Kerb.kaReceive (Kerb.Client.mk ⟨m1, m2, m3⟩ ad sk li ⟨⟨o1, o2, o3⟩, els.map Kerb.toCred⟩ wt ⟨w1, w2, w3⟩ se tm lf cs tc) (Kerb.KaWait.mk vop vtm vst ven ⟨v1, v2, v3⟩ vse vne) k msg).w).service.inst, .str ((Kerb.kaReceive (Kerb.Client.mk ⟨m1, m2, m3⟩ ad sk li ⟨⟨o1, o2, o3⟩, els.map Kerb.toCred⟩ wt ⟨w1, w2, w3⟩ se tm lf cs tc) (Kerb.KaWait.mk vop vtm vst ven ⟨v1, v2, v3⟩ vse vne) k msg).w).service.realm, .int .u64 ((Kerb.kaReceive (Kerb.Client.mk ⟨m1, m2, m3⟩ ad sk li ⟨⟨o1, o2, o3⟩, els.map Kerb.toCred⟩ wt ⟨w1, w2, w3⟩ se tm lf cs tc) (Kerb.KaWait.mk vop vtm vst ven ⟨v1, v2, v3⟩ vse vne) k msg).w).session, .int .u64 ((Kerb.kaReceive (Kerb.Client.mk ⟨m1, m2, m3⟩ ad sk li ⟨⟨o1, o2, o3⟩, els.map Kerb.toCred⟩ wt ⟨w1, w2, w3⟩ se tm lf cs tc) (Kerb.KaWait.mk vop vtm vst ven ⟨v1, v2, v3⟩ vse vne) k msg).w).new], .agg [.str ((Kerb.kaReceive (Kerb.Client.mk ⟨m1, m2, m3⟩ ad sk li ⟨⟨o1, o2, o3⟩, els.map Kerb.toCred⟩ wt ⟨w1, w2, w3⟩ se tm lf cs tc) (Kerb.KaWait.mk vop vtm vst ven ⟨v1, v2, v3⟩ vse vne) k msg).cred).service.name, .str ((Kerb.kaReceive (Kerb.Client.mk ⟨m1, m2, m3⟩ ad sk li ⟨⟨o1, o2, o3⟩, els.map Kerb.toCred⟩ wt ⟨w1, w2, w3⟩ se tm lf cs tc) (Kerb.KaWait.mk vop vtm vst ven ⟨v1, v2, v3⟩ vse vne) k msg).cred).service.inst, .str ((Kerb.kaReceive (Kerb.Client.mk ⟨m1, m2, m3⟩ ad sk li ⟨⟨o1, o2, o3⟩, els.map Kerb.toCred⟩ wt ⟨w1, w2, w3⟩ se tm lf cs tc) (Kerb.KaWait.mk vop vtm vst ven ⟨v1, v2, v3⟩ vse vne) k msg).cred).service.realm, .int .u64 ((Kerb.kaReceive (Kerb.Client.mk ⟨m1, m2, m3⟩ ad sk li ⟨⟨o1, o2, o3⟩, els.map Kerb.toCred⟩ wt ⟨w1, w2, w3⟩ se tm lf cs tc) (Kerb.KaWait.mk vop vtm vst ven ⟨v1, v2, v3⟩ vse vne) k msg).cred).session, .int .i64 ((Kerb.kaReceive (Kerb.Client.mk ⟨m1, m2, m3⟩ ad sk li ⟨⟨o1, o2, o3⟩, els.map Kerb.toCred⟩ wt ⟨w1, w2, w3⟩ se tm lf cs tc) (Kerb.KaWait.mk vop vtm vst ven ⟨v1, v2, v3⟩ vse vne) k msg).cred).life, .int .i64 ((Kerb.kaReceive (Kerb.Client.mk ⟨m1, m2, m3⟩ ad sk li ⟨⟨o1, o2, o3⟩, els.map Kerb.toCred⟩ wt ⟨w1, w2, w3⟩ se tm lf cs tc) (Kerb.KaWait.mk vop vtm vst ven ⟨v1, v2, v3⟩ vse vne) k msg).cred).kvno, .int .i64 ((Kerb.kaReceive (Kerb.Client.mk ⟨m1, m2, m3⟩ ad sk li ⟨⟨o1, o2, o3⟩, els.map Kerb.toCred⟩ wt ⟨w1, w2, w3⟩ se tm lf cs tc) (Kerb.KaWait.mk vop vtm vst ven ⟨v1, v2, v3⟩ vse vne) k msg).cred).issued, .bs ((Kerb.kaReceive (Kerb.Client.mk ⟨m1, m2, m3⟩ ad sk li ⟨⟨o1, o2, o3⟩, els.map Kerb.toCred⟩ wt ⟨w1, w2, w3⟩ se tm lf cs tc) (Kerb.KaWait.mk vop vtm vst ven ⟨v1, v2, v3⟩ vse vne) k msg).cred).ticket], .int .i64 (Kerb.kaReceive (Kerb.Client.mk ⟨m1, m2, m3⟩ ad sk li ⟨⟨o1, o2, o3⟩, els.map Kerb.toCred⟩ wt ⟨w1, w2, w3⟩ se tm lf cs tc) (Kerb.KaWait.mk vop vtm vst ven ⟨v1, v2, v3⟩ vse vne) k msg).err], []))
  | _, _ => none

def sp6 : Abs.Spec := fun xs bl => match xs, bl with
  | [], [] => some (.bool true, [])
  | _, _ => none

def sp4 : Abs.Spec := fun xs bl => match xs, bl with
  | [.agg [.u8 pw, .bs pc, .bool pt, .u8 pf], .agg [.u8 ao, .u8 al, .u8 at_, .u8 av, .u8 ak, .u8 ac, .int .u16 as_, .int .u16 ae, .int .u16 ah], .u8 code], [] => chk (decide (0 ≤ as_) && decide (as_ ≤ 65535) && decide (0 ≤ ae) && decide (ae ≤ 65535) && decide (0 ≤ ah) && decide (ah ≤ 65535)) (some (.bool true, []))
  | _, _ => none

def tabT : List (Nat × Nat × List CT × Abs.Spec) := [(11, 1, [.int .i64], sp11), (18, 1, [.other, .other], sp18), (28, 1, [.int .i64], sp28), (35, 1, [.str, .str], sp35), (40, 1, [.bsl, .int .u16], sp40), (42, 1, [.int .i64], sp42), (53, 1, [.int .i64, .int .i64], sp53), (59, 1, [.int .i64, .bool], sp59), (64, 1, [.int .i64, .int .i64], sp64), (65, 1, [.ptr], sp65), (68, 1, [], sp68), (69, 1, [.int .i64, .int .i64], sp69), (76, 1, [.other, .other], sp76), (78, 1, [.int .i64, .int .i64], sp78), (80, 1, [.bsl], sp80), (81, 1, [.int .u64], sp81), (83, 1, [.int .i64, .int .i64], sp83), (90, 1, [.bsl, .bsl], sp90), (93, 1, [.int .i64, .sl 1], sp93), (105, 1, [.str, .str], sp105), (109, 1, [.bsl, .int .i64, .int .i64, .bool], sp109), (115, 1, [.ptr, .int .i64], sp115), (116, 1, [.int .i64, .int .i64], sp116), (118, 1, [.bsl, .str], sp118), (119, 1, [.str, .str], sp119), (120, 1, [.int .i64, .int .i64], sp120), (121, 1, [.sl 8, .other], sp121), (123, 1, [.int .i64, .sl 1], sp123), (125, 1, [.ptr, .int .i64, .int .i64], sp125), (128, 1, [.int .i64], sp128), (129, 1, [.int .i64, .int .i64], sp129), (135, 1, [.str], sp135), (139, 1, [.bsl], sp139), (147, 1, [.int .i64], sp147), (148, 1, [.int .i64], sp148), (149, 1, [.int .i64], sp149), (150, 1, [.int .i64], sp150), (153, 1, [.str], sp153), (154, 1, [.int .u64], sp154), (156, 1, [.int .i64], sp156), (162, 1, [.int .i64], sp162), (164, 1, [.bsl, .int .i64, .int .i64], sp164), (176, 1, [.other, .other], sp176), (179, 1, [.str, .u8], sp179), (180, 1, [.bsl, .u8], sp180), (27, 2, [.other, .other], sp27), (29, 2, [.int .i64], sp29), (32, 2, [.int .u64], sp32), (45, 2, [.int .i64], sp45), (52, 2, [.other, .other], sp52), (56, 2, [.other], sp56), (58, 2, [.bsl, .int .i64], sp58), (60, 2, [.bsl, .int .i64, .bool], sp60), (73, 2, [.str], sp73), (74, 2, [.str], sp74), (75, 2, [.str], sp75), (79, 2, [.bsl, .int .i64, .bool], sp79), (82, 2, [.bsl, .other], sp82), (94, 2, [.other], sp94), (103, 2, [.int .u64], sp103), (104, 2, [.int .i64, .int .i64], sp104), (122, 2, [.bsl], sp122), (126, 2, [.bsl, .int .i64, .int .i64], sp126), (130, 2, [.int .i64, .bool], sp130), (163, 2, [.bsl, .int .i64, .int .i64, .bool], sp163), (173, 2, [.sl 1], sp173), (177, 2, [.str, .u8], sp177), (178, 2, [.bsl, .u8], sp178), (9, 3, [.int .i64], sp9), (17, 3, [.other, .other], sp17), (20, 3, [.other], sp20), (24, 3, [.int .i64], sp24), (36, 3, [.other], sp36), (39, 3, [.int .i64, .int .u64, .bsl], sp39), (54, 3, [.int .u64], sp54), (55, 3, [.int .i64, .int .i64], sp55), (85, 3, [.bsl, .sl 1], sp85), (87, 3, [.ptr, .int .i64], sp87), (124, 3, [.bsl, .int .i64], sp124), (127, 3, [.bsl, .int .i64, .bool], sp127), (155, 3, [.bsl], sp155), (158, 3, [.bsl, .str], sp158), (165, 3, [.bsl, .int .i64, .int .i64, .bool], sp165), (168, 3, [.bsl, .int .i64, .bool], sp168), (174, 3, [.str, .u8], sp174), (175, 3, [.bsl, .int .i64], sp175), (38, 4, [.other], sp38), (63, 4, [.other], sp63), (66, 4, [.ptr], sp66), (67, 4, [.other], sp67), (86, 4, [.ptr], sp86), (88, 4, [.ptr], sp88), (107, 4, [.int .i64, .int .u64, .bsl], sp107), (131, 4, [.bsl, .int .i64], sp131), (134, 4, [.ptr], sp134), (151, 4, [.other], sp151), (152, 4, [.bsl, .int .i64, .bool], sp152), (160, 4, [.bsl, .other], sp160), (161, 4, [.str, .str], sp161), (166, 4, [.bsl, .int .i64, .bool], sp166), (167, 4, [.bsl], sp167), (14, 5, [.other, .other, .int .u64], sp14), (23, 5, [.other, .int .i64, .int .i64, .bool], sp23), (25, 5, [.bsl, .int .i64], sp25), (26, 5, [.other, .other], sp26), (106, 5, [.other], sp106), (110, 5, [.str], sp110), (111, 5, [.str], sp111), (132, 5, [.bsl, .bsl], sp132), (133, 5, [.bsl], sp133), (136, 5, [.ptr], sp136), (159, 5, [.bsl, .bsl], sp159), (8, 6, [.other], sp8), (89, 6, [.other], sp89), (91, 6, [.bsl, .int .i64, .int .u64], sp91), (112, 6, [.str], sp112), (43, 7, [.bsl], sp43), (61, 7, [.other], sp61), (84, 8, [.other], sp84), (157, 8, [.other], sp157), (169, 8, [.bsl, .int .i64], sp169), (170, 8, [.other], sp170), (41, 9, [.other], sp41), (46, 9, [.other, .other], sp46), (108, 9, [.other], sp108), (137, 9, [.ptr], sp137), (138, 9, [.other], sp138), (57, 10, [.other, .other, .int .u64], sp57), (92, 10, [.bsl], sp92), (19, 11, [.other, .int .u64, .int .i64, .int .i64], sp19), (44, 11, [.other, .int .u64, .bsl], sp44), (15, 12, [.other, .other, .int .u64, .bsl], sp15), (6, 13, [], sp6), (4, 14, [.other, .other, .u8], sp4)]

def globT : List (Nat × List AV) := []

def look {α : Type} (k : Nat) : List (Nat × α) → Option α
  | [] => none
  | (j, x) :: r => cond (Nat.beq j k) (some x) (look k r)
def look2 {α : Type} (k m : Nat) : List (Nat × Nat × List α) → List α
  | [] => []
  | (j, i, x) :: r => cond (Nat.beq j k) (cond (Nat.beq i m) x (look2 k m r)) (look2 k m r)
def G : Cfg2 := { ty := fun t => (tbl[t]?).join, keep := fun f r => look2 f r keepT, own := fun f => ownT.contains f, glob := fun q => look q globT, rts := fun f => look f rtsT, tab := fun f => look f tabT }
end Go.Proofs.YtilkpebjgmkbmaaGreat
