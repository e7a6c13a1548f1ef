/- The table of functions of this seat. -/
import Derived.Test.YtojielacjhifeaaGreatAbsSpec
import Derived.Test.YtojielacjhifeaaGreatKerbDefs
import Derived.Test.YtojielacjhifeaaGreatAbsPlain
import Derived.Test.YtojielacjhifeaaGreatKerbAt
import Derived.Test.YtojielacjhifeaaGreatKerbKa
import Derived.Test.YtojielacjhifeaaGreatKerbKaPlain
import Derived.Test.YtojielacjhifeaaGreatKerbCli
import Derived.Test.YtojielacjhifeaaGreatKerbCli2
import Derived.Test.YtojielacjhifeaaGreatKerbCli3
import Derived.Test.YtojielacjhifeaaGreatKerbCli6
import Derived.Test.YtojielacjhifeaaGreatProg
import Derived.KernelRfl
namespace Go.Proofs.YtojielacjhifeaaGreat
open Go.Abs
set_option linter.unusedVariables false

def tbl : List (Option TI) := [
  none,
  none,
  some ⟨1, 8, .int .i64, [.int .i64 0], [.int .i64], [.int .i64]⟩,
  some ⟨1, 8, .int .i64, [.int .i64 0], [.int .i64], [.int .i64]⟩,
  some ⟨1, 1, .bool, [.bool false], [.bool], [.bool]⟩,
  some ⟨1, 1, .u8, [.u8 0], [.u8], [.u8]⟩,
  some ⟨1, 1, .u8, [.u8 0], [.u8], [.u8]⟩,
  some ⟨4, 24, .struct [(0, 2), (1, 3), (2, 4), (3, 6)], [.int .i64 0, .int .i64 0, .bool false, .u8 0], [.int .i64, .int .i64, .bool, .u8], [.int .i64, .int .i64, .bool, .u8]⟩,
  none,
  some ⟨1, 16, .str, [.str []], [.str], [.str]⟩,
  none,
  none,
  some ⟨1, 8, .int .u64, [.int .u64 0], [.int .u64], [.int .u64]⟩,
  none,
  none,
  some ⟨1, 8, .ptr 214, [.nilp], [.ptr], []⟩,
  some ⟨1, 8, .ptr 217, [.nilp], [.ptr], []⟩,
  some ⟨1, 8, .ptr 225, [.nilp], [.ptr], []⟩,
  some ⟨1, 8, .struct [(0, 17)], [.nilp], [.ptr], []⟩,
  some ⟨1, 8, .struct [(0, 17)], [.nilp], [.ptr], []⟩,
  none,
  some ⟨1, 4, .int .i32, [.int .i32 0], [.int .i32], [.int .i32]⟩,
  some ⟨3, 48, .struct [(0, 9), (1, 9), (2, 9)], [.str [], .str [], .str []], [.str, .str, .str], [.str, .str, .str]⟩,
  some ⟨3, 48, .struct [(0, 9), (1, 9), (2, 9)], [.str [], .str [], .str []], [.str, .str, .str], [.str, .str, .str]⟩,
  some ⟨1, 24, .slice 49 false, [.nils], [.sl 8], []⟩,
  some ⟨4, 72, .struct [(0, 23), (3, 24)], [.str [], .str [], .str [], .nils], [.str, .str, .str, .sl 8], []⟩,
  some ⟨4, 72, .struct [(0, 23), (3, 24)], [.str [], .str [], .str [], .nils], [.str, .str, .str, .sl 8], []⟩,
  some ⟨1, 8, .int .u64, [.int .u64 0], [.int .u64], [.int .u64]⟩,
  some ⟨1, 8, .int .u64, [.int .u64 0], [.int .u64], [.int .u64]⟩,
  some ⟨19, 240, .struct [(0, 23), (3, 3), (4, 3), (5, 4), (6, 26), (10, 3), (11, 23), (14, 28), (15, 3), (16, 3), (17, 3), (18, 3)], [.str [], .str [], .str [], .int .i64 0, .int .i64 0, .bool false, .str [], .str [], .str [], .nils, .int .i64 0, .str [], .str [], .str [], .int .u64 0, .int .i64 0, .int .i64 0, .int .i64 0, .int .i64 0], [.str, .str, .str, .int .i64, .int .i64, .bool, .str, .str, .str, .sl 8, .int .i64, .str, .str, .str, .int .u64, .int .i64, .int .i64, .int .i64, .int .i64], []⟩,
  some ⟨19, 240, .struct [(0, 23), (3, 3), (4, 3), (5, 4), (6, 26), (10, 3), (11, 23), (14, 28), (15, 3), (16, 3), (17, 3), (18, 3)], [.str [], .str [], .str [], .int .i64 0, .int .i64 0, .bool false, .str [], .str [], .str [], .nils, .int .i64 0, .str [], .str [], .str [], .int .u64 0, .int .i64 0, .int .i64 0, .int .i64 0, .int .i64 0], [.str, .str, .str, .int .i64, .int .i64, .bool, .str, .str, .str, .sl 8, .int .i64, .str, .str, .str, .int .u64, .int .i64, .int .i64, .int .i64, .int .i64], []⟩,
  some ⟨1, 24, .slice 5 true, [.nils], [.bsl], []⟩,
  some ⟨4, 32, .struct [(0, 5), (1, 5), (2, 4), (3, 31)], [.u8 0, .u8 0, .bool false, .nils], [.u8, .u8, .bool, .bsl], []⟩,
  some ⟨4, 32, .struct [(0, 5), (1, 5), (2, 4), (3, 31)], [.u8 0, .u8 0, .bool false, .nils], [.u8, .u8, .bool, .bsl], []⟩,
  some ⟨1, 2, .int .u16, [.int .u16 0], [.int .u16], [.int .u16]⟩,
  some ⟨1, 4, .int .u32, [.int .u32 0], [.int .u32], [.int .u32]⟩,
  none,
  none,
  none,
  none,
  some ⟨1, 24, .slice 30 false, [.nils], [.sl 19], []⟩,
  none,
  some ⟨1, 24, .slice 23 false, [.nils], [.sl 3], []⟩,
  some ⟨1, 24, .slice 3 false, [.nils], [.sl 1], []⟩,
  some ⟨1, 8, .int .i64, [.int .i64 0], [.int .i64], [.int .i64]⟩,
  none,
  none,
  none,
  some ⟨8, 104, .struct [(0, 23), (3, 28), (4, 3), (5, 3), (6, 3), (7, 31)], [.str [], .str [], .str [], .int .u64 0, .int .i64 0, .int .i64 0, .int .i64 0, .nils], [.str, .str, .str, .int .u64, .int .i64, .int .i64, .int .i64, .bsl], []⟩,
  some ⟨8, 104, .struct [(0, 23), (3, 28), (4, 3), (5, 3), (6, 3), (7, 31)], [.str [], .str [], .str [], .int .u64 0, .int .i64 0, .int .i64 0, .int .i64 0, .nils], [.str, .str, .str, .int .u64, .int .i64, .int .i64, .int .i64, .bsl], []⟩,
  none,
  none,
  none,
  none,
  none,
  some ⟨6, 80, .struct [(0, 4), (1, 4), (2, 3), (3, 9), (4, 31), (5, 31)], [.bool false, .bool false, .int .i64 0, .str [], .nils, .nils], [.bool, .bool, .int .i64, .str, .bsl, .bsl], []⟩,
  some ⟨6, 80, .struct [(0, 4), (1, 4), (2, 3), (3, 9), (4, 31), (5, 31)], [.bool false, .bool false, .int .i64 0, .str [], .nils, .nils], [.bool, .bool, .int .i64, .str, .bsl, .bsl], []⟩,
  none,
  none,
  some ⟨6, 72, .struct [(0, 23), (3, 3), (4, 3), (5, 3)], [.str [], .str [], .str [], .int .i64 0, .int .i64 0, .int .i64 0], [.str, .str, .str, .int .i64, .int .i64, .int .i64], [.str, .str, .str, .int .i64, .int .i64, .int .i64]⟩,
  some ⟨6, 72, .struct [(0, 23), (3, 3), (4, 3), (5, 3)], [.str [], .str [], .str [], .int .i64 0, .int .i64 0, .int .i64 0], [.str, .str, .str, .int .i64, .int .i64, .int .i64], [.str, .str, .str, .int .i64, .int .i64, .int .i64]⟩,
  none,
  none,
  none,
  none,
  none,
  none,
  some ⟨12, 152, .struct [(0, 23), (3, 28), (4, 3), (5, 3), (6, 3), (7, 3), (8, 3), (9, 3), (10, 31), (11, 31)], [.str [], .str [], .str [], .int .u64 0, .int .i64 0, .int .i64 0, .int .i64 0, .int .i64 0, .int .i64 0, .int .i64 0, .nils, .nils], [.str, .str, .str, .int .u64, .int .i64, .int .i64, .int .i64, .int .i64, .int .i64, .int .i64, .bsl, .bsl], []⟩,
  some ⟨12, 152, .struct [(0, 23), (3, 28), (4, 3), (5, 3), (6, 3), (7, 3), (8, 3), (9, 3), (10, 31), (11, 31)], [.str [], .str [], .str [], .int .u64 0, .int .i64 0, .int .i64 0, .int .i64 0, .int .i64 0, .int .i64 0, .int .i64 0, .nils, .nils], [.str, .str, .str, .int .u64, .int .i64, .int .i64, .int .i64, .int .i64, .int .i64, .int .i64, .bsl, .bsl], []⟩,
  none,
  none,
  none,
  some ⟨1, 24, .slice 31 false, [.nils], [.sl 1], []⟩,
  none,
  none,
  none,
  some ⟨1, 24, .slice 79 false, [.nils], [.sl 8], []⟩,
  none,
  some ⟨8, 10, .struct [(0, 5), (1, 5), (2, 5), (3, 5), (4, 5), (5, 4), (6, 5), (7, 34)], [.u8 0, .u8 0, .u8 0, .u8 0, .u8 0, .bool false, .u8 0, .int .u16 0], [.u8, .u8, .u8, .u8, .u8, .bool, .u8, .int .u16], [.u8, .u8, .u8, .u8, .u8, .bool, .u8, .int .u16]⟩,
  some ⟨8, 10, .struct [(0, 5), (1, 5), (2, 5), (3, 5), (4, 5), (5, 4), (6, 5), (7, 34)], [.u8 0, .u8 0, .u8 0, .u8 0, .u8 0, .bool false, .u8 0, .int .u16 0], [.u8, .u8, .u8, .u8, .u8, .bool, .u8, .int .u16], [.u8, .u8, .u8, .u8, .u8, .bool, .u8, .int .u16]⟩,
  none,
  some ⟨1, 24, .slice 28 false, [.nils], [.sl 1], []⟩,
  none,
  none,
  none,
  none,
  none,
  none,
  none,
  none,
  none,
  none,
  none,
  none,
  some ⟨8, 104, .struct [(0, 4), (1, 23), (4, 3), (5, 3), (6, 9), (7, 9)], [.bool false, .str [], .str [], .str [], .int .i64 0, .int .i64 0, .str [], .str []], [.bool, .str, .str, .str, .int .i64, .int .i64, .str, .str], [.bool, .str, .str, .str, .int .i64, .int .i64, .str, .str]⟩,
  some ⟨8, 104, .struct [(0, 4), (1, 23), (4, 3), (5, 3), (6, 9), (7, 9)], [.bool false, .str [], .str [], .str [], .int .i64 0, .int .i64 0, .str [], .str []], [.bool, .str, .str, .str, .int .i64, .int .i64, .str, .str], [.bool, .str, .str, .str, .int .i64, .int .i64, .str, .str]⟩,
  some ⟨9, 96, .struct [(0, 3), (1, 23), (4, 28), (5, 3), (6, 3), (7, 3), (8, 3)], [.int .i64 0, .str [], .str [], .str [], .int .u64 0, .int .i64 0, .int .i64 0, .int .i64 0, .int .i64 0], [.int .i64, .str, .str, .str, .int .u64, .int .i64, .int .i64, .int .i64, .int .i64], [.int .i64, .str, .str, .str, .int .u64, .int .i64, .int .i64, .int .i64, .int .i64]⟩,
  some ⟨9, 96, .struct [(0, 3), (1, 23), (4, 28), (5, 3), (6, 3), (7, 3), (8, 3)], [.int .i64 0, .str [], .str [], .str [], .int .u64 0, .int .i64 0, .int .i64 0, .int .i64 0, .int .i64 0], [.int .i64, .str, .str, .str, .int .u64, .int .i64, .int .i64, .int .i64, .int .i64], [.int .i64, .str, .str, .str, .int .u64, .int .i64, .int .i64, .int .i64, .int .i64]⟩,
  none,
  none,
  none,
  none,
  none,
  none,
  none,
  some ⟨10, 128, .struct [(0, 56), (6, 3), (7, 3), (8, 9), (9, 9)], [.bool false, .bool false, .int .i64 0, .str [], .nils, .nils, .int .i64 0, .int .i64 0, .str [], .str []], [.bool, .bool, .int .i64, .str, .bsl, .bsl, .int .i64, .int .i64, .str, .str], []⟩,
  some ⟨10, 128, .struct [(0, 56), (6, 3), (7, 3), (8, 9), (9, 9)], [.bool false, .bool false, .int .i64 0, .str [], .nils, .nils, .int .i64 0, .int .i64 0, .str [], .str []], [.bool, .bool, .int .i64, .str, .bsl, .bsl, .int .i64, .int .i64, .str, .str], []⟩,
  none,
  none,
  none,
  none,
  none,
  none,
  some ⟨1, 8, .ptr 117, [.nilp], [.ptr], []⟩,
  none,
  none,
  some ⟨4, 40, .struct [(0, 31), (1, 3), (2, 4), (3, 4)], [.nils, .int .i64 0, .bool false, .bool false], [.bsl, .int .i64, .bool, .bool], []⟩,
  some ⟨4, 40, .struct [(0, 31), (1, 3), (2, 4), (3, 4)], [.nils, .int .i64 0, .bool false, .bool false], [.bsl, .int .i64, .bool, .bool], []⟩,
  none,
  none,
  none,
  none,
  none,
  some ⟨3, 24, .struct [(0, 3), (1, 3), (2, 3)], [.int .i64 0, .int .i64 0, .int .i64 0], [.int .i64, .int .i64, .int .i64], [.int .i64, .int .i64, .int .i64]⟩,
  some ⟨3, 24, .struct [(0, 3), (1, 3), (2, 3)], [.int .i64 0, .int .i64 0, .int .i64 0], [.int .i64, .int .i64, .int .i64], [.int .i64, .int .i64, .int .i64]⟩,
  none,
  none,
  some ⟨1, 8, .int .u64, [.int .u64 0], [.int .u64], [.int .u64]⟩,
  none,
  none,
  none,
  none,
  none,
  some ⟨7, 88, .struct [(0, 4), (1, 23), (4, 3), (5, 44), (6, 9)], [.bool false, .str [], .str [], .str [], .int .i64 0, .int .i64 0, .str []], [.bool, .str, .str, .str, .int .i64, .int .i64, .str], [.bool, .str, .str, .str, .int .i64, .int .i64, .str]⟩,
  some ⟨7, 88, .struct [(0, 4), (1, 23), (4, 3), (5, 44), (6, 9)], [.bool false, .str [], .str [], .str [], .int .i64 0, .int .i64 0, .str []], [.bool, .str, .str, .str, .int .i64, .int .i64, .str], [.bool, .str, .str, .str, .int .i64, .int .i64, .str]⟩,
  none,
  none,
  none,
  some ⟨8, 104, .struct [(0, 28), (1, 23), (4, 3), (5, 3), (6, 31), (7, 3)], [.int .u64 0, .str [], .str [], .str [], .int .i64 0, .int .i64 0, .nils, .int .i64 0], [.int .u64, .str, .str, .str, .int .i64, .int .i64, .bsl, .int .i64], []⟩,
  some ⟨8, 104, .struct [(0, 28), (1, 23), (4, 3), (5, 3), (6, 31), (7, 3)], [.int .u64 0, .str [], .str [], .str [], .int .i64 0, .int .i64 0, .nils, .int .i64 0], [.int .u64, .str, .str, .str, .int .i64, .int .i64, .bsl, .int .i64], []⟩,
  none,
  none,
  none,
  some ⟨8, 104, .struct [(0, 4), (1, 23), (4, 3), (5, 3), (6, 3), (7, 31)], [.bool false, .str [], .str [], .str [], .int .i64 0, .int .i64 0, .int .i64 0, .nils], [.bool, .str, .str, .str, .int .i64, .int .i64, .int .i64, .bsl], []⟩,
  some ⟨8, 104, .struct [(0, 4), (1, 23), (4, 3), (5, 3), (6, 3), (7, 31)], [.bool false, .str [], .str [], .str [], .int .i64 0, .int .i64 0, .int .i64 0, .nils], [.bool, .str, .str, .str, .int .i64, .int .i64, .int .i64, .bsl], []⟩,
  none,
  none,
  none,
  none,
  none,
  none,
  some ⟨1, 24, .slice 9 false, [.nils], [.sl 1], []⟩,
  some ⟨1, 8, .ptr 154, [.nilp], [.ptr], []⟩,
  some ⟨2, 32, .struct [(0, 31), (1, 3)], [.nils, .int .i64 0], [.bsl, .int .i64], []⟩,
  some ⟨2, 32, .struct [(0, 31), (1, 3)], [.nils, .int .i64 0], [.bsl, .int .i64], []⟩,
  none,
  none,
  none,
  none,
  none,
  none,
  none,
  none,
  none,
  none,
  none,
  none,
  none,
  none,
  some ⟨3, 40, .struct [(0, 3), (1, 28), (2, 31)], [.int .i64 0, .int .u64 0, .nils], [.int .i64, .int .u64, .bsl], []⟩,
  some ⟨3, 40, .struct [(0, 3), (1, 28), (2, 31)], [.int .i64 0, .int .u64 0, .nils], [.int .i64, .int .u64, .bsl], []⟩,
  none,
  none,
  none,
  none,
  none,
  none,
  none,
  none,
  none,
  none,
  none,
  none,
  none,
  none,
  none,
  none,
  none,
  none,
  none,
  none,
  none,
  none,
  none,
  none,
  none,
  none,
  none,
  none,
  none,
  none,
  none,
  none,
  none,
  none,
  none,
  some ⟨1, 8, .ptr 9, [.nilp], [.ptr], []⟩,
  some ⟨1, 24, .slice 206 false, [.nils], [.sl 1], []⟩,
  none,
  none,
  none,
  none,
  some ⟨4, 4, .arr 4 5 true, [.u8 0, .u8 0, .u8 0, .u8 0], [.u8, .u8, .u8, .u8], []⟩,
  some ⟨4, 40, .struct [(0, 17), (1, 17), (2, 17), (3, 9)], [.nilp, .nilp, .nilp, .str []], [.ptr, .ptr, .ptr, .str], []⟩,
  none,
  some ⟨0, 0, .arr 0 16 false, [], [], []⟩,
  none,
  none,
  some ⟨1, 1, .u8, [.u8 0], [.u8], [.u8]⟩,
  some ⟨1, 1, .u8, [.u8 0], [.u8], [.u8]⟩,
  none,
  some ⟨1, 8, .ptr 5, [.nilp], [.ptr], []⟩,
  some ⟨1, 4, .int .i32, [.int .i32 0], [.int .i32], [.int .i32]⟩,
  some ⟨1, 4, .int .i32, [.int .i32 0], [.int .i32], [.int .i32]⟩,
  none,
  none,
  none]

def keepT : List (Nat × Nat × List Keep) := [(3, 6, [.val 3 3, .val 4 3, .val 5 3, .val 6 3, .val 7 4, .val 8 5, .val 9 34, .val 10 35, .cells 11 [.str, .str, .str, .int .i64, .int .i64, .bool, .str, .str, .str, .sl 8, .int .i64, .str, .str, .str, .int .u64, .int .i64, .int .i64, .int .i64, .int .i64], .ptr 11 11 0, .cells 12 [.u8, .u8, .bool, .bsl], .ptr 12 12 0, .cells 13 [.str, .str, .str], .ptr 13 13 0, .val 22 4, .val 23 3]),
  (5, 22, [.val 4 5, .val 6 31, .cells 8 [.str, .str, .str, .int .i64, .int .i64, .bool, .str, .str, .str, .sl 8, .int .i64, .str, .str, .str, .int .u64, .int .i64, .int .i64, .int .i64, .int .i64], .ptr 8 8 0, .val 16 4, .cells 17 [.str, .str, .str, .int .i64, .int .i64, .bool, .str, .str, .str, .sl 8, .int .i64, .str, .str, .str, .int .u64, .int .i64, .int .i64, .int .i64, .int .i64], .ptr 17 17 0, .val 19 31, .val 21 3]),
  (5, 3000011, [.val 4 5, .val 5 4, .val 6 31, .val 7 34, .cells 8 [.str, .str, .str, .int .i64, .int .i64, .bool, .str, .str, .str, .sl 8, .int .i64, .str, .str, .str, .int .u64, .int .i64, .int .i64, .int .i64, .int .i64], .ptr 8 8 0, .val 16 4, .cells 17 [.str, .str, .str, .int .i64, .int .i64, .bool, .str, .str, .str, .sl 8, .int .i64, .str, .str, .str, .int .u64, .int .i64, .int .i64, .int .i64, .int .i64], .ptr 17 17 0, .cells 18 [.str, .str, .str, .int .u64, .int .i64, .int .i64, .int .i64, .int .i64, .int .i64, .int .i64, .bsl, .bsl], .ptr 18 18 0]),
  (5, 3000020, [.val 4 5, .val 6 31, .cells 8 [.str, .str, .str, .int .i64, .int .i64, .bool, .str, .str, .str, .sl 8, .int .i64, .str, .str, .str, .int .u64, .int .i64, .int .i64, .int .i64, .int .i64], .ptr 8 8 0, .val 16 4, .cells 17 [.str, .str, .str, .int .i64, .int .i64, .bool, .str, .str, .str, .sl 8, .int .i64, .str, .str, .str, .int .u64, .int .i64, .int .i64, .int .i64, .int .i64], .ptr 17 17 0, .val 19 31]),
  (6, 16, [.val 2 76, .val 3 31, .val 4 3, .val 5 28, .cells 9 [.str, .str, .str, .int .i64, .int .i64, .bool, .str, .str, .str, .sl 8, .int .i64, .str, .str, .str, .int .u64, .int .i64, .int .i64, .int .i64, .int .i64], .ptr 9 9 0, .val 18 4, .cells 19 [.str, .str, .str, .int .i64, .int .i64, .bool, .str, .str, .str, .sl 8, .int .i64, .str, .str, .str, .int .u64, .int .i64, .int .i64, .int .i64, .int .i64], .ptr 19 19 0, .val 20 28, .val 23 3]),
  (6, 19, [.val 2 76, .val 3 31, .val 4 3, .val 5 28, .cells 9 [.str, .str, .str, .int .i64, .int .i64, .bool, .str, .str, .str, .sl 8, .int .i64, .str, .str, .str, .int .u64, .int .i64, .int .i64, .int .i64, .int .i64], .ptr 9 9 0, .val 18 4, .cells 19 [.str, .str, .str, .int .i64, .int .i64, .bool, .str, .str, .str, .sl 8, .int .i64, .str, .str, .str, .int .u64, .int .i64, .int .i64, .int .i64, .int .i64], .ptr 19 19 0, .val 20 28, .val 23 3, .val 24 3]),
  (7, 9, [.val 1 76, .val 2 31, .val 3 5, .val 8 4, .cells 9 [.str, .str, .str, .int .i64, .int .i64, .bool, .str, .str, .str, .sl 8, .int .i64, .str, .str, .str, .int .u64, .int .i64, .int .i64, .int .i64, .int .i64], .ptr 9 9 0, .val 12 3]),
  (23, 8, [.cells 2 [.str, .str, .str, .sl 8], .ptr 2 2 0, .cells 3 [.str, .str, .str, .int .u64, .int .i64, .int .i64, .int .i64, .bsl], .ptr 3 3 0, .cells 4 [.str, .str, .str, .sl 8], .ptr 4 4 0, .rowL 7 49 8 false, .val 8 3]),
  (26, 1000038, [.val 0 3]),
  (26, 1000042, [.val 0 3]),
  (35, 4, [.cells 2 [.str, .str, .str, .sl 8], .ptr 2 2 0, .cells 3 [.str, .str, .str, .sl 8], .ptr 3 3 0, .val 4 4, .val 5 3]),
  (39, 3, [.cells 4 [.str, .str, .str, .sl 8], .ptr 4 4 0, .cells 12 [.bsl, .int .i64], .ptr 5 12 0, .cellsR 6 [.imm (.str), .imm (.str), .imm (.str), .own 20603 49 8 false], .ptr 6 6 0]),
  (39, 7, [.cells 4 [.str, .str, .str, .sl 8], .ptr 4 4 0, .cells 12 [.bsl, .int .i64], .ptr 5 12 0, .cellsR 6 [.imm (.str), .imm (.str), .imm (.str), .own 20603 49 8 false], .ptr 6 6 0, .cells 7 [.str, .str, .str, .int .u64, .int .i64, .int .i64, .int .i64, .bsl], .ptr 7 7 0, .val 8 4, .val 9 3]),
  (63, 5, [.val 1 43, .val 4 4, .val 5 44, .val 6 3, .val 7 4, .val 9 3]),
  (68, 6, [.cells 1 [.str, .str, .str, .sl 8], .ptr 1 1 0, .val 2 44, .val 3 3]),
  (70, 1000023, [.val 0 3]),
  (77, 8, [.cells 1 [.bool, .str, .str, .str, .int .i64, .int .i64, .str], .ptr 1 1 0, .val 2 31, .val 3 44, .val 4 3]),
  (82, 9, [.cells 2 [.str, .str, .str, .sl 8], .ptr 2 2 0, .cells 3 [.str, .str, .str, .int .u64, .int .i64, .int .i64, .int .i64, .bsl], .ptr 3 3 0, .cells 4 [.str, .str, .str, .sl 8], .ptr 4 4 0, .rowL 8 49 8 false, .val 28 24, .val 29 3, .val 30 3]),
  (85, 2, [.cells 2 [.str, .str, .str, .sl 8], .ptr 2 2 0, .cells 3 [.str, .str, .str], .ptr 3 3 0, .cells 4 [.str, .str, .str, .int .u64, .int .i64, .int .i64, .int .i64, .bsl], .ptr 4 4 0, .val 5 4, .val 6 3]),
  (88, 6, [.cells 1 [.str, .str, .str, .sl 8], .ptr 1 1 0, .val 2 44, .val 14 24, .val 15 3, .val 16 3]),
  (92, 3, [.cells 0 [.bsl, .int .i64], .ptr 0 0 0, .cells 2 [.str, .str, .str, .int .u64, .int .i64, .int .i64, .int .i64, .bsl], .ptr 2 2 0, .cellsR 3 [.imm (.str), .imm (.str), .imm (.str), .imm (.int .u64), .imm (.int .i64), .imm (.int .i64), .imm (.int .i64), .own 20307 5 1 true], .ptr 3 3 0, .val 4 3]),
  (119, 3, [.val 0 72, .val 3 3, .val 9 72, .val 10 3, .val 11 3]),
  (119, 11, [.rowB 6 5 false, .val 25 72, .val 26 3, .val 27 3]),
  (130, 2, [.rowB 3 5 false]),
  (131, 3, [.val 0 28, .rowB 3 5 false, .val 4 3]),
  (145, 4, [.val 0 31, .val 1 3, .cells 4 [.str, .str, .str], .ptr 4 4 0, .val 5 3, .val 6 44, .cells 7 [.str, .str, .str], .ptr 7 7 0, .val 14 207, .val 15 3, .val 16 3]),
  (152, 5, [.val 0 31, .val 4 28, .val 5 3]),
  (156, 2, [.val 0 24, .cells 3 [.str, .str, .str], .ptr 3 3 0, .val 4 3, .val 7 24, .val 8 3, .val 9 3]),
  (158, 2, [.val 0 9, .val 1 9, .val 4 4, .val 7 3, .val 8 3]),
  (160, 3, [.val 0 31, .val 1 3, .val 2 3, .val 3 4, .barr 9 false, .ptr 9 9 0, .val 12 3, .val 13 3]),
  (161, 2, [.val 0 9, .val 1 9, .val 4 4, .val 5 3]),
  (161, 7, [.val 0 9, .val 1 9, .val 4 4, .val 5 3, .val 6 3]),
  (162, 3, [.val 1 3, .val 2 3, .val 3 4, .rowB 9 5 false, .val 10 3]),
  (170, 4, [.val 0 31, .val 1 3, .val 4 9, .val 5 3, .val 6 44, .val 7 3]),
  (176, 2, [.val 0 3, .val 4 4, .val 7 43, .val 8 3, .val 9 3]),
  (177, 6, [.val 0 31, .val 1 3, .val 2 3, .val 3 4, .val 12 3, .val 22 3, .val 23 3]),
  (181, 5, [.val 4 28, .val 10 31, .val 11 3, .val 12 3]),
  (192, 3, [.val 0 28, .rowB 3 5 false, .val 7 3, .val 8 3]),
  (193, 6, [.val 2 3, .val 3 4, .val 11 31, .val 12 3, .val 14 3, .val 15 3])]

def ownT : List Nat := [162, 167, 107, 108, 119, 132, 129, 160, 99, 100, 180]

def rtsT : List (Nat × List Nat) := [(10, [4]), (18, [4]), (24, [28]), (26, [31]), (41, [4]), (42, [23]), (44, [30]), (46, [4]), (49, [30]), (50, [30, 31, 49, 31, 44]), (64, [3, 4, 44]), (85, [49, 4]), (91, [4]), (93, [151]), (96, [4]), (106, [31]), (109, [31]), (114, [4]), (118, [4]), (128, [4]), (130, [31]), (131, [31]), (137, [4]), (150, [4]), (153, [4]), (155, [4]), (156, [3]), (157, [3]), (159, [4]), (161, [4]), (162, [31]), (167, [31]), (169, []), (171, [31, 3, 44]), (174, [28]), (176, [4]), (178, [44]), (179, [31]), (182, [4]), (190, [4]), (192, [31]), (194, [4]), (197, [4]), (198, [4]), (199, [4]), (200, [3]), (9, [4]), (35, [4]), (40, [9]), (53, [23]), (63, [4, 44]), (97, [31]), (102, [4]), (103, [4]), (105, [31]), (107, [31]), (108, [31]), (115, [4]), (119, [31]), (122, [31]), (127, [4]), (132, [31]), (135, [31, 3, 44]), (151, [49]), (163, [3]), (166, [3]), (175, [3, 4, 44]), (177, [3, 3, 44]), (189, [3, 3, 4]), (193, [3, 3, 44]), (196, [3]), (12, [23]), (15, [4]), (37, [23]), (56, [4]), (62, [31, 44]), (70, [31, 44]), (71, [31, 44]), (101, [31]), (111, [49, 4]), (112, [4]), (116, [4]), (129, [31]), (133, [4, 44]), (134, [3, 3, 44]), (139, [3, 3, 44]), (140, [3, 3, 44]), (152, [28, 4]), (154, [4]), (160, [31]), (168, [3, 3, 44]), (172, [3, 3, 44]), (183, [31]), (184, [3, 3, 44]), (186, [3]), (52, [49, 44]), (57, [49, 44]), (68, [44]), (69, [31, 44]), (90, [26, 44]), (92, [49]), (98, [31]), (99, [31]), (100, [31]), (120, [3]), (123, [170, 3, 44]), (125, [3]), (142, [3]), (158, [4]), (165, [31, 44]), (173, [44]), (180, [31]), (181, [28, 4]), (23, [26, 44]), (25, [31, 44]), (38, [30, 44]), (39, [26]), (66, [31, 4]), (75, [31, 4, 44]), (76, [124, 44]), (94, [4]), (95, [4]), (126, [31, 44]), (136, [31, 44]), (138, [170, 3, 44]), (141, [31, 44]), (11, [30]), (45, [44]), (72, [31, 4, 44]), (73, [31, 4]), (74, [124, 44]), (110, [4]), (117, [31, 44]), (28, [30, 44]), (51, [4]), (58, [56, 44]), (61, [31, 44]), (20, [30, 31, 49, 31, 44]), (43, [31, 44]), (55, [31, 44]), (88, [44]), (89, [26, 44]), (191, [44]), (34, [44]), (36, [30, 44]), (164, [31, 44]), (13, [30, 31, 44]), (27, [30, 44]), (113, [31, 44]), (54, [56, 44]), (16, [30, 31, 49, 31, 44]), (8, [4]), (5, [4])]

def sp10 : Abs.Spec := fun xs bl => match xs, bl with
  | [.agg [.str x, .str y, .str z]], [] => some (.bool (Kerb.longP ⟨x, y, z⟩), [])
  | _, _ => none

def sp18 : Abs.Spec := fun xs bl => match xs, bl with
  | [.agg [.str x, .str y, .str z, .int .u64 k, .int .i64 lf, .int .i64 kv, .int .i64 iss, .bs tk], .agg [.str s1, .str s2, .str s3, .int .u64 sk2, .int .i64 lf2, .int .i64 kv2, .int .i64 is2, .bs tk2]], [] => some (.bool ((x == s1 && (y == s2 && z == s3)) && k == sk2 && lf == lf2 && kv == kv2 && iss == is2 && tk == tk2), [])
  | _, _ => none

def sp24 : Abs.Spec := fun xs bl => match xs, bl with
  | [.int .i64 n], [] => chk (decide (0 ≤ n) && decide (n ≤ 1000)) (some (.int .u64 (Kerb.session n), []))
  | _, _ => none

def sp26 : Abs.Spec := fun xs bl => match xs, bl with
  | [.bs b, .int .u16 how], [] => chk (decide (b.length ≤ 1000000) && decide (0 ≤ how) && decide (how ≤ 65535)) (some (.bs (Kerb.spoil b how), []))
  | _, _ => none

def sp41 : Abs.Spec := fun xs bl => match xs, bl with
  | [.int .i64 n, .int .i64 m], [] => some (.bool (Kerb.within n m), [])
  | _, _ => none

def sp42 : Abs.Spec := fun xs bl => match xs, bl with
  | [.str r, .str t], [] => some (.agg [.str [107, 114, 98, 116, 103, 116], .str t, .str r], [])
  | _, _ => none

def sp44 : Abs.Spec := fun xs bl => match xs, bl with
  | [.agg [.str m1, .str m2, .str m3, .int .i64 ad, .int .i64 sk, .bool li, .str o1, .str o2, .str o3, .sl 8 els, .int .i64 wt, .str w1, .str w2, .str w3, .int .u64 se, .int .i64 tm, .int .i64 lf, .int .i64 cs, .int .i64 tc], .agg [.int .i64 aw, .str a1, .str a2, .str a3, .int .u64 as2, .int .i64 at2, .int .i64 al2, .int .i64 ac2, .int .i64 ak2]], [] => some (.agg [.str m1, .str m2, .str m3, .int .i64 ad, .int .i64 sk, .bool li, .str o1, .str o2, .str o3, .sl 8 els, .int .i64 aw, .str a1, .str a2, .str a3, .int .u64 as2, .int .i64 at2, .int .i64 al2, .int .i64 ac2, .int .i64 ak2], [])
  | _, _ => none

def sp46 : Abs.Spec := fun xs bl => match xs, bl with
  | [.int .i64 n, .int .i64 m], [] => some (.bool (Kerb.within n m), [])
  | _, _ => none

def sp49 : Abs.Spec := fun xs bl => match xs, bl with
  | [.agg [.str m1, .str m2, .str m3, .int .i64 ad, .int .i64 sk, .bool li, .str o1, .str o2, .str o3, .sl 8 els, .int .i64 wt, .str w1, .str w2, .str w3, .int .u64 se, .int .i64 tm, .int .i64 lf, .int .i64 cs, .int .i64 tc]], [] => some (.agg [.str m1, .str m2, .str m3, .int .i64 ad, .int .i64 sk, .bool li, .str o1, .str o2, .str o3, .sl 8 els, .int .i64 0, .str [], .str [], .str [], .int .u64 0, .int .i64 0, .int .i64 0, .int .i64 0, .int .i64 0], [])
  | _, _ => none

def sp50 : Abs.Spec := fun xs bl => match xs, bl with
  | [.int .i64 e], [] => some (.tup [.agg [.str [], .str [], .str [], .int .i64 0, .int .i64 0, .bool false, .str [], .str [], .str [], .sl 8 [], .int .i64 0, .str [], .str [], .str [], .int .u64 0, .int .i64 0, .int .i64 0, .int .i64 0, .int .i64 0], .bs [], .agg [.str [], .str [], .str [], .int .u64 0, .int .i64 0, .int .i64 0, .int .i64 0, .bs []], .bs [], .int .i64 e], [])
  | _, _ => none

def sp64 : Abs.Spec := fun xs bl => match xs, bl with
  | [.bs b], [] => some (.tup [.int .i64 (Kerb.readHead b).kind, .bool (Kerb.readHead b).little, .int .i64 (Kerb.readHead b).err], [])
  | _, _ => none

def sp85 : Abs.Spec := fun xs bl => match xs, bl with
  | [.agg [.str o1, .str o2, .str o3, .sl 8 els], .agg [.str x, .str y, .str z]], [] => chk (els.all Kerb.isCred && decide (els.length ≤ 1000000)) (some (.tup [.agg [.str ((Kerb.getCred (els.map Kerb.toCred) ⟨x, y, z⟩).1).service.name, .str ((Kerb.getCred (els.map Kerb.toCred) ⟨x, y, z⟩).1).service.inst, .str ((Kerb.getCred (els.map Kerb.toCred) ⟨x, y, z⟩).1).service.realm, .int .u64 ((Kerb.getCred (els.map Kerb.toCred) ⟨x, y, z⟩).1).session, .int .i64 ((Kerb.getCred (els.map Kerb.toCred) ⟨x, y, z⟩).1).life, .int .i64 ((Kerb.getCred (els.map Kerb.toCred) ⟨x, y, z⟩).1).kvno, .int .i64 ((Kerb.getCred (els.map Kerb.toCred) ⟨x, y, z⟩).1).issued, .bs ((Kerb.getCred (els.map Kerb.toCred) ⟨x, y, z⟩).1).ticket], .bool (Kerb.getCred (els.map Kerb.toCred) ⟨x, y, z⟩).2], []))
  | _, _ => none

def sp91 : Abs.Spec := fun xs bl => match xs, bl with
  | [.ptr 0 0], [(0, [.bs l, .int .i64 pos])] => some (.bool (decide (pos < (l.length : Int))), [[.bs l, .int .i64 pos]])
  | _, _ => none

def sp93 : Abs.Spec := fun xs bl => match xs, bl with
  | [], [] => some (.sl 1 [.str [65, 84, 72], .str [66, 79, 83], .str [67, 65, 77]], [])
  | _, _ => none

def sp96 : Abs.Spec := fun xs bl => match xs, bl with
  | [.int .i64 n, .int .i64 m], [] => some (.bool (Kerb.within n m), [])
  | _, _ => none

def sp106 : Abs.Spec := fun xs bl => match xs, bl with
  | [.int .i64 k, .bool little], [] => some (.bs (Kerb.header k little), [])
  | _, _ => none

def sp109 : Abs.Spec := fun xs bl => match xs, bl with
  | [.bs b, .str s], [] => chk (decide (b.length + s.length ≤ 70368744177664)) (some (.bs (Kerb.putText b s), []))
  | _, _ => none

def sp114 : Abs.Spec := fun xs bl => match xs, bl with
  | [.int .i64 n, .int .i64 m], [] => some (.bool (Kerb.within n m), [])
  | _, _ => none

def sp118 : Abs.Spec := fun xs bl => match xs, bl with
  | [.int .i64 n, .int .i64 m], [] => some (.bool (Kerb.within n m), [])
  | _, _ => none

def sp128 : Abs.Spec := fun xs bl => match xs, bl with
  | [.int .i64 n, .int .i64 m], [] => some (.bool (Kerb.within n m), [])
  | _, _ => none

def sp130 : Abs.Spec := fun xs bl => match xs, bl with
  | [.bs b], [] => chk (decide (b.length ≤ 70368744177664)) (some (.bs (Kerb.pad b), []))
  | _, _ => none

def sp131 : Abs.Spec := fun xs bl => match xs, bl with
  | [.int .u64 k], [] => chk (decide (0 ≤ k) && decide (k < 18446744073709551616)) (some (.bs (Kerb.keyBytes k), []))
  | _, _ => none

def sp137 : Abs.Spec := fun xs bl => match xs, bl with
  | [.bs a, .bs b], [] => some (.bool (a == b), [])
  | _, _ => none

def sp150 : Abs.Spec := fun xs bl => match xs, bl with
  | [.int .i64 n], [] => some (.bool (Kerb.within n 4294967295), [])
  | _, _ => none

def sp153 : Abs.Spec := fun xs bl => match xs, bl with
  | [.int .i64 n], [] => some (.bool (Kerb.within n 4294967295), [])
  | _, _ => none

def sp155 : Abs.Spec := fun xs bl => match xs, bl with
  | [.int .i64 n, .int .i64 m], [] => some (.bool (Kerb.within n m), [])
  | _, _ => none

def sp156 : Abs.Spec := fun xs bl => match xs, bl with
  | [.sl 8 els, .agg [.str x, .str y, .str z]], [] => chk (els.all Kerb.isCred && decide (els.length ≤ 1000000)) (some (.int .i64 ((Kerb.credAt (els.map Kerb.toCred) ⟨x, y, z⟩ : Nat) : Int), []))
  | _, _ => none

def sp157 : Abs.Spec := fun xs bl => match xs, bl with
  | [.ptr 0 0, .int .i64 n], [(0, [.bs l, .int .i64 pos])] => chk (decide (l.length ≤ 4611686018427387904) && decide (0 ≤ pos)) (some (.int .i64 (Kerb.next l pos n), [[.bs l, .int .i64 (Kerb.nextPos l pos n)]]))
  | _, _ => none

def sp159 : Abs.Spec := fun xs bl => match xs, bl with
  | [.int .i64 k], [] => some (.bool (Kerb.isKind k), [])
  | _, _ => none

def sp161 : Abs.Spec := fun xs bl => match xs, bl with
  | [.str s, .str bad], [] => chk (decide (s.length ≤ 9223372036854775807) && decide (bad.length ≤ 100)) (some (.bool (Kerb.printable s bad && decide (s.length ≤ 39)), []))
  | _, _ => none

def sp162 : Abs.Spec := fun xs bl => match xs, bl with
  | [.bs b, .int .i64 n, .int .i64 k, .bool little], [] => chk (decide (k = 1 ∨ k = 2 ∨ k = 4) && decide (b.length ≤ 70368744177664)) (some (.ownB (b ++ Kerb.putN n k.toNat little), []))
  | _, _ => none

def sp167 : Abs.Spec := fun xs bl => match xs, bl with
  | [.nils, .int .i64 n], [] => chk (decide (0 ≤ n) && decide (n ≤ 140737488355328)) (some (.ownB [], []))
  | _, _ => none

def sp169 : Abs.Spec := fun xs bl => match xs, bl with
  | [.ptr 0 0, .int .i64 nx, .int .i64 e], [(0, [.bs B, .int .i64 at_, .bool li, .bool bad])] => some (.tup [], [[.bs B, .int .i64 (cond (bad || !(e == 0)) at_ nx), .bool li, .bool (bad || !(e == 0))]])
  | _, _ => none

def sp171 : Abs.Spec := fun xs bl => match xs, bl with
  | [.bs b, .int .i64 pos, .int .i64 n], [] => chk (decide (b.length ≤ 140737488355328)) (some (.tup [.bs (Kerb.bytes b pos n).val, .int .i64 (Kerb.bytes b pos n).next, .int .i64 (Kerb.bytes b pos n).err], []))
  | _, _ => none

def sp174 : Abs.Spec := fun xs bl => match xs, bl with
  | [.int .i64 c, .int .i64 n], [] => some (.int .u64 (cond (Kerb.isClass c && Kerb.isSerial n) (c * 72057594037927936 + n) 0), [])
  | _, _ => none

def sp176 : Abs.Spec := fun xs bl => match xs, bl with
  | [.int .i64 k, .sl 1 els], [] => chk (allInts els && decide (els.length ≤ 1000)) (some (.bool ((intsIn els).contains k), []))
  | _, _ => none

def sp178 : Abs.Spec := fun xs bl => match xs, bl with
  | [.bs b, .int .i64 pos, .int .i64 n], [] => chk (decide (b.length ≤ 4611686018427387904)) (some (.int .i64 (Kerb.room b pos n), []))
  | _, _ => none

def sp179 : Abs.Spec := fun xs bl => match xs, bl with
  | [.bs b], [] => chk (decide (b.length ≤ 140737488355328)) (some (.bs b, []))
  | _, _ => none

def sp182 : Abs.Spec := fun xs bl => match xs, bl with
  | [.int .i64 k], [] => some (.bool (Kerb.isKind k), [])
  | _, _ => none

def sp190 : Abs.Spec := fun xs bl => match xs, bl with
  | [.int .i64 n], [] => some (.bool (Kerb.within n 255), [])
  | _, _ => none

def sp192 : Abs.Spec := fun xs bl => match xs, bl with
  | [.int .u64 k], [] => chk (decide (0 ≤ k) && decide (k < 18446744073709551616)) (some (.bs (Kerb.keyBytes k), []))
  | _, _ => none

def sp194 : Abs.Spec := fun xs bl => match xs, bl with
  | [.int .i64 n, .int .i64 m], [] => some (.bool (Kerb.within n m), [])
  | _, _ => none

def sp197 : Abs.Spec := fun xs bl => match xs, bl with
  | [.int .i64 k], [] => some (.bool (Kerb.isClass k), [])
  | _, _ => none

def sp198 : Abs.Spec := fun xs bl => match xs, bl with
  | [.int .i64 k], [] => some (.bool (Kerb.isSerial k), [])
  | _, _ => none

def sp199 : Abs.Spec := fun xs bl => match xs, bl with
  | [.int .i64 n, .int .i64 m], [] => some (.bool (Kerb.within n m), [])
  | _, _ => none

def sp200 : Abs.Spec := fun xs bl => match xs, bl with
  | [.str s, .u8 c], [] => some (.int .i64 (Kerb.indexOf c s), [])
  | _, _ => none

def sp9 : Abs.Spec := fun xs bl => match xs, bl with
  | [.agg [.str m1, .str m2, .str m3, .int .i64 ad, .int .i64 sk, .bool li, .str o1, .str o2, .str o3, .sl 8 els, .int .i64 wt, .str w1, .str w2, .str w3, .int .u64 se, .int .i64 tm, .int .i64 lf, .int .i64 cs, .int .i64 tc]], [] => some (.bool (decide (20 < els.length) || (Kerb.longP ⟨m1, m2, m3⟩ || (Kerb.longP ⟨w1, w2, w3⟩ || Kerb.longP ⟨o1, o2, o3⟩))), [])
  | _, _ => none

def sp35 : Abs.Spec := fun xs bl => match xs, bl with
  | [.agg [.str o1, .str o2, .str o3, .sl 8 els], .agg [.str o1b, .str o2b, .str o3b, .sl 8 elsb]], [] => chk (els.all Kerb.isCred && decide (els.length ≤ 1000000) && elsb.all Kerb.isCred && decide (elsb.length ≤ 1000000)) (some (.bool (Kerb.Cache.same (Kerb.Cache.mk ⟨o1, o2, o3⟩ (els.map Kerb.toCred)) (Kerb.Cache.mk ⟨o1b, o2b, o3b⟩ (elsb.map Kerb.toCred))), []))
  | _, _ => none

def sp40 : Abs.Spec := fun xs bl => match xs, bl with
  | [.int .i64 n], [] => chk (decide (0 ≤ n)) (some (.str (Kerb.realm n), []))
  | _, _ => none

def sp53 : Abs.Spec := fun xs bl => match xs, bl with
  | [.agg [.str m1, .str m2, .str m3], .agg [.str x, .str y, .str z]], [] => some (.agg [.str [107, 114, 98, 116, 103, 116], .str z, .str m3], [])
  | _, _ => none

def sp63 : Abs.Spec := fun xs bl => match xs, bl with
  | [.bs b, .sl 1 els], [] => chk (allInts els && decide (els.length ≤ 1000)) (some (.tup [.bool (Kerb.headIs b (intsIn els)).1, .int .i64 (Kerb.headIs b (intsIn els)).2], []))
  | _, _ => none

def sp97 : Abs.Spec := fun xs bl => match xs, bl with
  | [.int .i64 k, .bool little], [] => some (.bs (Kerb.header k little), [])
  | _, _ => none

def sp102 : Abs.Spec := fun xs bl => match xs, bl with
  | [.str s], [] => chk (decide (s.length ≤ 9223372036854775807)) (some (.bool (Kerb.validName s), []))
  | _, _ => none

def sp103 : Abs.Spec := fun xs bl => match xs, bl with
  | [.str s], [] => chk (decide (s.length ≤ 9223372036854775807)) (some (.bool (Kerb.validInst s), []))
  | _, _ => none

def sp105 : Abs.Spec := fun xs bl => match xs, bl with
  | [.bs b, .agg [.str x, .str y, .str z]], [] => chk (decide (b.length + x.length + y.length + z.length ≤ 70368744170000)) (some (.bs (Kerb.putPrin b ⟨x, y, z⟩), []))
  | _, _ => none

def sp107 : Abs.Spec := fun xs bl => match xs, bl with
  | [.bs b, .int .i64 n], [] => chk (decide (b.length ≤ 70368744177664)) (some (.ownB (b ++ Kerb.putN n 1 false), []))
  | _, _ => none

def sp108 : Abs.Spec := fun xs bl => match xs, bl with
  | [.bs b, .int .i64 n, .bool little], [] => chk (decide (b.length ≤ 70368744177664)) (some (.ownB (b ++ Kerb.putN n 4 little), []))
  | _, _ => none

def sp115 : Abs.Spec := fun xs bl => match xs, bl with
  | [.str s], [] => chk (decide (s.length ≤ 9223372036854775807)) (some (.bool (Kerb.validRealm s), []))
  | _, _ => none

def sp119 : Abs.Spec := fun xs bl => match xs, bl with
  | [.sl 1 els], [] => chk (allB els && decide ((catB els).length ≤ 140737488355328) && decide (els.length ≤ 1000)) (some (.ownB (catB els), []))
  | _, _ => none

def sp122 : Abs.Spec := fun xs bl => match xs, bl with
  | [.ptr 0 0, .int .i64 n], [(0, [.bs B, .int .i64 at_, .bool li, .bool bad])] => chk (decide (B.length ≤ 140737488355328)) (some (.bs (Kerb.bytes B at_ n).val, [[.bs B, .int .i64 (cond (bad || !((Kerb.bytes B at_ n).err == 0)) at_ (Kerb.bytes B at_ n).next), .bool li, .bool (bad || !((Kerb.bytes B at_ n).err == 0))]]))
  | _, _ => none

def sp127 : Abs.Spec := fun xs bl => match xs, bl with
  | [.int .u64 k], [] => chk (decide (0 ≤ k) && decide (k < 18446744073709551616)) (some (.bool (Kerb.keyValid k), []))
  | _, _ => none

def sp132 : Abs.Spec := fun xs bl => match xs, bl with
  | [.bs b, .int .i64 n, .bool little], [] => chk (decide (b.length ≤ 70368744177664)) (some (.ownB (b ++ Kerb.putN n 2 little), []))
  | _, _ => none

def sp135 : Abs.Spec := fun xs bl => match xs, bl with
  | [.bs b, .int .i64 pos, .int .i64 n], [] => chk (decide (b.length ≤ 140737488355328)) (some (.tup [.bs (Kerb.bytes b pos n).val, .int .i64 (Kerb.bytes b pos n).next, .int .i64 (Kerb.bytes b pos n).err], []))
  | _, _ => none

def sp151 : Abs.Spec := fun xs bl => match xs, bl with
  | [.agg [.str x, .str y, .str z, .int .u64 k, .int .i64 lf, .int .i64 kv, .int .i64 iss, .bs tk]], [] => chk (decide (tk.length ≤ 140737488355328)) (some (.agg [.str x, .str y, .str z, .int .u64 k, .int .i64 lf, .int .i64 kv, .int .i64 iss, .bs tk], []))
  | _, _ => none

def sp163 : Abs.Spec := fun xs bl => match xs, bl with
  | [.int .i64 i, .int .i64 l], [] => some (.int .i64 (Kerb.tEnd i l), [])
  | _, _ => none

def sp166 : Abs.Spec := fun xs bl => match xs, bl with
  | [.int .i64 i, .int .i64 l], [] => some (.int .i64 (Kerb.tEnd i l), [])
  | _, _ => none

def sp175 : Abs.Spec := fun xs bl => match xs, bl with
  | [.bs b], [] => some (.tup [.int .i64 (Kerb.readHead b).kind, .bool (Kerb.readHead b).little, .int .i64 (Kerb.readHead b).err], [])
  | _, _ => none

def sp177 : Abs.Spec := fun xs bl => match xs, bl with
  | [.bs b, .int .i64 pos, .int .i64 k, .bool little], [] => chk (decide (b.length ≤ 4611686018427387904) && decide (0 ≤ k) && decide (k ≤ 4)) (some (.tup [.int .i64 (Kerb.get b pos k little).val, .int .i64 (Kerb.get b pos k little).next, .int .i64 (Kerb.get b pos k little).err], []))
  | _, _ => none

def sp189 : Abs.Spec := fun xs bl => match xs, bl with
  | [.int .u64 k], [] => chk (decide (0 ≤ k) && decide (k < 18446744073709551616)) (some (.tup [.int .i64 (cond (Kerb.keyValid k) (Kerb.keyClass k) 0), .int .i64 (cond (Kerb.keyValid k) (Kerb.keySerial k) 0), .bool (Kerb.keyValid k)], []))
  | _, _ => none

def sp193 : Abs.Spec := fun xs bl => match xs, bl with
  | [.bs b, .int .i64 pos, .int .i64 k, .bool little], [] => chk (decide (b.length ≤ 140737488355328) && decide (0 ≤ k) && decide (k ≤ 4)) (some (.tup [.int .i64 (Kerb.get b pos k little).val, .int .i64 (Kerb.get b pos k little).next, .int .i64 (Kerb.get b pos k little).err], []))
  | _, _ => none

def sp196 : Abs.Spec := fun xs bl => match xs, bl with
  | [.str s, .u8 c], [] => some (.int .i64 (Kerb.indexOf c s), [])
  | _, _ => none

def sp12 : Abs.Spec := fun xs bl => match xs, bl with
  | [.int .i64 n], [] => chk (decide (0 ≤ n) && decide (n ≤ 4611686018427387904)) (some (.agg [.str (Kerb.service n).name, .str (Kerb.service n).inst, .str (Kerb.service n).realm], []))
  | _, _ => none

def sp15 : Abs.Spec := fun xs bl => match xs, bl with
  | [.agg [.str m1, .str m2, .str m3, .int .i64 ad, .int .i64 sk, .bool li, .str o1, .str o2, .str o3, .sl 8 els, .int .i64 wt, .str w1, .str w2, .str w3, .int .u64 se, .int .i64 tm, .int .i64 lf, .int .i64 cs, .int .i64 tc], .agg [.str m1b, .str m2b, .str m3b, .int .i64 adb, .int .i64 skb, .bool lib, .str o1b, .str o2b, .str o3b, .sl 8 elsb, .int .i64 wtb, .str w1b, .str w2b, .str w3b, .int .u64 seb, .int .i64 tmb, .int .i64 lfb, .int .i64 csb, .int .i64 tcb]], [] => chk (els.all Kerb.isCred && decide (els.length ≤ 1000000) && elsb.all Kerb.isCred && decide (elsb.length ≤ 1000000)) (some (.bool (Kerb.Client.same (Kerb.Client.mk ⟨m1, m2, m3⟩ ad sk li ⟨⟨o1, o2, o3⟩, els.map Kerb.toCred⟩ wt ⟨w1, w2, w3⟩ se tm lf cs tc) (Kerb.Client.mk ⟨m1b, m2b, m3b⟩ adb skb lib ⟨⟨o1b, o2b, o3b⟩, elsb.map Kerb.toCred⟩ wtb ⟨w1b, w2b, w3b⟩ seb tmb lfb csb tcb)), []))
  | _, _ => none

def sp37 : Abs.Spec := fun xs bl => match xs, bl with
  | [.int .i64 n], [] => chk (decide (0 ≤ n) && decide (n ≤ 4611686018427387904)) (some (.agg [.str (Kerb.user n).name, .str (Kerb.user n).inst, .str (Kerb.user n).realm], []))
  | _, _ => none

def sp56 : Abs.Spec := fun xs bl => match xs, bl with
  | [.agg [.str a, .str b, .str c]], [] => chk (decide (a.length ≤ 9223372036854775807) && decide (b.length ≤ 9223372036854775807) && decide (c.length ≤ 9223372036854775807)) (some (.bool (Kerb.Prin.valid ⟨a, b, c⟩), []))
  | _, _ => none

def sp62 : Abs.Spec := fun xs bl => match xs, bl with
  | [.agg [.bool li, .bool mu, .int .i64 kv, .str rl, .bs tk, .bs au]], [] => chk (decide (rl.length ≤ 9223372036854775807)) (some (.tup [.bs (Kerb.encodeAp (Kerb.ApRequest.mk li mu kv rl tk au)).val, .int .i64 (Kerb.encodeAp (Kerb.ApRequest.mk li mu kv rl tk au)).err], []))
  | _, _ => none

def sp70 : Abs.Spec := fun xs bl => match xs, bl with
  | [.int .i64 kd, .int .u64 k, .bs bd], [] => chk (decide (0 ≤ k) && decide (k < 18446744073709551616)) (some (.tup [.bs (Kerb.makeBox kd k bd).val, .int .i64 (Kerb.makeBox kd k bd).err], []))
  | _, _ => none

def sp71 : Abs.Spec := fun xs bl => match xs, bl with
  | [.bs s, .bool li], [] => some (.tup [.bs (Kerb.encodeAns s li).val, .int .i64 (Kerb.encodeAns s li).err], [])
  | _, _ => none

def sp101 : Abs.Spec := fun xs bl => match xs, bl with
  | [.bs b, .str s], [] => chk (decide (b.length + s.length ≤ 70368744177664)) (some (.bs (Kerb.putText b s), []))
  | _, _ => none

def sp111 : Abs.Spec := fun xs bl => match xs, bl with
  | [.agg [.str o1, .str o2, .str o3, .sl 8 els], .agg [.str x, .str y, .str z]], [] => chk (els.all Kerb.isCred && decide (els.length ≤ 1000000) && els.all Kerb.fitCred) (some (.tup [.agg [.str ((Kerb.getCred (els.map Kerb.toCred) ⟨x, y, z⟩).1).service.name, .str ((Kerb.getCred (els.map Kerb.toCred) ⟨x, y, z⟩).1).service.inst, .str ((Kerb.getCred (els.map Kerb.toCred) ⟨x, y, z⟩).1).service.realm, .int .u64 ((Kerb.getCred (els.map Kerb.toCred) ⟨x, y, z⟩).1).session, .int .i64 ((Kerb.getCred (els.map Kerb.toCred) ⟨x, y, z⟩).1).life, .int .i64 ((Kerb.getCred (els.map Kerb.toCred) ⟨x, y, z⟩).1).kvno, .int .i64 ((Kerb.getCred (els.map Kerb.toCred) ⟨x, y, z⟩).1).issued, .bs ((Kerb.getCred (els.map Kerb.toCred) ⟨x, y, z⟩).1).ticket], .bool (Kerb.getCred (els.map Kerb.toCred) ⟨x, y, z⟩).2], []))
  | _, _ => none

def sp112 : Abs.Spec := fun xs bl => match xs, bl with
  | [.agg [.str x, .str y, .str z, .int .u64 k, .int .i64 lf, .int .i64 kv, .int .i64 iss, .bs tk], .int .i64 now], [] => some (.bool ((Kerb.Cred.mk ⟨x, y, z⟩ k lf kv iss tk).expired now), [])
  | _, _ => none

def sp116 : Abs.Spec := fun xs bl => match xs, bl with
  | [.agg [.str x, .str y, .str z, .int .u64 k, .int .i64 lf, .int .i64 kv, .int .i64 iss, .bs tk], .int .i64 now], [] => some (.bool ((Kerb.Cred.mk ⟨x, y, z⟩ k lf kv iss tk).expired now), [])
  | _, _ => none

def sp129 : Abs.Spec := fun xs bl => match xs, bl with
  | [.bs b, .bool little], [] => chk (decide (b.length ≤ 70368744177664)) (some (.ownB (b ++ Kerb.putN (cond little 1 0) 1 false), []))
  | _, _ => none

def sp133 : Abs.Spec := fun xs bl => match xs, bl with
  | [.bs b, .sl 1 els], [] => chk (allInts els && decide (els.length ≤ 1000)) (some (.tup [.bool (Kerb.headIs b (intsIn els)).1, .int .i64 (Kerb.headIs b (intsIn els)).2], []))
  | _, _ => none

def sp134 : Abs.Spec := fun xs bl => match xs, bl with
  | [.bs b, .int .i64 pos, .bool little], [] => chk (decide (b.length ≤ 4611686018427387904)) (some (.tup [.int .i64 (Kerb.get b pos 2 little).val, .int .i64 (Kerb.get b pos 2 little).next, .int .i64 (Kerb.get b pos 2 little).err], []))
  | _, _ => none

def sp139 : Abs.Spec := fun xs bl => match xs, bl with
  | [.bs b, .int .i64 pos, .bool little], [] => chk (decide (b.length ≤ 4611686018427387904)) (some (.tup [.int .i64 (Kerb.get b pos 4 little).val, .int .i64 (Kerb.get b pos 4 little).next, .int .i64 (Kerb.get b pos 4 little).err], []))
  | _, _ => none

def sp140 : Abs.Spec := fun xs bl => match xs, bl with
  | [.bs b, .int .i64 pos], [] => chk (decide (b.length ≤ 4611686018427387904)) (some (.tup [.int .i64 (Kerb.get b pos 1 false).val, .int .i64 (Kerb.get b pos 1 false).next, .int .i64 (Kerb.get b pos 1 false).err], []))
  | _, _ => none

def sp152 : Abs.Spec := fun xs bl => match xs, bl with
  | [.bs b], [] => chk (decide (b.length ≤ 4611686018427387904)) (some (.tup [.int .u64 (Kerb.keyRead b).1, .bool (Kerb.keyRead b).2], []))
  | _, _ => none

def sp154 : Abs.Spec := fun xs bl => match xs, bl with
  | [.int .u64 k], [] => chk (decide (0 ≤ k) && decide (k < 18446744073709551616)) (some (.bool (Kerb.keyValid k), []))
  | _, _ => none

def sp160 : Abs.Spec := fun xs bl => match xs, bl with
  | [.bs b, .int .i64 n, .int .i64 k, .bool little], [] => chk (decide (k = 1 ∨ k = 2 ∨ k = 4) && decide (b.length ≤ 70368744177664)) (some (.ownB (b ++ Kerb.putN n k.toNat little), []))
  | _, _ => none

def sp168 : Abs.Spec := fun xs bl => match xs, bl with
  | [.bs b, .int .i64 pos], [] => chk (decide (b.length ≤ 140737488355328)) (some (.tup [.int .i64 (Kerb.get b pos 1 false).val, .int .i64 (Kerb.get b pos 1 false).next, .int .i64 (Kerb.get b pos 1 false).err], []))
  | _, _ => none

def sp172 : Abs.Spec := fun xs bl => match xs, bl with
  | [.bs b, .int .i64 pos, .bool little], [] => chk (decide (b.length ≤ 140737488355328)) (some (.tup [.int .i64 (Kerb.get b pos 4 little).val, .int .i64 (Kerb.get b pos 4 little).next, .int .i64 (Kerb.get b pos 4 little).err], []))
  | _, _ => none

def sp183 : Abs.Spec := fun xs bl => match xs, bl with
  | [.bs b], [] => chk (decide (b.length ≤ 70368744177664)) (some (.bs (Kerb.pad b), []))
  | _, _ => none

def sp184 : Abs.Spec := fun xs bl => match xs, bl with
  | [.bs b, .int .i64 pos, .bool little], [] => chk (decide (b.length ≤ 140737488355328)) (some (.tup [.int .i64 (Kerb.get b pos 2 little).val, .int .i64 (Kerb.get b pos 2 little).next, .int .i64 (Kerb.get b pos 2 little).err], []))
  | _, _ => none

def sp186 : Abs.Spec := fun xs bl => match xs, bl with
  | [.str s, .u8 c], [] => some (.int .i64 (Kerb.indexOf c s), [])
  | _, _ => none

def sp52 : Abs.Spec := fun xs bl => match xs, bl with
  | [.agg [.str o1, .str o2, .str o3, .sl 8 els], .agg [.str x, .str y, .str z], .int .i64 now], [] => chk (els.all Kerb.isCred && decide (els.length ≤ 1000000) && els.all Kerb.fitCred) (some (.tup [.agg [.str ((Kerb.liveCred (els.map Kerb.toCred) ⟨x, y, z⟩ now).val).service.name, .str ((Kerb.liveCred (els.map Kerb.toCred) ⟨x, y, z⟩ now).val).service.inst, .str ((Kerb.liveCred (els.map Kerb.toCred) ⟨x, y, z⟩ now).val).service.realm, .int .u64 ((Kerb.liveCred (els.map Kerb.toCred) ⟨x, y, z⟩ now).val).session, .int .i64 ((Kerb.liveCred (els.map Kerb.toCred) ⟨x, y, z⟩ now).val).life, .int .i64 ((Kerb.liveCred (els.map Kerb.toCred) ⟨x, y, z⟩ now).val).kvno, .int .i64 ((Kerb.liveCred (els.map Kerb.toCred) ⟨x, y, z⟩ now).val).issued, .bs ((Kerb.liveCred (els.map Kerb.toCred) ⟨x, y, z⟩ now).val).ticket], .int .i64 (Kerb.liveCred (els.map Kerb.toCred) ⟨x, y, z⟩ now).err], []))
  | _, _ => none

def sp57 : Abs.Spec := fun xs bl => match xs, bl with
  | [.agg [.str o1, .str o2, .str o3, .sl 8 els], .agg [.str x, .str y, .str z], .int .i64 now], [] => chk (els.all Kerb.isCred && decide (els.length ≤ 1000000)) (some (.tup [.agg [.str ((Kerb.liveCred (els.map Kerb.toCred) ⟨x, y, z⟩ now).val).service.name, .str ((Kerb.liveCred (els.map Kerb.toCred) ⟨x, y, z⟩ now).val).service.inst, .str ((Kerb.liveCred (els.map Kerb.toCred) ⟨x, y, z⟩ now).val).service.realm, .int .u64 ((Kerb.liveCred (els.map Kerb.toCred) ⟨x, y, z⟩ now).val).session, .int .i64 ((Kerb.liveCred (els.map Kerb.toCred) ⟨x, y, z⟩ now).val).life, .int .i64 ((Kerb.liveCred (els.map Kerb.toCred) ⟨x, y, z⟩ now).val).kvno, .int .i64 ((Kerb.liveCred (els.map Kerb.toCred) ⟨x, y, z⟩ now).val).issued, .bs ((Kerb.liveCred (els.map Kerb.toCred) ⟨x, y, z⟩ now).val).ticket], .int .i64 (Kerb.liveCred (els.map Kerb.toCred) ⟨x, y, z⟩ now).err], []))
  | _, _ => none

def sp68 : Abs.Spec := fun xs bl => match xs, bl with
  | [.agg [.str o1, .str o2, .str o3, .sl 8 els]], [] => chk (decide (o1.length ≤ 9223372036854775807) && decide (o2.length ≤ 9223372036854775807) && decide (o3.length ≤ 9223372036854775807) && els.all Kerb.isCred && decide (els.length ≤ 1000000)) (some (.int .i64 (Kerb.Cache.mk ⟨o1, o2, o3⟩ (els.map Kerb.toCred)).err, []))
  | _, _ => none

def sp69 : Abs.Spec := fun xs bl => match xs, bl with
  | [.agg [.int .i64 ck, .int .i64 tc, .int .i64 tm], .bool li], [] => some (.tup [.bs (Kerb.encodeMutual ⟨ck, tc, tm⟩ li).val, .int .i64 (Kerb.encodeMutual ⟨ck, tc, tm⟩ li).err], [])
  | _, _ => none

def sp90 : Abs.Spec := fun xs bl => match xs, bl with
  | [.agg [.str x, .str y, .str z]], [] => chk (decide (x.length ≤ 9223372036854775807) && decide (y.length ≤ 9223372036854775807) && decide (z.length ≤ 9223372036854775807)) (some (.tup [.agg [.str (cond (Kerb.Prin.valid ⟨x, y, z⟩) (Kerb.Cache.mk ⟨x, y, z⟩ []) Kerb.noCache).owner.name, .str (cond (Kerb.Prin.valid ⟨x, y, z⟩) (Kerb.Cache.mk ⟨x, y, z⟩ []) Kerb.noCache).owner.inst, .str (cond (Kerb.Prin.valid ⟨x, y, z⟩) (Kerb.Cache.mk ⟨x, y, z⟩ []) Kerb.noCache).owner.realm, .sl 8 ((cond (Kerb.Prin.valid ⟨x, y, z⟩) (Kerb.Cache.mk ⟨x, y, z⟩ []) Kerb.noCache).creds.map Kerb.Cred.av)], .int .i64 (cond (Kerb.Prin.valid ⟨x, y, z⟩) 0 103)], []))
  | _, _ => none

def sp92 : Abs.Spec := fun xs bl => match xs, bl with
  | [.ptr 0 0], [(0, [.bs l, .int .i64 pos])] => chk (decide (l.length ≤ 1000000) && decide (0 ≤ pos)) (some (.agg [.str (Kerb.dataCred l pos).service.name, .str (Kerb.dataCred l pos).service.inst, .str (Kerb.dataCred l pos).service.realm, .int .u64 (Kerb.dataCred l pos).session, .int .i64 (Kerb.dataCred l pos).life, .int .i64 (Kerb.dataCred l pos).kvno, .int .i64 (Kerb.dataCred l pos).issued, .bs (Kerb.dataCred l pos).ticket], [[.bs l, .int .i64 (Kerb.dataPos l pos)]]))
  | _, _ => none

def sp98 : Abs.Spec := fun xs bl => match xs, bl with
  | [.bs b, .agg [.str x, .str y, .str z]], [] => chk (decide (b.length + x.length + y.length + z.length ≤ 70368744170000)) (some (.bs (Kerb.putPrin b ⟨x, y, z⟩), []))
  | _, _ => none

def sp99 : Abs.Spec := fun xs bl => match xs, bl with
  | [.bs b, .int .i64 n, .bool little], [] => chk (decide (b.length ≤ 70368744177664)) (some (.ownB (b ++ Kerb.putN n 4 little), []))
  | _, _ => none

def sp100 : Abs.Spec := fun xs bl => match xs, bl with
  | [.bs b, .int .i64 n], [] => chk (decide (b.length ≤ 70368744177664)) (some (.ownB (b ++ Kerb.putN n 1 false), []))
  | _, _ => none

def sp120 : Abs.Spec := fun xs bl => match xs, bl with
  | [.ptr 0 0], [(0, [.bs B, .int .i64 at_, .bool li, .bool bad])] => chk (decide (B.length ≤ 140737488355328)) (some (.int .i64 (Kerb.get B at_ 1 false).val, [[.bs B, .int .i64 (cond (bad || !((Kerb.get B at_ 1 false).err == 0)) at_ (Kerb.get B at_ 1 false).next), .bool li, .bool (bad || !((Kerb.get B at_ 1 false).err == 0))]]))
  | _, _ => none

def sp123 : Abs.Spec := fun xs bl => match xs, bl with
  | [.bs b], [] => chk (decide (b.length ≤ 140737488355328)) (some (.tup [.agg [.int .i64 (Kerb.readBox b).box.kind, .int .u64 (Kerb.readBox b).box.key, .bs (Kerb.readBox b).box.body], .int .i64 (Kerb.readBox b).n, .int .i64 (Kerb.readBox b).err], []))
  | _, _ => none

def sp125 : Abs.Spec := fun xs bl => match xs, bl with
  | [.ptr 0 0], [(0, [.bs B, .int .i64 at_, .bool li, .bool bad])] => chk (decide (B.length ≤ 140737488355328)) (some (.int .i64 (Kerb.get B at_ 4 li).val, [[.bs B, .int .i64 (cond (bad || !((Kerb.get B at_ 4 li).err == 0)) at_ (Kerb.get B at_ 4 li).next), .bool li, .bool (bad || !((Kerb.get B at_ 4 li).err == 0))]]))
  | _, _ => none

def sp142 : Abs.Spec := fun xs bl => match xs, bl with
  | [.ptr 0 0], [(0, [.bs B, .int .i64 at_, .bool li, .bool bad])] => chk (decide (B.length ≤ 140737488355328)) (some (.int .i64 (Kerb.get B at_ 2 li).val, [[.bs B, .int .i64 (cond (bad || !((Kerb.get B at_ 2 li).err == 0)) at_ (Kerb.get B at_ 2 li).next), .bool li, .bool (bad || !((Kerb.get B at_ 2 li).err == 0))]]))
  | _, _ => none

def sp158 : Abs.Spec := fun xs bl => match xs, bl with
  | [.str s, .str bad], [] => chk (decide (s.length ≤ 9223372036854775807)) (some (.bool (Kerb.printable s bad), []))
  | _, _ => none

def sp165 : Abs.Spec := fun xs bl => match xs, bl with
  | [.int .i64 kd, .int .u64 k, .bs bd], [] => chk (decide (0 ≤ k) && decide (k < 18446744073709551616)) (some (.tup [.bs (Kerb.makeBox kd k bd).val, .int .i64 (Kerb.makeBox kd k bd).err], []))
  | _, _ => none

def sp173 : Abs.Spec := fun xs bl => match xs, bl with
  | [.agg [.str x, .str y, .str z, .int .i64 ck, .int .i64 tc, .int .i64 tm]], [] => chk (decide (x.length ≤ 9223372036854775807) && decide (y.length ≤ 9223372036854775807) && decide (z.length ≤ 9223372036854775807)) (some (.int .i64 (Kerb.Auth.mk ⟨x, y, z⟩ ck tc tm).check, []))
  | _, _ => none

def sp180 : Abs.Spec := fun xs bl => match xs, bl with
  | [.bs b, .int .i64 n, .bool little], [] => chk (decide (b.length ≤ 70368744177664)) (some (.ownB (b ++ Kerb.putN n 2 little), []))
  | _, _ => none

def sp181 : Abs.Spec := fun xs bl => match xs, bl with
  | [.bs b], [] => chk (decide (b.length ≤ 4611686018427387904)) (some (.tup [.int .u64 (Kerb.keyRead b).1, .bool (Kerb.keyRead b).2], []))
  | _, _ => none

def sp23 : Abs.Spec := fun xs bl => match xs, bl with
  | [.agg [.str o1, .str o2, .str o3, .sl 8 els], .agg [.str x, .str y, .str z, .int .u64 k, .int .i64 lf, .int .i64 kv, .int .i64 iss, .bs tk]], [] => chk (decide (o1.length ≤ 9223372036854775807) && decide (o2.length ≤ 9223372036854775807) && decide (o3.length ≤ 9223372036854775807) && els.all Kerb.isCred && decide (els.length ≤ 1000000) && Kerb.isCred (.agg [.str x, .str y, .str z, .int .u64 k, .int .i64 lf, .int .i64 kv, .int .i64 iss, .bs tk])) (some (.tup [.agg [.str ((Kerb.storeCred (Kerb.Cache.mk ⟨o1, o2, o3⟩ (els.map Kerb.toCred)) (Kerb.Cred.mk ⟨x, y, z⟩ k lf kv iss tk)).val).owner.name, .str ((Kerb.storeCred (Kerb.Cache.mk ⟨o1, o2, o3⟩ (els.map Kerb.toCred)) (Kerb.Cred.mk ⟨x, y, z⟩ k lf kv iss tk)).val).owner.inst, .str ((Kerb.storeCred (Kerb.Cache.mk ⟨o1, o2, o3⟩ (els.map Kerb.toCred)) (Kerb.Cred.mk ⟨x, y, z⟩ k lf kv iss tk)).val).owner.realm, .sl 8 (((Kerb.storeCred (Kerb.Cache.mk ⟨o1, o2, o3⟩ (els.map Kerb.toCred)) (Kerb.Cred.mk ⟨x, y, z⟩ k lf kv iss tk)).val).creds.map Kerb.Cred.av)], .int .i64 (Kerb.storeCred (Kerb.Cache.mk ⟨o1, o2, o3⟩ (els.map Kerb.toCred)) (Kerb.Cred.mk ⟨x, y, z⟩ k lf kv iss tk)).err], []))
  | _, _ => none

def sp25 : Abs.Spec := fun xs bl => match xs, bl with
  | [.agg [.str x, .str y, .str z, .int .u64 k, .int .i64 ad, .int .i64 ck, .int .i64 tm, .int .i64 tc, .int .i64 iss, .int .i64 lf, .bs tk, .bs au], .bool li], [] => chk (decide (0 ≤ k) && decide (k < 18446744073709551616)) (some (.tup [.bs (Kerb.serviceAnswer k ck tm tc li).val, .int .i64 (Kerb.serviceAnswer k ck tm tc li).err], []))
  | _, _ => none

def sp38 : Abs.Spec := fun xs bl => match xs, bl with
  | [.agg [.str x, .str y, .str z], .int .i64 ad, .int .i64 sk, .bool li], [] => chk (decide (x.length ≤ 9223372036854775807) && decide (y.length ≤ 9223372036854775807) && decide (z.length ≤ 9223372036854775807)) (some (.tup [.agg [.str ((Kerb.newClient ⟨x, y, z⟩ ad sk li).val).me.name, .str ((Kerb.newClient ⟨x, y, z⟩ ad sk li).val).me.inst, .str ((Kerb.newClient ⟨x, y, z⟩ ad sk li).val).me.realm, .int .i64 ((Kerb.newClient ⟨x, y, z⟩ ad sk li).val).address, .int .i64 ((Kerb.newClient ⟨x, y, z⟩ ad sk li).val).skew, .bool ((Kerb.newClient ⟨x, y, z⟩ ad sk li).val).little, .str ((Kerb.newClient ⟨x, y, z⟩ ad sk li).val).cache.owner.name, .str ((Kerb.newClient ⟨x, y, z⟩ ad sk li).val).cache.owner.inst, .str ((Kerb.newClient ⟨x, y, z⟩ ad sk li).val).cache.owner.realm, .sl 8 (((Kerb.newClient ⟨x, y, z⟩ ad sk li).val).cache.creds.map Kerb.Cred.av), .int .i64 ((Kerb.newClient ⟨x, y, z⟩ ad sk li).val).wait, .str ((Kerb.newClient ⟨x, y, z⟩ ad sk li).val).wanted.name, .str ((Kerb.newClient ⟨x, y, z⟩ ad sk li).val).wanted.inst, .str ((Kerb.newClient ⟨x, y, z⟩ ad sk li).val).wanted.realm, .int .u64 ((Kerb.newClient ⟨x, y, z⟩ ad sk li).val).session, .int .i64 ((Kerb.newClient ⟨x, y, z⟩ ad sk li).val).time, .int .i64 ((Kerb.newClient ⟨x, y, z⟩ ad sk li).val).life, .int .i64 ((Kerb.newClient ⟨x, y, z⟩ ad sk li).val).checksum, .int .i64 ((Kerb.newClient ⟨x, y, z⟩ ad sk li).val).tick], .int .i64 (Kerb.newClient ⟨x, y, z⟩ ad sk li).err], []))
  | _, _ => none

def sp39 : Abs.Spec := fun xs bl => match xs, bl with
  | [.bs l, .int .i64 n], [] => chk (decide (l.length ≤ 1000000) && decide (0 ≤ n) && decide (n ≤ 1000)) (some (.agg [.str (Kerb.dataCache l n).owner.name, .str (Kerb.dataCache l n).owner.inst, .str (Kerb.dataCache l n).owner.realm, .sl 8 ((Kerb.dataCache l n).creds.map Kerb.Cred.av)], []))
  | _, _ => none

def sp66 : Abs.Spec := fun xs bl => match xs, bl with
  | [.bs b, .int .i64 kd, .int .u64 k], [] => chk (decide (b.length ≤ 140737488355328)) (some (.tup [.bs (Kerb.openBox b kd k).1, .bool (Kerb.openBox b kd k).2], []))
  | _, _ => none

def sp75 : Abs.Spec := fun xs bl => match xs, bl with
  | [.bs b], [] => chk (decide (b.length ≤ 140737488355328)) (some (.tup [.bs (Kerb.decodeAns b).val, .bool (Kerb.decodeAns b).little, .int .i64 (Kerb.decodeAns b).err], []))
  | _, _ => none

def sp76 : Abs.Spec := fun xs bl => match xs, bl with
  | [.bs b, .bool li], [] => chk (decide (b.length ≤ 140737488355328)) (some (.tup [.agg [.int .i64 ((Kerb.decodeMutual b li).val).checksum, .int .i64 ((Kerb.decodeMutual b li).val).tick, .int .i64 ((Kerb.decodeMutual b li).val).time], .int .i64 (Kerb.decodeMutual b li).err], []))
  | _, _ => none

def sp94 : Abs.Spec := fun xs bl => match xs, bl with
  | [.str s], [] => chk (decide (s.length ≤ 9223372036854775807)) (some (.bool (Kerb.validName s), []))
  | _, _ => none

def sp95 : Abs.Spec := fun xs bl => match xs, bl with
  | [.str s], [] => chk (decide (s.length ≤ 9223372036854775807)) (some (.bool (Kerb.validInst s), []))
  | _, _ => none

def sp126 : Abs.Spec := fun xs bl => match xs, bl with
  | [.agg [.str x, .str y, .str z, .int .i64 ck, .int .i64 tc, .int .i64 tm], .bool li], [] => chk (decide (x.length ≤ 9223372036854775807) && decide (y.length ≤ 9223372036854775807) && decide (z.length ≤ 9223372036854775807)) (some (.tup [.bs (Kerb.encodeAuth (Kerb.Auth.mk ⟨x, y, z⟩ ck tc tm) li).val, .int .i64 (Kerb.encodeAuth (Kerb.Auth.mk ⟨x, y, z⟩ ck tc tm) li).err], []))
  | _, _ => none

def sp136 : Abs.Spec := fun xs bl => match xs, bl with
  | [.bs s, .bool li], [] => some (.tup [.bs (Kerb.encodeAns s li).val, .int .i64 (Kerb.encodeAns s li).err], [])
  | _, _ => none

def sp138 : Abs.Spec := fun xs bl => match xs, bl with
  | [.bs b], [] => chk (decide (b.length ≤ 140737488355328)) (some (.tup [.agg [.int .i64 (Kerb.readBox b).box.kind, .int .u64 (Kerb.readBox b).box.key, .bs (Kerb.readBox b).box.body], .int .i64 (Kerb.readBox b).n, .int .i64 (Kerb.readBox b).err], []))
  | _, _ => none

def sp141 : Abs.Spec := fun xs bl => match xs, bl with
  | [.agg [.int .i64 ck, .int .i64 tc, .int .i64 tm], .bool li], [] => some (.tup [.bs (Kerb.encodeMutual ⟨ck, tc, tm⟩ li).val, .int .i64 (Kerb.encodeMutual ⟨ck, tc, tm⟩ li).err], [])
  | _, _ => none

def sp11 : Abs.Spec := fun xs bl => match xs, bl with
  | [.agg [.u8 pw, .u8 ps, .bool pl, .bs pc]], [] => some (.agg [.str (Kerb.personClient pw ps pl pc).me.name, .str (Kerb.personClient pw ps pl pc).me.inst, .str (Kerb.personClient pw ps pl pc).me.realm, .int .i64 (Kerb.personClient pw ps pl pc).address, .int .i64 (Kerb.personClient pw ps pl pc).skew, .bool (Kerb.personClient pw ps pl pc).little, .str (Kerb.personClient pw ps pl pc).cache.owner.name, .str (Kerb.personClient pw ps pl pc).cache.owner.inst, .str (Kerb.personClient pw ps pl pc).cache.owner.realm, .sl 8 ((Kerb.personClient pw ps pl pc).cache.creds.map Kerb.Cred.av), .int .i64 (Kerb.personClient pw ps pl pc).wait, .str (Kerb.personClient pw ps pl pc).wanted.name, .str (Kerb.personClient pw ps pl pc).wanted.inst, .str (Kerb.personClient pw ps pl pc).wanted.realm, .int .u64 (Kerb.personClient pw ps pl pc).session, .int .i64 (Kerb.personClient pw ps pl pc).time, .int .i64 (Kerb.personClient pw ps pl pc).life, .int .i64 (Kerb.personClient pw ps pl pc).checksum, .int .i64 (Kerb.personClient pw ps pl pc).tick], [])
  | _, _ => none

def sp45 : Abs.Spec := fun xs bl => match xs, bl with
  | [.agg [.str m1, .str m2, .str m3, .int .i64 ad, .int .i64 sk, .bool li, .str o1, .str o2, .str o3, .sl 8 els, .int .i64 wt, .str w1, .str w2, .str w3, .int .u64 se, .int .i64 tm, .int .i64 lf, .int .i64 cs, .int .i64 tc]], [] => chk (decide (m1.length ≤ 9223372036854775807) && decide (m2.length ≤ 9223372036854775807) && decide (m3.length ≤ 9223372036854775807) && decide (o1.length ≤ 9223372036854775807) && decide (o2.length ≤ 9223372036854775807) && decide (o3.length ≤ 9223372036854775807) && els.all Kerb.isCred && decide (els.length ≤ 1000000)) (some (.int .i64 (Kerb.Client.mk ⟨m1, m2, m3⟩ ad sk li ⟨⟨o1, o2, o3⟩, els.map Kerb.toCred⟩ wt ⟨w1, w2, w3⟩ se tm lf cs tc).err, []))
  | _, _ => none

def sp72 : Abs.Spec := fun xs bl => match xs, bl with
  | [.bs b], [] => chk (decide (b.length ≤ 140737488355328)) (some (.tup [.bs (Kerb.decodeAns b).val, .bool (Kerb.decodeAns b).little, .int .i64 (Kerb.decodeAns b).err], []))
  | _, _ => none

def sp73 : Abs.Spec := fun xs bl => match xs, bl with
  | [.bs b, .int .i64 kd, .int .u64 k], [] => chk (decide (b.length ≤ 140737488355328)) (some (.tup [.bs (Kerb.openBox b kd k).1, .bool (Kerb.openBox b kd k).2], []))
  | _, _ => none

def sp74 : Abs.Spec := fun xs bl => match xs, bl with
  | [.bs b, .bool li], [] => chk (decide (b.length ≤ 140737488355328)) (some (.tup [.agg [.int .i64 ((Kerb.decodeMutual b li).val).checksum, .int .i64 ((Kerb.decodeMutual b li).val).tick, .int .i64 ((Kerb.decodeMutual b li).val).time], .int .i64 (Kerb.decodeMutual b li).err], []))
  | _, _ => none

def sp110 : Abs.Spec := fun xs bl => match xs, bl with
  | [.str s], [] => chk (decide (s.length ≤ 9223372036854775807)) (some (.bool (Kerb.validRealm s), []))
  | _, _ => none

def sp117 : Abs.Spec := fun xs bl => match xs, bl with
  | [.agg [.str x, .str y, .str z, .int .i64 ck, .int .i64 tc, .int .i64 tm], .bool li, .int .u64 k], [] => chk (decide (x.length ≤ 9223372036854775807) && decide (y.length ≤ 9223372036854775807) && decide (z.length ≤ 9223372036854775807) && decide (0 ≤ k) && decide (k < 18446744073709551616)) (some (.tup [.bs (Kerb.sealAuth (Kerb.Auth.mk ⟨x, y, z⟩ ck tc tm) li k).val, .int .i64 (Kerb.sealAuth (Kerb.Auth.mk ⟨x, y, z⟩ ck tc tm) li k).err], []))
  | _, _ => none

def sp28 : Abs.Spec := fun xs bl => match xs, bl with
  | [.agg [.str m1, .str m2, .str m3, .int .i64 ad, .int .i64 sk, .bool li, .str o1, .str o2, .str o3, .sl 8 els, .int .i64 wt, .str w1, .str w2, .str w3, .int .u64 se, .int .i64 tm, .int .i64 lf, .int .i64 cs, .int .i64 tc], .bs msg], [] => chk (decide (m1.length ≤ 9223372036854775807) && decide (m2.length ≤ 9223372036854775807) && decide (m3.length ≤ 9223372036854775807) && decide (o1.length ≤ 9223372036854775807) && decide (o2.length ≤ 9223372036854775807) && decide (o3.length ≤ 9223372036854775807) && els.all Kerb.isCred && decide (els.length ≤ 1000000) && decide (msg.length ≤ 140737488355328)) (some (.tup [.agg [.str ((Kerb.readAnswer (Kerb.Client.mk ⟨m1, m2, m3⟩ ad sk li ⟨⟨o1, o2, o3⟩, els.map Kerb.toCred⟩ wt ⟨w1, w2, w3⟩ se tm lf cs tc) msg).c).me.name, .str ((Kerb.readAnswer (Kerb.Client.mk ⟨m1, m2, m3⟩ ad sk li ⟨⟨o1, o2, o3⟩, els.map Kerb.toCred⟩ wt ⟨w1, w2, w3⟩ se tm lf cs tc) msg).c).me.inst, .str ((Kerb.readAnswer (Kerb.Client.mk ⟨m1, m2, m3⟩ ad sk li ⟨⟨o1, o2, o3⟩, els.map Kerb.toCred⟩ wt ⟨w1, w2, w3⟩ se tm lf cs tc) msg).c).me.realm, .int .i64 ((Kerb.readAnswer (Kerb.Client.mk ⟨m1, m2, m3⟩ ad sk li ⟨⟨o1, o2, o3⟩, els.map Kerb.toCred⟩ wt ⟨w1, w2, w3⟩ se tm lf cs tc) msg).c).address, .int .i64 ((Kerb.readAnswer (Kerb.Client.mk ⟨m1, m2, m3⟩ ad sk li ⟨⟨o1, o2, o3⟩, els.map Kerb.toCred⟩ wt ⟨w1, w2, w3⟩ se tm lf cs tc) msg).c).skew, .bool ((Kerb.readAnswer (Kerb.Client.mk ⟨m1, m2, m3⟩ ad sk li ⟨⟨o1, o2, o3⟩, els.map Kerb.toCred⟩ wt ⟨w1, w2, w3⟩ se tm lf cs tc) msg).c).little, .str ((Kerb.readAnswer (Kerb.Client.mk ⟨m1, m2, m3⟩ ad sk li ⟨⟨o1, o2, o3⟩, els.map Kerb.toCred⟩ wt ⟨w1, w2, w3⟩ se tm lf cs tc) msg).c).cache.owner.name, .str ((Kerb.readAnswer (Kerb.Client.mk ⟨m1, m2, m3⟩ ad sk li ⟨⟨o1, o2, o3⟩, els.map Kerb.toCred⟩ wt ⟨w1, w2, w3⟩ se tm lf cs tc) msg).c).cache.owner.inst, .str ((Kerb.readAnswer (Kerb.Client.mk ⟨m1, m2, m3⟩ ad sk li ⟨⟨o1, o2, o3⟩, els.map Kerb.toCred⟩ wt ⟨w1, w2, w3⟩ se tm lf cs tc) msg).c).cache.owner.realm, .sl 8 (((Kerb.readAnswer (Kerb.Client.mk ⟨m1, m2, m3⟩ ad sk li ⟨⟨o1, o2, o3⟩, els.map Kerb.toCred⟩ wt ⟨w1, w2, w3⟩ se tm lf cs tc) msg).c).cache.creds.map Kerb.Cred.av), .int .i64 ((Kerb.readAnswer (Kerb.Client.mk ⟨m1, m2, m3⟩ ad sk li ⟨⟨o1, o2, o3⟩, els.map Kerb.toCred⟩ wt ⟨w1, w2, w3⟩ se tm lf cs tc) msg).c).wait, .str ((Kerb.readAnswer (Kerb.Client.mk ⟨m1, m2, m3⟩ ad sk li ⟨⟨o1, o2, o3⟩, els.map Kerb.toCred⟩ wt ⟨w1, w2, w3⟩ se tm lf cs tc) msg).c).wanted.name, .str ((Kerb.readAnswer (Kerb.Client.mk ⟨m1, m2, m3⟩ ad sk li ⟨⟨o1, o2, o3⟩, els.map Kerb.toCred⟩ wt ⟨w1, w2, w3⟩ se tm lf cs tc) msg).c).wanted.inst, .str ((Kerb.readAnswer (Kerb.Client.mk ⟨m1, m2, m3⟩ ad sk li ⟨⟨o1, o2, o3⟩, els.map Kerb.toCred⟩ wt ⟨w1, w2, w3⟩ se tm lf cs tc) msg).c).wanted.realm, .int .u64 ((Kerb.readAnswer (Kerb.Client.mk ⟨m1, m2, m3⟩ ad sk li ⟨⟨o1, o2, o3⟩, els.map Kerb.toCred⟩ wt ⟨w1, w2, w3⟩ se tm lf cs tc) msg).c).session, .int .i64 ((Kerb.readAnswer (Kerb.Client.mk ⟨m1, m2, m3⟩ ad sk li ⟨⟨o1, o2, o3⟩, els.map Kerb.toCred⟩ wt ⟨w1, w2, w3⟩ se tm lf cs tc) msg).c).time, .int .i64 ((Kerb.readAnswer (Kerb.Client.mk ⟨m1, m2, m3⟩ ad sk li ⟨⟨o1, o2, o3⟩, els.map Kerb.toCred⟩ wt ⟨w1, w2, w3⟩ se tm lf cs tc) msg).c).life, .int .i64 ((Kerb.readAnswer (Kerb.Client.mk ⟨m1, m2, m3⟩ ad sk li ⟨⟨o1, o2, o3⟩, els.map Kerb.toCred⟩ wt ⟨w1, w2, w3⟩ se tm lf cs tc) msg).c).checksum, .int .i64 ((Kerb.readAnswer (Kerb.Client.mk ⟨m1, m2, m3⟩ ad sk li ⟨⟨o1, o2, o3⟩, els.map Kerb.toCred⟩ wt ⟨w1, w2, w3⟩ se tm lf cs tc) msg).c).tick], .int .i64 (Kerb.readAnswer (Kerb.Client.mk ⟨m1, m2, m3⟩ ad sk li ⟨⟨o1, o2, o3⟩, els.map Kerb.toCred⟩ wt ⟨w1, w2, w3⟩ se tm lf cs tc) msg).err], []))
  | _, _ => none

def sp51 : Abs.Spec := fun xs bl => match xs, bl with
  | [.agg [.str a, .str b, .str c]], [] => chk (decide (a.length ≤ 9223372036854775807) && decide (b.length ≤ 9223372036854775807) && decide (c.length ≤ 9223372036854775807)) (some (.bool (Kerb.Prin.valid ⟨a, b, c⟩), []))
  | _, _ => none

def sp58 : Abs.Spec := fun xs bl => match xs, bl with
  | [.agg [.str m1, .str m2, .str m3, .int .i64 ad, .int .i64 sk, .bool li, .str o1, .str o2, .str o3, .sl 8 els, .int .i64 wt, .str w1, .str w2, .str w3, .int .u64 se, .int .i64 tm, .int .i64 lf, .int .i64 cs, .int .i64 tc], .agg [.str s1, .str s2, .str s3, .int .u64 sk2, .int .i64 lf2, .int .i64 kv2, .int .i64 is2, .bs tk2], .bool mu, .int .i64 ck, .int .i64 now, .int .i64 tick], [] => chk (decide (m1.length ≤ 9223372036854775807) && decide (m2.length ≤ 9223372036854775807) && decide (m3.length ≤ 9223372036854775807) && decide (0 ≤ sk2) && decide (sk2 < 18446744073709551616)) (some (.tup [.agg [.bool (Kerb.apOf (Kerb.Client.mk ⟨m1, m2, m3⟩ ad sk li ⟨⟨o1, o2, o3⟩, els.map Kerb.toCred⟩ wt ⟨w1, w2, w3⟩ se tm lf cs tc) (Kerb.Cred.mk ⟨s1, s2, s3⟩ sk2 lf2 kv2 is2 tk2) mu ⟨⟨m1, m2, m3⟩, ck, tick, now⟩).val.little, .bool (Kerb.apOf (Kerb.Client.mk ⟨m1, m2, m3⟩ ad sk li ⟨⟨o1, o2, o3⟩, els.map Kerb.toCred⟩ wt ⟨w1, w2, w3⟩ se tm lf cs tc) (Kerb.Cred.mk ⟨s1, s2, s3⟩ sk2 lf2 kv2 is2 tk2) mu ⟨⟨m1, m2, m3⟩, ck, tick, now⟩).val.mutual_, .int .i64 (Kerb.apOf (Kerb.Client.mk ⟨m1, m2, m3⟩ ad sk li ⟨⟨o1, o2, o3⟩, els.map Kerb.toCred⟩ wt ⟨w1, w2, w3⟩ se tm lf cs tc) (Kerb.Cred.mk ⟨s1, s2, s3⟩ sk2 lf2 kv2 is2 tk2) mu ⟨⟨m1, m2, m3⟩, ck, tick, now⟩).val.kvno, .str (Kerb.apOf (Kerb.Client.mk ⟨m1, m2, m3⟩ ad sk li ⟨⟨o1, o2, o3⟩, els.map Kerb.toCred⟩ wt ⟨w1, w2, w3⟩ se tm lf cs tc) (Kerb.Cred.mk ⟨s1, s2, s3⟩ sk2 lf2 kv2 is2 tk2) mu ⟨⟨m1, m2, m3⟩, ck, tick, now⟩).val.realm, .bs (Kerb.apOf (Kerb.Client.mk ⟨m1, m2, m3⟩ ad sk li ⟨⟨o1, o2, o3⟩, els.map Kerb.toCred⟩ wt ⟨w1, w2, w3⟩ se tm lf cs tc) (Kerb.Cred.mk ⟨s1, s2, s3⟩ sk2 lf2 kv2 is2 tk2) mu ⟨⟨m1, m2, m3⟩, ck, tick, now⟩).val.ticket, .bs (Kerb.apOf (Kerb.Client.mk ⟨m1, m2, m3⟩ ad sk li ⟨⟨o1, o2, o3⟩, els.map Kerb.toCred⟩ wt ⟨w1, w2, w3⟩ se tm lf cs tc) (Kerb.Cred.mk ⟨s1, s2, s3⟩ sk2 lf2 kv2 is2 tk2) mu ⟨⟨m1, m2, m3⟩, ck, tick, now⟩).val.auth], .int .i64 (Kerb.apOf (Kerb.Client.mk ⟨m1, m2, m3⟩ ad sk li ⟨⟨o1, o2, o3⟩, els.map Kerb.toCred⟩ wt ⟨w1, w2, w3⟩ se tm lf cs tc) (Kerb.Cred.mk ⟨s1, s2, s3⟩ sk2 lf2 kv2 is2 tk2) mu ⟨⟨m1, m2, m3⟩, ck, tick, now⟩).err], []))
  | _, _ => none

def sp61 : Abs.Spec := fun xs bl => match xs, bl with
  | [.agg [.bool li, .bool mu, .int .i64 kv, .str rl, .bs tk, .bs au]], [] => chk (decide (rl.length ≤ 9223372036854775807)) (some (.tup [.bs (Kerb.encodeAp (Kerb.ApRequest.mk li mu kv rl tk au)).val, .int .i64 (Kerb.encodeAp (Kerb.ApRequest.mk li mu kv rl tk au)).err], []))
  | _, _ => none

def sp20 : Abs.Spec := fun xs bl => match xs, bl with
  | [.agg [.str m1, .str m2, .str m3, .int .i64 ad, .int .i64 sk, .bool li, .str o1, .str o2, .str o3, .sl 8 els, .int .i64 wt, .str w1, .str w2, .str w3, .int .u64 se, .int .i64 tm, .int .i64 lf, .int .i64 cs, .int .i64 tc], .agg [.str x, .str y, .str z], .bool mu, .int .i64 sum, .int .i64 now, .int .i64 tick], [] => chk (decide (m1.length ≤ 9223372036854775807) && decide (m2.length ≤ 9223372036854775807) && decide (m3.length ≤ 9223372036854775807) && decide (o1.length ≤ 9223372036854775807) && decide (o2.length ≤ 9223372036854775807) && decide (o3.length ≤ 9223372036854775807) && els.all Kerb.isCred && decide (els.length ≤ 1000000) && decide (x.length ≤ 9223372036854775807) && decide (y.length ≤ 9223372036854775807) && decide (z.length ≤ 9223372036854775807)) (some (.tup [.agg [.str ((Kerb.present (Kerb.Client.mk ⟨m1, m2, m3⟩ ad sk li ⟨⟨o1, o2, o3⟩, els.map Kerb.toCred⟩ wt ⟨w1, w2, w3⟩ se tm lf cs tc) ⟨x, y, z⟩ mu sum now tick).c).me.name, .str ((Kerb.present (Kerb.Client.mk ⟨m1, m2, m3⟩ ad sk li ⟨⟨o1, o2, o3⟩, els.map Kerb.toCred⟩ wt ⟨w1, w2, w3⟩ se tm lf cs tc) ⟨x, y, z⟩ mu sum now tick).c).me.inst, .str ((Kerb.present (Kerb.Client.mk ⟨m1, m2, m3⟩ ad sk li ⟨⟨o1, o2, o3⟩, els.map Kerb.toCred⟩ wt ⟨w1, w2, w3⟩ se tm lf cs tc) ⟨x, y, z⟩ mu sum now tick).c).me.realm, .int .i64 ((Kerb.present (Kerb.Client.mk ⟨m1, m2, m3⟩ ad sk li ⟨⟨o1, o2, o3⟩, els.map Kerb.toCred⟩ wt ⟨w1, w2, w3⟩ se tm lf cs tc) ⟨x, y, z⟩ mu sum now tick).c).address, .int .i64 ((Kerb.present (Kerb.Client.mk ⟨m1, m2, m3⟩ ad sk li ⟨⟨o1, o2, o3⟩, els.map Kerb.toCred⟩ wt ⟨w1, w2, w3⟩ se tm lf cs tc) ⟨x, y, z⟩ mu sum now tick).c).skew, .bool ((Kerb.present (Kerb.Client.mk ⟨m1, m2, m3⟩ ad sk li ⟨⟨o1, o2, o3⟩, els.map Kerb.toCred⟩ wt ⟨w1, w2, w3⟩ se tm lf cs tc) ⟨x, y, z⟩ mu sum now tick).c).little, .str ((Kerb.present (Kerb.Client.mk ⟨m1, m2, m3⟩ ad sk li ⟨⟨o1, o2, o3⟩, els.map Kerb.toCred⟩ wt ⟨w1, w2, w3⟩ se tm lf cs tc) ⟨x, y, z⟩ mu sum now tick).c).cache.owner.name, .str ((Kerb.present (Kerb.Client.mk ⟨m1, m2, m3⟩ ad sk li ⟨⟨o1, o2, o3⟩, els.map Kerb.toCred⟩ wt ⟨w1, w2, w3⟩ se tm lf cs tc) ⟨x, y, z⟩ mu sum now tick).c).cache.owner.inst, .str ((Kerb.present (Kerb.Client.mk ⟨m1, m2, m3⟩ ad sk li ⟨⟨o1, o2, o3⟩, els.map Kerb.toCred⟩ wt ⟨w1, w2, w3⟩ se tm lf cs tc) ⟨x, y, z⟩ mu sum now tick).c).cache.owner.realm, .sl 8 (((Kerb.present (Kerb.Client.mk ⟨m1, m2, m3⟩ ad sk li ⟨⟨o1, o2, o3⟩, els.map Kerb.toCred⟩ wt ⟨w1, w2, w3⟩ se tm lf cs tc) ⟨x, y, z⟩ mu sum now tick).c).cache.creds.map Kerb.Cred.av), .int .i64 ((Kerb.present (Kerb.Client.mk ⟨m1, m2, m3⟩ ad sk li ⟨⟨o1, o2, o3⟩, els.map Kerb.toCred⟩ wt ⟨w1, w2, w3⟩ se tm lf cs tc) ⟨x, y, z⟩ mu sum now tick).c).wait, .str ((Kerb.present (Kerb.Client.mk ⟨m1, m2, m3⟩ ad sk li ⟨⟨o1, o2, o3⟩, els.map Kerb.toCred⟩ wt ⟨w1, w2, w3⟩ se tm lf cs tc) ⟨x, y, z⟩ mu sum now tick).c).wanted.name, .str ((Kerb.present (Kerb.Client.mk ⟨m1, m2, m3⟩ ad sk li ⟨⟨o1, o2, o3⟩, els.map Kerb.toCred⟩ wt ⟨w1, w2, w3⟩ se tm lf cs tc) ⟨x, y, z⟩ mu sum now tick).c).wanted.inst, .str ((Kerb.present (Kerb.Client.mk ⟨m1, m2, m3⟩ ad sk li ⟨⟨o1, o2, o3⟩, els.map Kerb.toCred⟩ wt ⟨w1, w2, w3⟩ se tm lf cs tc) ⟨x, y, z⟩ mu sum now tick).c).wanted.realm, .int .u64 ((Kerb.present (Kerb.Client.mk ⟨m1, m2, m3⟩ ad sk li ⟨⟨o1, o2, o3⟩, els.map Kerb.toCred⟩ wt ⟨w1, w2, w3⟩ se tm lf cs tc) ⟨x, y, z⟩ mu sum now tick).c).session, .int .i64 ((Kerb.present (Kerb.Client.mk ⟨m1, m2, m3⟩ ad sk li ⟨⟨o1, o2, o3⟩, els.map Kerb.toCred⟩ wt ⟨w1, w2, w3⟩ se tm lf cs tc) ⟨x, y, z⟩ mu sum now tick).c).time, .int .i64 ((Kerb.present (Kerb.Client.mk ⟨m1, m2, m3⟩ ad sk li ⟨⟨o1, o2, o3⟩, els.map Kerb.toCred⟩ wt ⟨w1, w2, w3⟩ se tm lf cs tc) ⟨x, y, z⟩ mu sum now tick).c).life, .int .i64 ((Kerb.present (Kerb.Client.mk ⟨m1, m2, m3⟩ ad sk li ⟨⟨o1, o2, o3⟩, els.map Kerb.toCred⟩ wt ⟨w1, w2, w3⟩ se tm lf cs tc) ⟨x, y, z⟩ mu sum now tick).c).checksum, .int .i64 ((Kerb.present (Kerb.Client.mk ⟨m1, m2, m3⟩ ad sk li ⟨⟨o1, o2, o3⟩, els.map Kerb.toCred⟩ wt ⟨w1, w2, w3⟩ se tm lf cs tc) ⟨x, y, z⟩ mu sum now tick).c).tick], .bs (Kerb.present (Kerb.Client.mk ⟨m1, m2, m3⟩ ad sk li ⟨⟨o1, o2, o3⟩, els.map Kerb.toCred⟩ wt ⟨w1, w2, w3⟩ se tm lf cs tc) ⟨x, y, z⟩ mu sum now tick).msg, .agg [.str ((Kerb.present (Kerb.Client.mk ⟨m1, m2, m3⟩ ad sk li ⟨⟨o1, o2, o3⟩, els.map Kerb.toCred⟩ wt ⟨w1, w2, w3⟩ se tm lf cs tc) ⟨x, y, z⟩ mu sum now tick).cred).service.name, .str ((Kerb.present (Kerb.Client.mk ⟨m1, m2, m3⟩ ad sk li ⟨⟨o1, o2, o3⟩, els.map Kerb.toCred⟩ wt ⟨w1, w2, w3⟩ se tm lf cs tc) ⟨x, y, z⟩ mu sum now tick).cred).service.inst, .str ((Kerb.present (Kerb.Client.mk ⟨m1, m2, m3⟩ ad sk li ⟨⟨o1, o2, o3⟩, els.map Kerb.toCred⟩ wt ⟨w1, w2, w3⟩ se tm lf cs tc) ⟨x, y, z⟩ mu sum now tick).cred).service.realm, .int .u64 ((Kerb.present (Kerb.Client.mk ⟨m1, m2, m3⟩ ad sk li ⟨⟨o1, o2, o3⟩, els.map Kerb.toCred⟩ wt ⟨w1, w2, w3⟩ se tm lf cs tc) ⟨x, y, z⟩ mu sum now tick).cred).session, .int .i64 ((Kerb.present (Kerb.Client.mk ⟨m1, m2, m3⟩ ad sk li ⟨⟨o1, o2, o3⟩, els.map Kerb.toCred⟩ wt ⟨w1, w2, w3⟩ se tm lf cs tc) ⟨x, y, z⟩ mu sum now tick).cred).life, .int .i64 ((Kerb.present (Kerb.Client.mk ⟨m1, m2, m3⟩ ad sk li ⟨⟨o1, o2, o3⟩, els.map Kerb.toCred⟩ wt ⟨w1, w2, w3⟩ se tm lf cs tc) ⟨x, y, z⟩ mu sum now tick).cred).kvno, .int .i64 ((Kerb.present (Kerb.Client.mk ⟨m1, m2, m3⟩ ad sk li ⟨⟨o1, o2, o3⟩, els.map Kerb.toCred⟩ wt ⟨w1, w2, w3⟩ se tm lf cs tc) ⟨x, y, z⟩ mu sum now tick).cred).issued, .bs ((Kerb.present (Kerb.Client.mk ⟨m1, m2, m3⟩ ad sk li ⟨⟨o1, o2, o3⟩, els.map Kerb.toCred⟩ wt ⟨w1, w2, w3⟩ se tm lf cs tc) ⟨x, y, z⟩ mu sum now tick).cred).ticket], .bs (Kerb.present (Kerb.Client.mk ⟨m1, m2, m3⟩ ad sk li ⟨⟨o1, o2, o3⟩, els.map Kerb.toCred⟩ wt ⟨w1, w2, w3⟩ se tm lf cs tc) ⟨x, y, z⟩ mu sum now tick).auth, .int .i64 (Kerb.present (Kerb.Client.mk ⟨m1, m2, m3⟩ ad sk li ⟨⟨o1, o2, o3⟩, els.map Kerb.toCred⟩ wt ⟨w1, w2, w3⟩ se tm lf cs tc) ⟨x, y, z⟩ mu sum now tick).err], []))
  | _, _ => none

def sp43 : Abs.Spec := fun xs bl => match xs, bl with
  | [.agg [.bool li, .str x, .str y, .str z, .int .i64 t, .int .i64 lf, .str sv, .str ins]], [] => chk (decide (x.length ≤ 9223372036854775807) && decide (y.length ≤ 9223372036854775807) && decide (z.length ≤ 9223372036854775807) && decide (sv.length ≤ 9223372036854775807) && decide (ins.length ≤ 9223372036854775807)) (some (.tup [.bs (Kerb.encodeRequest ⟨li, ⟨x, y, z⟩, t, lf, sv, ins⟩).val, .int .i64 (Kerb.encodeRequest ⟨li, ⟨x, y, z⟩, t, lf, sv, ins⟩).err], []))
  | _, _ => none

def sp55 : Abs.Spec := fun xs bl => match xs, bl with
  | [.agg [.bool li, .bool mu, .int .i64 kv, .str rl, .bs tk, .bs au, .int .i64 tm, .int .i64 lf, .str sv, .str ins]], [] => chk (decide (rl.length ≤ 9223372036854775807) && decide (sv.length ≤ 9223372036854775807) && decide (ins.length ≤ 9223372036854775807)) (some (.tup [.bs (Kerb.encodeTgs (Kerb.TgsRequest.mk (Kerb.ApRequest.mk li mu kv rl tk au) tm lf sv ins)).val, .int .i64 (Kerb.encodeTgs (Kerb.TgsRequest.mk (Kerb.ApRequest.mk li mu kv rl tk au) tm lf sv ins)).err], []))
  | _, _ => none

def sp88 : Abs.Spec := fun xs bl => match xs, bl with
  | [.agg [.str o1, .str o2, .str o3, .sl 8 els]], [] => chk (decide (o1.length ≤ 9223372036854775807) && decide (o2.length ≤ 9223372036854775807) && decide (o3.length ≤ 9223372036854775807) && els.all Kerb.isCred && decide (els.length ≤ 1000000)) (some (.int .i64 (Kerb.Cache.mk ⟨o1, o2, o3⟩ (els.map Kerb.toCred)).err, []))
  | _, _ => none

def sp89 : Abs.Spec := fun xs bl => match xs, bl with
  | [.agg [.str x, .str y, .str z]], [] => chk (decide (x.length ≤ 9223372036854775807) && decide (y.length ≤ 9223372036854775807) && decide (z.length ≤ 9223372036854775807)) (some (.tup [.agg [.str (cond (Kerb.Prin.valid ⟨x, y, z⟩) (Kerb.Cache.mk ⟨x, y, z⟩ []) Kerb.noCache).owner.name, .str (cond (Kerb.Prin.valid ⟨x, y, z⟩) (Kerb.Cache.mk ⟨x, y, z⟩ []) Kerb.noCache).owner.inst, .str (cond (Kerb.Prin.valid ⟨x, y, z⟩) (Kerb.Cache.mk ⟨x, y, z⟩ []) Kerb.noCache).owner.realm, .sl 8 ((cond (Kerb.Prin.valid ⟨x, y, z⟩) (Kerb.Cache.mk ⟨x, y, z⟩ []) Kerb.noCache).creds.map Kerb.Cred.av)], .int .i64 (cond (Kerb.Prin.valid ⟨x, y, z⟩) 0 103)], []))
  | _, _ => none

def sp191 : Abs.Spec := fun xs bl => match xs, bl with
  | [.agg [.str x, .str y, .str z, .int .i64 ck, .int .i64 tc, .int .i64 tm]], [] => chk (decide (x.length ≤ 9223372036854775807) && decide (y.length ≤ 9223372036854775807) && decide (z.length ≤ 9223372036854775807)) (some (.int .i64 (Kerb.Auth.mk ⟨x, y, z⟩ ck tc tm).check, []))
  | _, _ => none

def sp34 : Abs.Spec := fun xs bl => match xs, bl with
  | [.agg [.str m1, .str m2, .str m3, .int .i64 ad, .int .i64 sk, .bool li, .str o1, .str o2, .str o3, .sl 8 els, .int .i64 wt, .str w1, .str w2, .str w3, .int .u64 se, .int .i64 tm, .int .i64 lf, .int .i64 cs, .int .i64 tc]], [] => chk (decide (m1.length ≤ 9223372036854775807) && decide (m2.length ≤ 9223372036854775807) && decide (m3.length ≤ 9223372036854775807) && decide (o1.length ≤ 9223372036854775807) && decide (o2.length ≤ 9223372036854775807) && decide (o3.length ≤ 9223372036854775807) && els.all Kerb.isCred && decide (els.length ≤ 1000000)) (some (.int .i64 (Kerb.Client.mk ⟨m1, m2, m3⟩ ad sk li ⟨⟨o1, o2, o3⟩, els.map Kerb.toCred⟩ wt ⟨w1, w2, w3⟩ se tm lf cs tc).err, []))
  | _, _ => none

def sp36 : Abs.Spec := fun xs bl => match xs, bl with
  | [.agg [.str x, .str y, .str z], .int .i64 ad, .int .i64 sk, .bool li], [] => chk (decide (x.length ≤ 9223372036854775807) && decide (y.length ≤ 9223372036854775807) && decide (z.length ≤ 9223372036854775807)) (some (.tup [.agg [.str ((Kerb.newClient ⟨x, y, z⟩ ad sk li).val).me.name, .str ((Kerb.newClient ⟨x, y, z⟩ ad sk li).val).me.inst, .str ((Kerb.newClient ⟨x, y, z⟩ ad sk li).val).me.realm, .int .i64 ((Kerb.newClient ⟨x, y, z⟩ ad sk li).val).address, .int .i64 ((Kerb.newClient ⟨x, y, z⟩ ad sk li).val).skew, .bool ((Kerb.newClient ⟨x, y, z⟩ ad sk li).val).little, .str ((Kerb.newClient ⟨x, y, z⟩ ad sk li).val).cache.owner.name, .str ((Kerb.newClient ⟨x, y, z⟩ ad sk li).val).cache.owner.inst, .str ((Kerb.newClient ⟨x, y, z⟩ ad sk li).val).cache.owner.realm, .sl 8 (((Kerb.newClient ⟨x, y, z⟩ ad sk li).val).cache.creds.map Kerb.Cred.av), .int .i64 ((Kerb.newClient ⟨x, y, z⟩ ad sk li).val).wait, .str ((Kerb.newClient ⟨x, y, z⟩ ad sk li).val).wanted.name, .str ((Kerb.newClient ⟨x, y, z⟩ ad sk li).val).wanted.inst, .str ((Kerb.newClient ⟨x, y, z⟩ ad sk li).val).wanted.realm, .int .u64 ((Kerb.newClient ⟨x, y, z⟩ ad sk li).val).session, .int .i64 ((Kerb.newClient ⟨x, y, z⟩ ad sk li).val).time, .int .i64 ((Kerb.newClient ⟨x, y, z⟩ ad sk li).val).life, .int .i64 ((Kerb.newClient ⟨x, y, z⟩ ad sk li).val).checksum, .int .i64 ((Kerb.newClient ⟨x, y, z⟩ ad sk li).val).tick], .int .i64 (Kerb.newClient ⟨x, y, z⟩ ad sk li).err], []))
  | _, _ => none

def sp164 : Abs.Spec := fun xs bl => match xs, bl with
  | [.agg [.str x, .str y, .str z, .int .i64 ck, .int .i64 tc, .int .i64 tm], .bool li], [] => chk (decide (x.length ≤ 9223372036854775807) && decide (y.length ≤ 9223372036854775807) && decide (z.length ≤ 9223372036854775807)) (some (.tup [.bs (Kerb.encodeAuth (Kerb.Auth.mk ⟨x, y, z⟩ ck tc tm) li).val, .int .i64 (Kerb.encodeAuth (Kerb.Auth.mk ⟨x, y, z⟩ ck tc tm) li).err], []))
  | _, _ => none

def sp13 : Abs.Spec := fun xs bl => match xs, bl with
  | [.agg [.str m1, .str m2, .str m3, .int .i64 ad, .int .i64 sk, .bool li, .str o1, .str o2, .str o3, .sl 8 els, .int .i64 wt, .str w1, .str w2, .str w3, .int .u64 se, .int .i64 tm, .int .i64 lf, .int .i64 cs, .int .i64 tc], .int .i64 life, .int .i64 now], [] => chk (decide (m1.length ≤ 9223372036854775807) && decide (m2.length ≤ 9223372036854775807) && decide (m3.length ≤ 9223372036854775807) && decide (o1.length ≤ 9223372036854775807) && decide (o2.length ≤ 9223372036854775807) && decide (o3.length ≤ 9223372036854775807) && els.all Kerb.isCred && decide (els.length ≤ 1000000)) (some (.tup [.agg [.str ((Kerb.login (Kerb.Client.mk ⟨m1, m2, m3⟩ ad sk li ⟨⟨o1, o2, o3⟩, els.map Kerb.toCred⟩ wt ⟨w1, w2, w3⟩ se tm lf cs tc) life now).c).me.name, .str ((Kerb.login (Kerb.Client.mk ⟨m1, m2, m3⟩ ad sk li ⟨⟨o1, o2, o3⟩, els.map Kerb.toCred⟩ wt ⟨w1, w2, w3⟩ se tm lf cs tc) life now).c).me.inst, .str ((Kerb.login (Kerb.Client.mk ⟨m1, m2, m3⟩ ad sk li ⟨⟨o1, o2, o3⟩, els.map Kerb.toCred⟩ wt ⟨w1, w2, w3⟩ se tm lf cs tc) life now).c).me.realm, .int .i64 ((Kerb.login (Kerb.Client.mk ⟨m1, m2, m3⟩ ad sk li ⟨⟨o1, o2, o3⟩, els.map Kerb.toCred⟩ wt ⟨w1, w2, w3⟩ se tm lf cs tc) life now).c).address, .int .i64 ((Kerb.login (Kerb.Client.mk ⟨m1, m2, m3⟩ ad sk li ⟨⟨o1, o2, o3⟩, els.map Kerb.toCred⟩ wt ⟨w1, w2, w3⟩ se tm lf cs tc) life now).c).skew, .bool ((Kerb.login (Kerb.Client.mk ⟨m1, m2, m3⟩ ad sk li ⟨⟨o1, o2, o3⟩, els.map Kerb.toCred⟩ wt ⟨w1, w2, w3⟩ se tm lf cs tc) life now).c).little, .str ((Kerb.login (Kerb.Client.mk ⟨m1, m2, m3⟩ ad sk li ⟨⟨o1, o2, o3⟩, els.map Kerb.toCred⟩ wt ⟨w1, w2, w3⟩ se tm lf cs tc) life now).c).cache.owner.name, .str ((Kerb.login (Kerb.Client.mk ⟨m1, m2, m3⟩ ad sk li ⟨⟨o1, o2, o3⟩, els.map Kerb.toCred⟩ wt ⟨w1, w2, w3⟩ se tm lf cs tc) life now).c).cache.owner.inst, .str ((Kerb.login (Kerb.Client.mk ⟨m1, m2, m3⟩ ad sk li ⟨⟨o1, o2, o3⟩, els.map Kerb.toCred⟩ wt ⟨w1, w2, w3⟩ se tm lf cs tc) life now).c).cache.owner.realm, .sl 8 (((Kerb.login (Kerb.Client.mk ⟨m1, m2, m3⟩ ad sk li ⟨⟨o1, o2, o3⟩, els.map Kerb.toCred⟩ wt ⟨w1, w2, w3⟩ se tm lf cs tc) life now).c).cache.creds.map Kerb.Cred.av), .int .i64 ((Kerb.login (Kerb.Client.mk ⟨m1, m2, m3⟩ ad sk li ⟨⟨o1, o2, o3⟩, els.map Kerb.toCred⟩ wt ⟨w1, w2, w3⟩ se tm lf cs tc) life now).c).wait, .str ((Kerb.login (Kerb.Client.mk ⟨m1, m2, m3⟩ ad sk li ⟨⟨o1, o2, o3⟩, els.map Kerb.toCred⟩ wt ⟨w1, w2, w3⟩ se tm lf cs tc) life now).c).wanted.name, .str ((Kerb.login (Kerb.Client.mk ⟨m1, m2, m3⟩ ad sk li ⟨⟨o1, o2, o3⟩, els.map Kerb.toCred⟩ wt ⟨w1, w2, w3⟩ se tm lf cs tc) life now).c).wanted.inst, .str ((Kerb.login (Kerb.Client.mk ⟨m1, m2, m3⟩ ad sk li ⟨⟨o1, o2, o3⟩, els.map Kerb.toCred⟩ wt ⟨w1, w2, w3⟩ se tm lf cs tc) life now).c).wanted.realm, .int .u64 ((Kerb.login (Kerb.Client.mk ⟨m1, m2, m3⟩ ad sk li ⟨⟨o1, o2, o3⟩, els.map Kerb.toCred⟩ wt ⟨w1, w2, w3⟩ se tm lf cs tc) life now).c).session, .int .i64 ((Kerb.login (Kerb.Client.mk ⟨m1, m2, m3⟩ ad sk li ⟨⟨o1, o2, o3⟩, els.map Kerb.toCred⟩ wt ⟨w1, w2, w3⟩ se tm lf cs tc) life now).c).time, .int .i64 ((Kerb.login (Kerb.Client.mk ⟨m1, m2, m3⟩ ad sk li ⟨⟨o1, o2, o3⟩, els.map Kerb.toCred⟩ wt ⟨w1, w2, w3⟩ se tm lf cs tc) life now).c).life, .int .i64 ((Kerb.login (Kerb.Client.mk ⟨m1, m2, m3⟩ ad sk li ⟨⟨o1, o2, o3⟩, els.map Kerb.toCred⟩ wt ⟨w1, w2, w3⟩ se tm lf cs tc) life now).c).checksum, .int .i64 ((Kerb.login (Kerb.Client.mk ⟨m1, m2, m3⟩ ad sk li ⟨⟨o1, o2, o3⟩, els.map Kerb.toCred⟩ wt ⟨w1, w2, w3⟩ se tm lf cs tc) life now).c).tick], .bs (Kerb.login (Kerb.Client.mk ⟨m1, m2, m3⟩ ad sk li ⟨⟨o1, o2, o3⟩, els.map Kerb.toCred⟩ wt ⟨w1, w2, w3⟩ se tm lf cs tc) life now).msg, .int .i64 (Kerb.login (Kerb.Client.mk ⟨m1, m2, m3⟩ ad sk li ⟨⟨o1, o2, o3⟩, els.map Kerb.toCred⟩ wt ⟨w1, w2, w3⟩ se tm lf cs tc) life now).err], []))
  | _, _ => none

def sp27 : Abs.Spec := fun xs bl => match xs, bl with
  | [.agg [.str m1, .str m2, .str m3, .int .i64 ad, .int .i64 sk, .bool li, .str o1, .str o2, .str o3, .sl 8 els, .int .i64 wt, .str w1, .str w2, .str w3, .int .u64 se, .int .i64 tm, .int .i64 lf, .int .i64 cs, .int .i64 tc], .bs msg], [] => chk (decide (m1.length ≤ 9223372036854775807) && decide (m2.length ≤ 9223372036854775807) && decide (m3.length ≤ 9223372036854775807) && decide (o1.length ≤ 9223372036854775807) && decide (o2.length ≤ 9223372036854775807) && decide (o3.length ≤ 9223372036854775807) && els.all Kerb.isCred && decide (els.length ≤ 1000000) && decide (msg.length ≤ 140737488355328)) (some (.tup [.agg [.str ((Kerb.readAnswer (Kerb.Client.mk ⟨m1, m2, m3⟩ ad sk li ⟨⟨o1, o2, o3⟩, els.map Kerb.toCred⟩ wt ⟨w1, w2, w3⟩ se tm lf cs tc) msg).c).me.name, .str ((Kerb.readAnswer (Kerb.Client.mk ⟨m1, m2, m3⟩ ad sk li ⟨⟨o1, o2, o3⟩, els.map Kerb.toCred⟩ wt ⟨w1, w2, w3⟩ se tm lf cs tc) msg).c).me.inst, .str ((Kerb.readAnswer (Kerb.Client.mk ⟨m1, m2, m3⟩ ad sk li ⟨⟨o1, o2, o3⟩, els.map Kerb.toCred⟩ wt ⟨w1, w2, w3⟩ se tm lf cs tc) msg).c).me.realm, .int .i64 ((Kerb.readAnswer (Kerb.Client.mk ⟨m1, m2, m3⟩ ad sk li ⟨⟨o1, o2, o3⟩, els.map Kerb.toCred⟩ wt ⟨w1, w2, w3⟩ se tm lf cs tc) msg).c).address, .int .i64 ((Kerb.readAnswer (Kerb.Client.mk ⟨m1, m2, m3⟩ ad sk li ⟨⟨o1, o2, o3⟩, els.map Kerb.toCred⟩ wt ⟨w1, w2, w3⟩ se tm lf cs tc) msg).c).skew, .bool ((Kerb.readAnswer (Kerb.Client.mk ⟨m1, m2, m3⟩ ad sk li ⟨⟨o1, o2, o3⟩, els.map Kerb.toCred⟩ wt ⟨w1, w2, w3⟩ se tm lf cs tc) msg).c).little, .str ((Kerb.readAnswer (Kerb.Client.mk ⟨m1, m2, m3⟩ ad sk li ⟨⟨o1, o2, o3⟩, els.map Kerb.toCred⟩ wt ⟨w1, w2, w3⟩ se tm lf cs tc) msg).c).cache.owner.name, .str ((Kerb.readAnswer (Kerb.Client.mk ⟨m1, m2, m3⟩ ad sk li ⟨⟨o1, o2, o3⟩, els.map Kerb.toCred⟩ wt ⟨w1, w2, w3⟩ se tm lf cs tc) msg).c).cache.owner.inst, .str ((Kerb.readAnswer (Kerb.Client.mk ⟨m1, m2, m3⟩ ad sk li ⟨⟨o1, o2, o3⟩, els.map Kerb.toCred⟩ wt ⟨w1, w2, w3⟩ se tm lf cs tc) msg).c).cache.owner.realm, .sl 8 (((Kerb.readAnswer (Kerb.Client.mk ⟨m1, m2, m3⟩ ad sk li ⟨⟨o1, o2, o3⟩, els.map Kerb.toCred⟩ wt ⟨w1, w2, w3⟩ se tm lf cs tc) msg).c).cache.creds.map Kerb.Cred.av), .int .i64 ((Kerb.readAnswer (Kerb.Client.mk ⟨m1, m2, m3⟩ ad sk li ⟨⟨o1, o2, o3⟩, els.map Kerb.toCred⟩ wt ⟨w1, w2, w3⟩ se tm lf cs tc) msg).c).wait, .str ((Kerb.readAnswer (Kerb.Client.mk ⟨m1, m2, m3⟩ ad sk li ⟨⟨o1, o2, o3⟩, els.map Kerb.toCred⟩ wt ⟨w1, w2, w3⟩ se tm lf cs tc) msg).c).wanted.name, .str ((Kerb.readAnswer (Kerb.Client.mk ⟨m1, m2, m3⟩ ad sk li ⟨⟨o1, o2, o3⟩, els.map Kerb.toCred⟩ wt ⟨w1, w2, w3⟩ se tm lf cs tc) msg).c).wanted.inst, .str ((Kerb.readAnswer (Kerb.Client.mk ⟨m1, m2, m3⟩ ad sk li ⟨⟨o1, o2, o3⟩, els.map Kerb.toCred⟩ wt ⟨w1, w2, w3⟩ se tm lf cs tc) msg).c).wanted.realm, .int .u64 ((Kerb.readAnswer (Kerb.Client.mk ⟨m1, m2, m3⟩ ad sk li ⟨⟨o1, o2, o3⟩, els.map Kerb.toCred⟩ wt ⟨w1, w2, w3⟩ se tm lf cs tc) msg).c).session, .int .i64 ((Kerb.readAnswer (Kerb.Client.mk ⟨m1, m2, m3⟩ ad sk li ⟨⟨o1, o2, o3⟩, els.map Kerb.toCred⟩ wt ⟨w1, w2, w3⟩ se tm lf cs tc) msg).c).time, .int .i64 ((Kerb.readAnswer (Kerb.Client.mk ⟨m1, m2, m3⟩ ad sk li ⟨⟨o1, o2, o3⟩, els.map Kerb.toCred⟩ wt ⟨w1, w2, w3⟩ se tm lf cs tc) msg).c).life, .int .i64 ((Kerb.readAnswer (Kerb.Client.mk ⟨m1, m2, m3⟩ ad sk li ⟨⟨o1, o2, o3⟩, els.map Kerb.toCred⟩ wt ⟨w1, w2, w3⟩ se tm lf cs tc) msg).c).checksum, .int .i64 ((Kerb.readAnswer (Kerb.Client.mk ⟨m1, m2, m3⟩ ad sk li ⟨⟨o1, o2, o3⟩, els.map Kerb.toCred⟩ wt ⟨w1, w2, w3⟩ se tm lf cs tc) msg).c).tick], .int .i64 (Kerb.readAnswer (Kerb.Client.mk ⟨m1, m2, m3⟩ ad sk li ⟨⟨o1, o2, o3⟩, els.map Kerb.toCred⟩ wt ⟨w1, w2, w3⟩ se tm lf cs tc) msg).err], []))
  | _, _ => none

def sp113 : Abs.Spec := fun xs bl => match xs, bl with
  | [.agg [.str x, .str y, .str z, .int .i64 ck, .int .i64 tc, .int .i64 tm], .bool li, .int .u64 k], [] => chk (decide (x.length ≤ 9223372036854775807) && decide (y.length ≤ 9223372036854775807) && decide (z.length ≤ 9223372036854775807) && decide (0 ≤ k) && decide (k < 18446744073709551616)) (some (.tup [.bs (Kerb.sealAuth (Kerb.Auth.mk ⟨x, y, z⟩ ck tc tm) li k).val, .int .i64 (Kerb.sealAuth (Kerb.Auth.mk ⟨x, y, z⟩ ck tc tm) li k).err], []))
  | _, _ => none

def sp54 : Abs.Spec := fun xs bl => match xs, bl with
  | [.agg [.str m1, .str m2, .str m3, .int .i64 ad, .int .i64 sk, .bool li, .str o1, .str o2, .str o3, .sl 8 els, .int .i64 wt, .str w1, .str w2, .str w3, .int .u64 se, .int .i64 tm, .int .i64 lf, .int .i64 cs, .int .i64 tc], .agg [.str s1, .str s2, .str s3, .int .u64 sk2, .int .i64 lf2, .int .i64 kv2, .int .i64 is2, .bs tk2], .bool mu, .agg [.str x, .str y, .str z, .int .i64 ck, .int .i64 tc2, .int .i64 tm2]], [] => chk (decide (x.length ≤ 9223372036854775807) && decide (y.length ≤ 9223372036854775807) && decide (z.length ≤ 9223372036854775807) && decide (0 ≤ sk2) && decide (sk2 < 18446744073709551616)) (some (.tup [.agg [.bool (Kerb.apOf (Kerb.Client.mk ⟨m1, m2, m3⟩ ad sk li ⟨⟨o1, o2, o3⟩, els.map Kerb.toCred⟩ wt ⟨w1, w2, w3⟩ se tm lf cs tc) (Kerb.Cred.mk ⟨s1, s2, s3⟩ sk2 lf2 kv2 is2 tk2) mu ⟨⟨x, y, z⟩, ck, tc2, tm2⟩).val.little, .bool (Kerb.apOf (Kerb.Client.mk ⟨m1, m2, m3⟩ ad sk li ⟨⟨o1, o2, o3⟩, els.map Kerb.toCred⟩ wt ⟨w1, w2, w3⟩ se tm lf cs tc) (Kerb.Cred.mk ⟨s1, s2, s3⟩ sk2 lf2 kv2 is2 tk2) mu ⟨⟨x, y, z⟩, ck, tc2, tm2⟩).val.mutual_, .int .i64 (Kerb.apOf (Kerb.Client.mk ⟨m1, m2, m3⟩ ad sk li ⟨⟨o1, o2, o3⟩, els.map Kerb.toCred⟩ wt ⟨w1, w2, w3⟩ se tm lf cs tc) (Kerb.Cred.mk ⟨s1, s2, s3⟩ sk2 lf2 kv2 is2 tk2) mu ⟨⟨x, y, z⟩, ck, tc2, tm2⟩).val.kvno, .str (Kerb.apOf (Kerb.Client.mk ⟨m1, m2, m3⟩ ad sk li ⟨⟨o1, o2, o3⟩, els.map Kerb.toCred⟩ wt ⟨w1, w2, w3⟩ se tm lf cs tc) (Kerb.Cred.mk ⟨s1, s2, s3⟩ sk2 lf2 kv2 is2 tk2) mu ⟨⟨x, y, z⟩, ck, tc2, tm2⟩).val.realm, .bs (Kerb.apOf (Kerb.Client.mk ⟨m1, m2, m3⟩ ad sk li ⟨⟨o1, o2, o3⟩, els.map Kerb.toCred⟩ wt ⟨w1, w2, w3⟩ se tm lf cs tc) (Kerb.Cred.mk ⟨s1, s2, s3⟩ sk2 lf2 kv2 is2 tk2) mu ⟨⟨x, y, z⟩, ck, tc2, tm2⟩).val.ticket, .bs (Kerb.apOf (Kerb.Client.mk ⟨m1, m2, m3⟩ ad sk li ⟨⟨o1, o2, o3⟩, els.map Kerb.toCred⟩ wt ⟨w1, w2, w3⟩ se tm lf cs tc) (Kerb.Cred.mk ⟨s1, s2, s3⟩ sk2 lf2 kv2 is2 tk2) mu ⟨⟨x, y, z⟩, ck, tc2, tm2⟩).val.auth], .int .i64 (Kerb.apOf (Kerb.Client.mk ⟨m1, m2, m3⟩ ad sk li ⟨⟨o1, o2, o3⟩, els.map Kerb.toCred⟩ wt ⟨w1, w2, w3⟩ se tm lf cs tc) (Kerb.Cred.mk ⟨s1, s2, s3⟩ sk2 lf2 kv2 is2 tk2) mu ⟨⟨x, y, z⟩, ck, tc2, tm2⟩).err], []))
  | _, _ => none

def sp16 : Abs.Spec := fun xs bl => match xs, bl with
  | [.agg [.str m1, .str m2, .str m3, .int .i64 ad, .int .i64 sk, .bool li, .str o1, .str o2, .str o3, .sl 8 els, .int .i64 wt, .str w1, .str w2, .str w3, .int .u64 se, .int .i64 tm, .int .i64 lf, .int .i64 cs, .int .i64 tc], .agg [.str x, .str y, .str z], .int .i64 life, .int .i64 now, .int .i64 tick], [] => chk (decide (m1.length ≤ 9223372036854775807) && decide (m2.length ≤ 9223372036854775807) && decide (m3.length ≤ 9223372036854775807) && decide (o1.length ≤ 9223372036854775807) && decide (o2.length ≤ 9223372036854775807) && decide (o3.length ≤ 9223372036854775807) && els.all Kerb.isCred && decide (els.length ≤ 1000000) && decide (x.length ≤ 9223372036854775807) && decide (y.length ≤ 9223372036854775807) && decide (z.length ≤ 9223372036854775807)) (some (.tup [.agg [.str ((Kerb.ask (Kerb.Client.mk ⟨m1, m2, m3⟩ ad sk li ⟨⟨o1, o2, o3⟩, els.map Kerb.toCred⟩ wt ⟨w1, w2, w3⟩ se tm lf cs tc) ⟨x, y, z⟩ life now tick).c).me.name, .str ((Kerb.ask (Kerb.Client.mk ⟨m1, m2, m3⟩ ad sk li ⟨⟨o1, o2, o3⟩, els.map Kerb.toCred⟩ wt ⟨w1, w2, w3⟩ se tm lf cs tc) ⟨x, y, z⟩ life now tick).c).me.inst, .str ((Kerb.ask (Kerb.Client.mk ⟨m1, m2, m3⟩ ad sk li ⟨⟨o1, o2, o3⟩, els.map Kerb.toCred⟩ wt ⟨w1, w2, w3⟩ se tm lf cs tc) ⟨x, y, z⟩ life now tick).c).me.realm, .int .i64 ((Kerb.ask (Kerb.Client.mk ⟨m1, m2, m3⟩ ad sk li ⟨⟨o1, o2, o3⟩, els.map Kerb.toCred⟩ wt ⟨w1, w2, w3⟩ se tm lf cs tc) ⟨x, y, z⟩ life now tick).c).address, .int .i64 ((Kerb.ask (Kerb.Client.mk ⟨m1, m2, m3⟩ ad sk li ⟨⟨o1, o2, o3⟩, els.map Kerb.toCred⟩ wt ⟨w1, w2, w3⟩ se tm lf cs tc) ⟨x, y, z⟩ life now tick).c).skew, .bool ((Kerb.ask (Kerb.Client.mk ⟨m1, m2, m3⟩ ad sk li ⟨⟨o1, o2, o3⟩, els.map Kerb.toCred⟩ wt ⟨w1, w2, w3⟩ se tm lf cs tc) ⟨x, y, z⟩ life now tick).c).little, .str ((Kerb.ask (Kerb.Client.mk ⟨m1, m2, m3⟩ ad sk li ⟨⟨o1, o2, o3⟩, els.map Kerb.toCred⟩ wt ⟨w1, w2, w3⟩ se tm lf cs tc) ⟨x, y, z⟩ life now tick).c).cache.owner.name, .str ((Kerb.ask (Kerb.Client.mk ⟨m1, m2, m3⟩ ad sk li ⟨⟨o1, o2, o3⟩, els.map Kerb.toCred⟩ wt ⟨w1, w2, w3⟩ se tm lf cs tc) ⟨x, y, z⟩ life now tick).c).cache.owner.inst, .str ((Kerb.ask (Kerb.Client.mk ⟨m1, m2, m3⟩ ad sk li ⟨⟨o1, o2, o3⟩, els.map Kerb.toCred⟩ wt ⟨w1, w2, w3⟩ se tm lf cs tc) ⟨x, y, z⟩ life now tick).c).cache.owner.realm, .sl 8 (((Kerb.ask (Kerb.Client.mk ⟨m1, m2, m3⟩ ad sk li ⟨⟨o1, o2, o3⟩, els.map Kerb.toCred⟩ wt ⟨w1, w2, w3⟩ se tm lf cs tc) ⟨x, y, z⟩ life now tick).c).cache.creds.map Kerb.Cred.av), .int .i64 ((Kerb.ask (Kerb.Client.mk ⟨m1, m2, m3⟩ ad sk li ⟨⟨o1, o2, o3⟩, els.map Kerb.toCred⟩ wt ⟨w1, w2, w3⟩ se tm lf cs tc) ⟨x, y, z⟩ life now tick).c).wait, .str ((Kerb.ask (Kerb.Client.mk ⟨m1, m2, m3⟩ ad sk li ⟨⟨o1, o2, o3⟩, els.map Kerb.toCred⟩ wt ⟨w1, w2, w3⟩ se tm lf cs tc) ⟨x, y, z⟩ life now tick).c).wanted.name, .str ((Kerb.ask (Kerb.Client.mk ⟨m1, m2, m3⟩ ad sk li ⟨⟨o1, o2, o3⟩, els.map Kerb.toCred⟩ wt ⟨w1, w2, w3⟩ se tm lf cs tc) ⟨x, y, z⟩ life now tick).c).wanted.inst, .str ((Kerb.ask (Kerb.Client.mk ⟨m1, m2, m3⟩ ad sk li ⟨⟨o1, o2, o3⟩, els.map Kerb.toCred⟩ wt ⟨w1, w2, w3⟩ se tm lf cs tc) ⟨x, y, z⟩ life now tick).c).wanted.realm, .int .u64 ((Kerb.ask (Kerb.Client.mk ⟨m1, m2, m3⟩ ad sk li ⟨⟨o1, o2, o3⟩, els.map Kerb.toCred⟩ wt ⟨w1, w2, w3⟩ se tm lf cs tc) ⟨x, y, z⟩ life now tick).c).session, .int .i64 ((Kerb.ask (Kerb.Client.mk ⟨m1, m2, m3⟩ ad sk li ⟨⟨o1, o2, o3⟩, els.map Kerb.toCred⟩ wt ⟨w1, w2, w3⟩ se tm lf cs tc) ⟨x, y, z⟩ life now tick).c).time, .int .i64 ((Kerb.ask (Kerb.Client.mk ⟨m1, m2, m3⟩ ad sk li ⟨⟨o1, o2, o3⟩, els.map Kerb.toCred⟩ wt ⟨w1, w2, w3⟩ se tm lf cs tc) ⟨x, y, z⟩ life now tick).c).life, .int .i64 ((Kerb.ask (Kerb.Client.mk ⟨m1, m2, m3⟩ ad sk li ⟨⟨o1, o2, o3⟩, els.map Kerb.toCred⟩ wt ⟨w1, w2, w3⟩ se tm lf cs tc) ⟨x, y, z⟩ life now tick).c).checksum, .int .i64 ((Kerb.ask (Kerb.Client.mk ⟨m1, m2, m3⟩ ad sk li ⟨⟨o1, o2, o3⟩, els.map Kerb.toCred⟩ wt ⟨w1, w2, w3⟩ se tm lf cs tc) ⟨x, y, z⟩ life now tick).c).tick], .bs (Kerb.ask (Kerb.Client.mk ⟨m1, m2, m3⟩ ad sk li ⟨⟨o1, o2, o3⟩, els.map Kerb.toCred⟩ wt ⟨w1, w2, w3⟩ se tm lf cs tc) ⟨x, y, z⟩ life now tick).msg, .agg [.str ((Kerb.ask (Kerb.Client.mk ⟨m1, m2, m3⟩ ad sk li ⟨⟨o1, o2, o3⟩, els.map Kerb.toCred⟩ wt ⟨w1, w2, w3⟩ se tm lf cs tc) ⟨x, y, z⟩ life now tick).cred).service.name, .str ((Kerb.ask (Kerb.Client.mk ⟨m1, m2, m3⟩ ad sk li ⟨⟨o1, o2, o3⟩, els.map Kerb.toCred⟩ wt ⟨w1, w2, w3⟩ se tm lf cs tc) ⟨x, y, z⟩ life now tick).cred).service.inst, .str ((Kerb.ask (Kerb.Client.mk ⟨m1, m2, m3⟩ ad sk li ⟨⟨o1, o2, o3⟩, els.map Kerb.toCred⟩ wt ⟨w1, w2, w3⟩ se tm lf cs tc) ⟨x, y, z⟩ life now tick).cred).service.realm, .int .u64 ((Kerb.ask (Kerb.Client.mk ⟨m1, m2, m3⟩ ad sk li ⟨⟨o1, o2, o3⟩, els.map Kerb.toCred⟩ wt ⟨w1, w2, w3⟩ se tm lf cs tc) ⟨x, y, z⟩ life now tick).cred).session, .int .i64 ((Kerb.ask (Kerb.Client.mk ⟨m1, m2, m3⟩ ad sk li ⟨⟨o1, o2, o3⟩, els.map Kerb.toCred⟩ wt ⟨w1, w2, w3⟩ se tm lf cs tc) ⟨x, y, z⟩ life now tick).cred).life, .int .i64 ((Kerb.ask (Kerb.Client.mk ⟨m1, m2, m3⟩ ad sk li ⟨⟨o1, o2, o3⟩, els.map Kerb.toCred⟩ wt ⟨w1, w2, w3⟩ se tm lf cs tc) ⟨x, y, z⟩ life now tick).cred).kvno, .int .i64 ((Kerb.ask (Kerb.Client.mk ⟨m1, m2, m3⟩ ad sk li ⟨⟨o1, o2, o3⟩, els.map Kerb.toCred⟩ wt ⟨w1, w2, w3⟩ se tm lf cs tc) ⟨x, y, z⟩ life now tick).cred).issued, .bs ((Kerb.ask (Kerb.Client.mk ⟨m1, m2, m3⟩ ad sk li ⟨⟨o1, o2, o3⟩, els.map Kerb.toCred⟩ wt ⟨w1, w2, w3⟩ se tm lf cs tc) ⟨x, y, z⟩ life now tick).cred).ticket], .bs (Kerb.ask (Kerb.Client.mk ⟨m1, m2, m3⟩ ad sk li ⟨⟨o1, o2, o3⟩, els.map Kerb.toCred⟩ wt ⟨w1, w2, w3⟩ se tm lf cs tc) ⟨x, y, z⟩ life now tick).auth, .int .i64 (Kerb.ask (Kerb.Client.mk ⟨m1, m2, m3⟩ ad sk li ⟨⟨o1, o2, o3⟩, els.map Kerb.toCred⟩ wt ⟨w1, w2, w3⟩ se tm lf cs tc) ⟨x, y, z⟩ life now tick).err], []))
  | _, _ => none

def sp8 : Abs.Spec := fun xs bl => match xs, bl with
  | [], [] => some (.bool true, [])
  | _, _ => none

def sp5 : Abs.Spec := fun xs bl => match xs, bl with
  | [.agg [.str m1, .str m2, .str m3, .int .i64 ad, .int .i64 sk, .bool li, .str o1, .str o2, .str o3, .sl 8 els, .int .i64 wt, .str w1, .str w2, .str w3, .int .u64 se, .int .i64 tm, .int .i64 lf, .int .i64 cs, .int .i64 tc], .agg [.u8 pw, .u8 ps, .bool pl, .bs pc], .int .u32 sum, .u8 tick, .u8 how, .bool li2, .bs msg, .int .u16 spoil], [] => chk (els.all Kerb.isCred && decide (0 ≤ sum) && decide (sum ≤ 4294967295) && decide (msg.length ≤ 9223372036854775807) && decide (0 ≤ spoil) && decide (spoil ≤ 65535)) (some (.bool true, []))
  | _, _ => none

def tabT : List (Nat × Nat × List CT × Abs.Spec) := [(10, 1, [.other], sp10), (18, 1, [.other, .other], sp18), (24, 1, [.int .i64], sp24), (26, 1, [.bsl, .int .u16], sp26), (41, 1, [.int .i64, .int .i64], sp41), (42, 1, [.str, .str], sp42), (44, 1, [.other, .other], sp44), (46, 1, [.int .i64, .int .i64], sp46), (49, 1, [.other], sp49), (50, 1, [.int .i64], sp50), (64, 1, [.bsl], sp64), (85, 1, [.other, .other], sp85), (91, 1, [.ptr], sp91), (93, 1, [], sp93), (96, 1, [.int .i64, .int .i64], sp96), (106, 1, [.int .i64, .bool], sp106), (109, 1, [.bsl, .str], sp109), (114, 1, [.int .i64, .int .i64], sp114), (118, 1, [.int .i64, .int .i64], sp118), (128, 1, [.int .i64, .int .i64], sp128), (130, 1, [.bsl], sp130), (131, 1, [.int .u64], sp131), (137, 1, [.bsl, .bsl], sp137), (150, 1, [.int .i64], sp150), (153, 1, [.int .i64], sp153), (155, 1, [.int .i64, .int .i64], sp155), (156, 1, [.sl 8, .other], sp156), (157, 1, [.ptr, .int .i64], sp157), (159, 1, [.int .i64], sp159), (161, 1, [.str, .str], sp161), (162, 1, [.bsl, .int .i64, .int .i64, .bool], sp162), (167, 1, [.other, .other], sp167), (169, 1, [.ptr, .int .i64, .int .i64], sp169), (171, 1, [.bsl, .int .i64, .int .i64], sp171), (174, 1, [.int .i64, .int .i64], sp174), (176, 1, [.int .i64, .sl 1], sp176), (178, 1, [.bsl, .int .i64, .int .i64], sp178), (179, 1, [.bsl], sp179), (182, 1, [.int .i64], sp182), (190, 1, [.int .i64], sp190), (192, 1, [.int .u64], sp192), (194, 1, [.int .i64, .int .i64], sp194), (197, 1, [.int .i64], sp197), (198, 1, [.int .i64], sp198), (199, 1, [.int .i64, .int .i64], sp199), (200, 1, [.str, .u8], sp200), (9, 2, [.other], sp9), (35, 2, [.other, .other], sp35), (40, 2, [.int .i64], sp40), (53, 2, [.other, .other], sp53), (63, 2, [.bsl, .sl 1], sp63), (97, 2, [.int .i64, .bool], sp97), (102, 2, [.str], sp102), (103, 2, [.str], sp103), (105, 2, [.bsl, .other], sp105), (107, 2, [.bsl, .int .i64], sp107), (108, 2, [.bsl, .int .i64, .bool], sp108), (115, 2, [.str], sp115), (119, 2, [.sl 1], sp119), (122, 2, [.ptr, .int .i64], sp122), (127, 2, [.int .u64], sp127), (132, 2, [.bsl, .int .i64, .bool], sp132), (135, 2, [.bsl, .int .i64, .int .i64], sp135), (151, 2, [.other], sp151), (163, 2, [.int .i64, .int .i64], sp163), (166, 2, [.int .i64, .int .i64], sp166), (175, 2, [.bsl], sp175), (177, 2, [.bsl, .int .i64, .int .i64, .bool], sp177), (189, 2, [.int .u64], sp189), (193, 2, [.bsl, .int .i64, .int .i64, .bool], sp193), (196, 2, [.str, .u8], sp196), (12, 3, [.int .i64], sp12), (15, 3, [.other, .other], sp15), (37, 3, [.int .i64], sp37), (56, 3, [.other], sp56), (62, 3, [.other], sp62), (70, 3, [.int .i64, .int .u64, .bsl], sp70), (71, 3, [.bsl, .bool], sp71), (101, 3, [.bsl, .str], sp101), (111, 3, [.other, .other], sp111), (112, 3, [.other, .int .i64], sp112), (116, 3, [.other, .int .i64], sp116), (129, 3, [.bsl, .bool], sp129), (133, 3, [.bsl, .sl 1], sp133), (134, 3, [.bsl, .int .i64, .bool], sp134), (139, 3, [.bsl, .int .i64, .bool], sp139), (140, 3, [.bsl, .int .i64], sp140), (152, 3, [.bsl], sp152), (154, 3, [.int .u64], sp154), (160, 3, [.bsl, .int .i64, .int .i64, .bool], sp160), (168, 3, [.bsl, .int .i64], sp168), (172, 3, [.bsl, .int .i64, .bool], sp172), (183, 3, [.bsl], sp183), (184, 3, [.bsl, .int .i64, .bool], sp184), (186, 3, [.str, .u8], sp186), (52, 4, [.other, .other, .int .i64], sp52), (57, 4, [.other, .other, .int .i64], sp57), (68, 4, [.other], sp68), (69, 4, [.other, .bool], sp69), (90, 4, [.other], sp90), (92, 4, [.ptr], sp92), (98, 4, [.bsl, .other], sp98), (99, 4, [.bsl, .int .i64, .bool], sp99), (100, 4, [.bsl, .int .i64], sp100), (120, 4, [.ptr], sp120), (123, 4, [.bsl], sp123), (125, 4, [.ptr], sp125), (142, 4, [.ptr], sp142), (158, 4, [.str, .str], sp158), (165, 4, [.int .i64, .int .u64, .bsl], sp165), (173, 4, [.other], sp173), (180, 4, [.bsl, .int .i64, .bool], sp180), (181, 4, [.bsl], sp181), (23, 5, [.other, .other], sp23), (25, 5, [.other, .bool], sp25), (38, 5, [.other, .int .i64, .int .i64, .bool], sp38), (39, 5, [.bsl, .int .i64], sp39), (66, 5, [.bsl, .int .i64, .int .u64], sp66), (75, 5, [.bsl], sp75), (76, 5, [.bsl, .bool], sp76), (94, 5, [.str], sp94), (95, 5, [.str], sp95), (126, 5, [.other, .bool], sp126), (136, 5, [.bsl, .bool], sp136), (138, 5, [.bsl], sp138), (141, 5, [.other, .bool], sp141), (11, 6, [.other], sp11), (45, 6, [.other], sp45), (72, 6, [.bsl], sp72), (73, 6, [.bsl, .int .i64, .int .u64], sp73), (74, 6, [.bsl, .bool], sp74), (110, 6, [.str], sp110), (117, 6, [.other, .bool, .int .u64], sp117), (28, 7, [.other, .bsl], sp28), (51, 7, [.other], sp51), (58, 7, [.other, .other, .bool, .int .i64, .int .i64, .int .i64], sp58), (61, 7, [.other], sp61), (20, 8, [.other, .other, .bool, .int .i64, .int .i64, .int .i64], sp20), (43, 8, [.other], sp43), (55, 8, [.other], sp55), (88, 8, [.other], sp88), (89, 8, [.other], sp89), (191, 8, [.other], sp191), (34, 9, [.other], sp34), (36, 9, [.other, .int .i64, .int .i64, .bool], sp36), (164, 9, [.other, .bool], sp164), (13, 10, [.other, .int .i64, .int .i64], sp13), (27, 10, [.other, .bsl], sp27), (113, 10, [.other, .bool, .int .u64], sp113), (54, 11, [.other, .other, .bool, .other], sp54), (16, 12, [.other, .other, .int .i64, .int .i64, .int .i64], sp16), (8, 13, [], sp8), (5, 14, [.other, .other, .int .u32, .u8, .u8, .bool, .bsl, .int .u16], sp5)]

def globT : List (Nat × List AV) := []

def look {α : Type} (k : Nat) : List (Nat × α) → Option α
  | [] => none
  | (j, x) :: r => cond (Nat.beq j k) (some x) (look k r)
def look2 {α : Type} (k m : Nat) : List (Nat × Nat × List α) → List α
  | [] => []
  | (j, i, x) :: r => cond (Nat.beq j k) (cond (Nat.beq i m) x (look2 k m r)) (look2 k m r)
def G : Cfg2 := { ty := fun t => (tbl[t]?).join, keep := fun f r => look2 f r keepT, own := fun f => ownT.contains f, glob := fun q => look q globT, rts := fun f => look f rtsT, tab := fun f => look f tabT }
end Go.Proofs.YtojielacjhifeaaGreat
