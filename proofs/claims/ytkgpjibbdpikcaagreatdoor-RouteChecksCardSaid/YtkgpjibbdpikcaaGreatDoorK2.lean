/- No condition. -/
import Derived.Test.YtkgpjibbdpikcaaGreatDoorK1
set_option linter.unusedVariables false
set_option linter.unusedSimpArgs false
set_option maxRecDepth 100000
namespace Groat
open Go Go.Ref
def zft {R : Type} (x_0 : Int) (kr0 : Int → Option R) : Option R :=
  (bif (decide ((4294967296 : Int) ≤ x_0)) then (bif (decide ((65536 : Int) ≤ (Int.fdiv x_0 (2 ^ min ((32 : Int)).toNat 64)))) then (bif (decide ((256 : Int) ≤ (Int.fdiv (Int.fdiv x_0 (2 ^ min ((32 : Int)).toNat 64)) (2 ^ min ((16 : Int)).toNat 64)))) then (zj (IntKind.u8.wrap (Int.fdiv (Int.fdiv (Int.fdiv x_0 (2 ^ min ((32 : Int)).toNat 64)) (2 ^ min ((16 : Int)).toNat 64)) (2 ^ min ((8 : Int)).toNat 64))) ((bs [0, 1, 2, 2, 3, 3, 3, 3, 4, 4, 4, 4, 4, 4, 4, 4, 5, 5, 5, 5, 5, 5, 5, 5, 5, 5, 5, 5, 5, 5, 5, 5, 6, 6, 6, 6, 6, 6, 6, 6, 6, 6, 6, 6, 6, 6, 6, 6, 6, 6, 6, 6, 6, 6, 6, 6, 6, 6, 6, 6, 6, 6, 6, 6, 7, 7, 7, 7, 7, 7, 7, 7, 7, 7, 7, 7, 7, 7, 7, 7, 7, 7, 7, 7, 7, 7, 7, 7, 7, 7, 7, 7, 7, 7, 7, 7, 7, 7, 7, 7, 7, 7, 7, 7, 7, 7, 7, 7, 7, 7, 7, 7, 7, 7, 7, 7, 7, 7, 7, 7, 7, 7, 7, 7, 7, 7, 7, 7, 8, 8, 8, 8, 8, 8, 8, 8, 8, 8, 8, 8, 8, 8, 8, 8, 8, 8, 8, 8, 8, 8, 8, 8, 8, 8, 8, 8, 8, 8, 8, 8, 8, 8, 8, 8, 8, 8, 8, 8, 8, 8, 8, 8, 8, 8, 8, 8, 8, 8, 8, 8, 8, 8, 8, 8, 8, 8, 8, 8, 8, 8, 8, 8, 8, 8, 8, 8, 8, 8, 8, 8, 8, 8, 8, 8, 8, 8, 8, 8, 8, 8, 8, 8, 8, 8, 8, 8, 8, 8, 8, 8, 8, 8, 8, 8, 8, 8, 8, 8, 8, 8, 8, 8, 8, 8, 8, 8, 8, 8, 8, 8, 8, 8, 8, 8, 8, 8, 8, 8, 8, 8, 8, 8, 8, 8, 8, 8])).size (kr0 (IntKind.i64.wrap ((IntKind.i64.wrap ((IntKind.i64.wrap ((32 : Int) + (16 : Int))) + (8 : Int))) + (IntKind.i64.wrap (zn (bs [0, 1, 2, 2, 3, 3, 3, 3, 4, 4, 4, 4, 4, 4, 4, 4, 5, 5, 5, 5, 5, 5, 5, 5, 5, 5, 5, 5, 5, 5, 5, 5, 6, 6, 6, 6, 6, 6, 6, 6, 6, 6, 6, 6, 6, 6, 6, 6, 6, 6, 6, 6, 6, 6, 6, 6, 6, 6, 6, 6, 6, 6, 6, 6, 7, 7, 7, 7, 7, 7, 7, 7, 7, 7, 7, 7, 7, 7, 7, 7, 7, 7, 7, 7, 7, 7, 7, 7, 7, 7, 7, 7, 7, 7, 7, 7, 7, 7, 7, 7, 7, 7, 7, 7, 7, 7, 7, 7, 7, 7, 7, 7, 7, 7, 7, 7, 7, 7, 7, 7, 7, 7, 7, 7, 7, 7, 7, 7, 8, 8, 8, 8, 8, 8, 8, 8, 8, 8, 8, 8, 8, 8, 8, 8, 8, 8, 8, 8, 8, 8, 8, 8, 8, 8, 8, 8, 8, 8, 8, 8, 8, 8, 8, 8, 8, 8, 8, 8, 8, 8, 8, 8, 8, 8, 8, 8, 8, 8, 8, 8, 8, 8, 8, 8, 8, 8, 8, 8, 8, 8, 8, 8, 8, 8, 8, 8, 8, 8, 8, 8, 8, 8, 8, 8, 8, 8, 8, 8, 8, 8, 8, 8, 8, 8, 8, 8, 8, 8, 8, 8, 8, 8, 8, 8, 8, 8, 8, 8, 8, 8, 8, 8, 8, 8, 8, 8, 8, 8, 8, 8, 8, 8, 8, 8, 8, 8, 8, 8, 8, 8, 8, 8, 8, 8, 8, 8]) ((IntKind.u8.wrap (Int.fdiv (Int.fdiv (Int.fdiv x_0 (2 ^ min ((32 : Int)).toNat 64)) (2 ^ min ((16 : Int)).toNat 64)) (2 ^ min ((8 : Int)).toNat 64)))).toNat)))))) else (zj (IntKind.u8.wrap (Int.fdiv (Int.fdiv x_0 (2 ^ min ((32 : Int)).toNat 64)) (2 ^ min ((16 : Int)).toNat 64))) ((bs [0, 1, 2, 2, 3, 3, 3, 3, 4, 4, 4, 4, 4, 4, 4, 4, 5, 5, 5, 5, 5, 5, 5, 5, 5, 5, 5, 5, 5, 5, 5, 5, 6, 6, 6, 6, 6, 6, 6, 6, 6, 6, 6, 6, 6, 6, 6, 6, 6, 6, 6, 6, 6, 6, 6, 6, 6, 6, 6, 6, 6, 6, 6, 6, 7, 7, 7, 7, 7, 7, 7, 7, 7, 7, 7, 7, 7, 7, 7, 7, 7, 7, 7, 7, 7, 7, 7, 7, 7, 7, 7, 7, 7, 7, 7, 7, 7, 7, 7, 7, 7, 7, 7, 7, 7, 7, 7, 7, 7, 7, 7, 7, 7, 7, 7, 7, 7, 7, 7, 7, 7, 7, 7, 7, 7, 7, 7, 7, 8, 8, 8, 8, 8, 8, 8, 8, 8, 8, 8, 8, 8, 8, 8, 8, 8, 8, 8, 8, 8, 8, 8, 8, 8, 8, 8, 8, 8, 8, 8, 8, 8, 8, 8, 8, 8, 8, 8, 8, 8, 8, 8, 8, 8, 8, 8, 8, 8, 8, 8, 8, 8, 8, 8, 8, 8, 8, 8, 8, 8, 8, 8, 8, 8, 8, 8, 8, 8, 8, 8, 8, 8, 8, 8, 8, 8, 8, 8, 8, 8, 8, 8, 8, 8, 8, 8, 8, 8, 8, 8, 8, 8, 8, 8, 8, 8, 8, 8, 8, 8, 8, 8, 8, 8, 8, 8, 8, 8, 8, 8, 8, 8, 8, 8, 8, 8, 8, 8, 8, 8, 8, 8, 8, 8, 8, 8, 8])).size (kr0 (IntKind.i64.wrap ((IntKind.i64.wrap ((32 : Int) + (16 : Int))) + (IntKind.i64.wrap (zn (bs [0, 1, 2, 2, 3, 3, 3, 3, 4, 4, 4, 4, 4, 4, 4, 4, 5, 5, 5, 5, 5, 5, 5, 5, 5, 5, 5, 5, 5, 5, 5, 5, 6, 6, 6, 6, 6, 6, 6, 6, 6, 6, 6, 6, 6, 6, 6, 6, 6, 6, 6, 6, 6, 6, 6, 6, 6, 6, 6, 6, 6, 6, 6, 6, 7, 7, 7, 7, 7, 7, 7, 7, 7, 7, 7, 7, 7, 7, 7, 7, 7, 7, 7, 7, 7, 7, 7, 7, 7, 7, 7, 7, 7, 7, 7, 7, 7, 7, 7, 7, 7, 7, 7, 7, 7, 7, 7, 7, 7, 7, 7, 7, 7, 7, 7, 7, 7, 7, 7, 7, 7, 7, 7, 7, 7, 7, 7, 7, 8, 8, 8, 8, 8, 8, 8, 8, 8, 8, 8, 8, 8, 8, 8, 8, 8, 8, 8, 8, 8, 8, 8, 8, 8, 8, 8, 8, 8, 8, 8, 8, 8, 8, 8, 8, 8, 8, 8, 8, 8, 8, 8, 8, 8, 8, 8, 8, 8, 8, 8, 8, 8, 8, 8, 8, 8, 8, 8, 8, 8, 8, 8, 8, 8, 8, 8, 8, 8, 8, 8, 8, 8, 8, 8, 8, 8, 8, 8, 8, 8, 8, 8, 8, 8, 8, 8, 8, 8, 8, 8, 8, 8, 8, 8, 8, 8, 8, 8, 8, 8, 8, 8, 8, 8, 8, 8, 8, 8, 8, 8, 8, 8, 8, 8, 8, 8, 8, 8, 8, 8, 8, 8, 8, 8, 8, 8, 8]) ((IntKind.u8.wrap (Int.fdiv (Int.fdiv x_0 (2 ^ min ((32 : Int)).toNat 64)) (2 ^ min ((16 : Int)).toNat 64)))).toNat))))))) else (bif (decide ((256 : Int) ≤ (Int.fdiv x_0 (2 ^ min ((32 : Int)).toNat 64)))) then (zj (IntKind.u8.wrap (Int.fdiv (Int.fdiv x_0 (2 ^ min ((32 : Int)).toNat 64)) (2 ^ min ((8 : Int)).toNat 64))) ((bs [0, 1, 2, 2, 3, 3, 3, 3, 4, 4, 4, 4, 4, 4, 4, 4, 5, 5, 5, 5, 5, 5, 5, 5, 5, 5, 5, 5, 5, 5, 5, 5, 6, 6, 6, 6, 6, 6, 6, 6, 6, 6, 6, 6, 6, 6, 6, 6, 6, 6, 6, 6, 6, 6, 6, 6, 6, 6, 6, 6, 6, 6, 6, 6, 7, 7, 7, 7, 7, 7, 7, 7, 7, 7, 7, 7, 7, 7, 7, 7, 7, 7, 7, 7, 7, 7, 7, 7, 7, 7, 7, 7, 7, 7, 7, 7, 7, 7, 7, 7, 7, 7, 7, 7, 7, 7, 7, 7, 7, 7, 7, 7, 7, 7, 7, 7, 7, 7, 7, 7, 7, 7, 7, 7, 7, 7, 7, 7, 8, 8, 8, 8, 8, 8, 8, 8, 8, 8, 8, 8, 8, 8, 8, 8, 8, 8, 8, 8, 8, 8, 8, 8, 8, 8, 8, 8, 8, 8, 8, 8, 8, 8, 8, 8, 8, 8, 8, 8, 8, 8, 8, 8, 8, 8, 8, 8, 8, 8, 8, 8, 8, 8, 8, 8, 8, 8, 8, 8, 8, 8, 8, 8, 8, 8, 8, 8, 8, 8, 8, 8, 8, 8, 8, 8, 8, 8, 8, 8, 8, 8, 8, 8, 8, 8, 8, 8, 8, 8, 8, 8, 8, 8, 8, 8, 8, 8, 8, 8, 8, 8, 8, 8, 8, 8, 8, 8, 8, 8, 8, 8, 8, 8, 8, 8, 8, 8, 8, 8, 8, 8, 8, 8, 8, 8, 8, 8])).size (kr0 (IntKind.i64.wrap ((IntKind.i64.wrap ((32 : Int) + (8 : Int))) + (IntKind.i64.wrap (zn (bs [0, 1, 2, 2, 3, 3, 3, 3, 4, 4, 4, 4, 4, 4, 4, 4, 5, 5, 5, 5, 5, 5, 5, 5, 5, 5, 5, 5, 5, 5, 5, 5, 6, 6, 6, 6, 6, 6, 6, 6, 6, 6, 6, 6, 6, 6, 6, 6, 6, 6, 6, 6, 6, 6, 6, 6, 6, 6, 6, 6, 6, 6, 6, 6, 7, 7, 7, 7, 7, 7, 7, 7, 7, 7, 7, 7, 7, 7, 7, 7, 7, 7, 7, 7, 7, 7, 7, 7, 7, 7, 7, 7, 7, 7, 7, 7, 7, 7, 7, 7, 7, 7, 7, 7, 7, 7, 7, 7, 7, 7, 7, 7, 7, 7, 7, 7, 7, 7, 7, 7, 7, 7, 7, 7, 7, 7, 7, 7, 8, 8, 8, 8, 8, 8, 8, 8, 8, 8, 8, 8, 8, 8, 8, 8, 8, 8, 8, 8, 8, 8, 8, 8, 8, 8, 8, 8, 8, 8, 8, 8, 8, 8, 8, 8, 8, 8, 8, 8, 8, 8, 8, 8, 8, 8, 8, 8, 8, 8, 8, 8, 8, 8, 8, 8, 8, 8, 8, 8, 8, 8, 8, 8, 8, 8, 8, 8, 8, 8, 8, 8, 8, 8, 8, 8, 8, 8, 8, 8, 8, 8, 8, 8, 8, 8, 8, 8, 8, 8, 8, 8, 8, 8, 8, 8, 8, 8, 8, 8, 8, 8, 8, 8, 8, 8, 8, 8, 8, 8, 8, 8, 8, 8, 8, 8, 8, 8, 8, 8, 8, 8, 8, 8, 8, 8, 8, 8]) ((IntKind.u8.wrap (Int.fdiv (Int.fdiv x_0 (2 ^ min ((32 : Int)).toNat 64)) (2 ^ min ((8 : Int)).toNat 64)))).toNat)))))) else (zj (IntKind.u8.wrap (Int.fdiv x_0 (2 ^ min ((32 : Int)).toNat 64))) ((bs [0, 1, 2, 2, 3, 3, 3, 3, 4, 4, 4, 4, 4, 4, 4, 4, 5, 5, 5, 5, 5, 5, 5, 5, 5, 5, 5, 5, 5, 5, 5, 5, 6, 6, 6, 6, 6, 6, 6, 6, 6, 6, 6, 6, 6, 6, 6, 6, 6, 6, 6, 6, 6, 6, 6, 6, 6, 6, 6, 6, 6, 6, 6, 6, 7, 7, 7, 7, 7, 7, 7, 7, 7, 7, 7, 7, 7, 7, 7, 7, 7, 7, 7, 7, 7, 7, 7, 7, 7, 7, 7, 7, 7, 7, 7, 7, 7, 7, 7, 7, 7, 7, 7, 7, 7, 7, 7, 7, 7, 7, 7, 7, 7, 7, 7, 7, 7, 7, 7, 7, 7, 7, 7, 7, 7, 7, 7, 7, 8, 8, 8, 8, 8, 8, 8, 8, 8, 8, 8, 8, 8, 8, 8, 8, 8, 8, 8, 8, 8, 8, 8, 8, 8, 8, 8, 8, 8, 8, 8, 8, 8, 8, 8, 8, 8, 8, 8, 8, 8, 8, 8, 8, 8, 8, 8, 8, 8, 8, 8, 8, 8, 8, 8, 8, 8, 8, 8, 8, 8, 8, 8, 8, 8, 8, 8, 8, 8, 8, 8, 8, 8, 8, 8, 8, 8, 8, 8, 8, 8, 8, 8, 8, 8, 8, 8, 8, 8, 8, 8, 8, 8, 8, 8, 8, 8, 8, 8, 8, 8, 8, 8, 8, 8, 8, 8, 8, 8, 8, 8, 8, 8, 8, 8, 8, 8, 8, 8, 8, 8, 8, 8, 8, 8, 8, 8, 8])).size (kr0 (IntKind.i64.wrap ((32 : Int) + (IntKind.i64.wrap (zn (bs [0, 1, 2, 2, 3, 3, 3, 3, 4, 4, 4, 4, 4, 4, 4, 4, 5, 5, 5, 5, 5, 5, 5, 5, 5, 5, 5, 5, 5, 5, 5, 5, 6, 6, 6, 6, 6, 6, 6, 6, 6, 6, 6, 6, 6, 6, 6, 6, 6, 6, 6, 6, 6, 6, 6, 6, 6, 6, 6, 6, 6, 6, 6, 6, 7, 7, 7, 7, 7, 7, 7, 7, 7, 7, 7, 7, 7, 7, 7, 7, 7, 7, 7, 7, 7, 7, 7, 7, 7, 7, 7, 7, 7, 7, 7, 7, 7, 7, 7, 7, 7, 7, 7, 7, 7, 7, 7, 7, 7, 7, 7, 7, 7, 7, 7, 7, 7, 7, 7, 7, 7, 7, 7, 7, 7, 7, 7, 7, 8, 8, 8, 8, 8, 8, 8, 8, 8, 8, 8, 8, 8, 8, 8, 8, 8, 8, 8, 8, 8, 8, 8, 8, 8, 8, 8, 8, 8, 8, 8, 8, 8, 8, 8, 8, 8, 8, 8, 8, 8, 8, 8, 8, 8, 8, 8, 8, 8, 8, 8, 8, 8, 8, 8, 8, 8, 8, 8, 8, 8, 8, 8, 8, 8, 8, 8, 8, 8, 8, 8, 8, 8, 8, 8, 8, 8, 8, 8, 8, 8, 8, 8, 8, 8, 8, 8, 8, 8, 8, 8, 8, 8, 8, 8, 8, 8, 8, 8, 8, 8, 8, 8, 8, 8, 8, 8, 8, 8, 8, 8, 8, 8, 8, 8, 8, 8, 8, 8, 8, 8, 8, 8, 8, 8, 8, 8, 8]) ((IntKind.u8.wrap (Int.fdiv x_0 (2 ^ min ((32 : Int)).toNat 64)))).toNat)))))))) else (bif (decide ((65536 : Int) ≤ x_0)) then (bif (decide ((256 : Int) ≤ (Int.fdiv x_0 (2 ^ min ((16 : Int)).toNat 64)))) then (zj (IntKind.u8.wrap (Int.fdiv (Int.fdiv x_0 (2 ^ min ((16 : Int)).toNat 64)) (2 ^ min ((8 : Int)).toNat 64))) ((bs [0, 1, 2, 2, 3, 3, 3, 3, 4, 4, 4, 4, 4, 4, 4, 4, 5, 5, 5, 5, 5, 5, 5, 5, 5, 5, 5, 5, 5, 5, 5, 5, 6, 6, 6, 6, 6, 6, 6, 6, 6, 6, 6, 6, 6, 6, 6, 6, 6, 6, 6, 6, 6, 6, 6, 6, 6, 6, 6, 6, 6, 6, 6, 6, 7, 7, 7, 7, 7, 7, 7, 7, 7, 7, 7, 7, 7, 7, 7, 7, 7, 7, 7, 7, 7, 7, 7, 7, 7, 7, 7, 7, 7, 7, 7, 7, 7, 7, 7, 7, 7, 7, 7, 7, 7, 7, 7, 7, 7, 7, 7, 7, 7, 7, 7, 7, 7, 7, 7, 7, 7, 7, 7, 7, 7, 7, 7, 7, 8, 8, 8, 8, 8, 8, 8, 8, 8, 8, 8, 8, 8, 8, 8, 8, 8, 8, 8, 8, 8, 8, 8, 8, 8, 8, 8, 8, 8, 8, 8, 8, 8, 8, 8, 8, 8, 8, 8, 8, 8, 8, 8, 8, 8, 8, 8, 8, 8, 8, 8, 8, 8, 8, 8, 8, 8, 8, 8, 8, 8, 8, 8, 8, 8, 8, 8, 8, 8, 8, 8, 8, 8, 8, 8, 8, 8, 8, 8, 8, 8, 8, 8, 8, 8, 8, 8, 8, 8, 8, 8, 8, 8, 8, 8, 8, 8, 8, 8, 8, 8, 8, 8, 8, 8, 8, 8, 8, 8, 8, 8, 8, 8, 8, 8, 8, 8, 8, 8, 8, 8, 8, 8, 8, 8, 8, 8, 8])).size (kr0 (IntKind.i64.wrap ((IntKind.i64.wrap ((IntKind.i64.wrap ((0 : Int) + (16 : Int))) + (8 : Int))) + (IntKind.i64.wrap (zn (bs [0, 1, 2, 2, 3, 3, 3, 3, 4, 4, 4, 4, 4, 4, 4, 4, 5, 5, 5, 5, 5, 5, 5, 5, 5, 5, 5, 5, 5, 5, 5, 5, 6, 6, 6, 6, 6, 6, 6, 6, 6, 6, 6, 6, 6, 6, 6, 6, 6, 6, 6, 6, 6, 6, 6, 6, 6, 6, 6, 6, 6, 6, 6, 6, 7, 7, 7, 7, 7, 7, 7, 7, 7, 7, 7, 7, 7, 7, 7, 7, 7, 7, 7, 7, 7, 7, 7, 7, 7, 7, 7, 7, 7, 7, 7, 7, 7, 7, 7, 7, 7, 7, 7, 7, 7, 7, 7, 7, 7, 7, 7, 7, 7, 7, 7, 7, 7, 7, 7, 7, 7, 7, 7, 7, 7, 7, 7, 7, 8, 8, 8, 8, 8, 8, 8, 8, 8, 8, 8, 8, 8, 8, 8, 8, 8, 8, 8, 8, 8, 8, 8, 8, 8, 8, 8, 8, 8, 8, 8, 8, 8, 8, 8, 8, 8, 8, 8, 8, 8, 8, 8, 8, 8, 8, 8, 8, 8, 8, 8, 8, 8, 8, 8, 8, 8, 8, 8, 8, 8, 8, 8, 8, 8, 8, 8, 8, 8, 8, 8, 8, 8, 8, 8, 8, 8, 8, 8, 8, 8, 8, 8, 8, 8, 8, 8, 8, 8, 8, 8, 8, 8, 8, 8, 8, 8, 8, 8, 8, 8, 8, 8, 8, 8, 8, 8, 8, 8, 8, 8, 8, 8, 8, 8, 8, 8, 8, 8, 8, 8, 8, 8, 8, 8, 8, 8, 8]) ((IntKind.u8.wrap (Int.fdiv (Int.fdiv x_0 (2 ^ min ((16 : Int)).toNat 64)) (2 ^ min ((8 : Int)).toNat 64)))).toNat)))))) else (zj (IntKind.u8.wrap (Int.fdiv x_0 (2 ^ min ((16 : Int)).toNat 64))) ((bs [0, 1, 2, 2, 3, 3, 3, 3, 4, 4, 4, 4, 4, 4, 4, 4, 5, 5, 5, 5, 5, 5, 5, 5, 5, 5, 5, 5, 5, 5, 5, 5, 6, 6, 6, 6, 6, 6, 6, 6, 6, 6, 6, 6, 6, 6, 6, 6, 6, 6, 6, 6, 6, 6, 6, 6, 6, 6, 6, 6, 6, 6, 6, 6, 7, 7, 7, 7, 7, 7, 7, 7, 7, 7, 7, 7, 7, 7, 7, 7, 7, 7, 7, 7, 7, 7, 7, 7, 7, 7, 7, 7, 7, 7, 7, 7, 7, 7, 7, 7, 7, 7, 7, 7, 7, 7, 7, 7, 7, 7, 7, 7, 7, 7, 7, 7, 7, 7, 7, 7, 7, 7, 7, 7, 7, 7, 7, 7, 8, 8, 8, 8, 8, 8, 8, 8, 8, 8, 8, 8, 8, 8, 8, 8, 8, 8, 8, 8, 8, 8, 8, 8, 8, 8, 8, 8, 8, 8, 8, 8, 8, 8, 8, 8, 8, 8, 8, 8, 8, 8, 8, 8, 8, 8, 8, 8, 8, 8, 8, 8, 8, 8, 8, 8, 8, 8, 8, 8, 8, 8, 8, 8, 8, 8, 8, 8, 8, 8, 8, 8, 8, 8, 8, 8, 8, 8, 8, 8, 8, 8, 8, 8, 8, 8, 8, 8, 8, 8, 8, 8, 8, 8, 8, 8, 8, 8, 8, 8, 8, 8, 8, 8, 8, 8, 8, 8, 8, 8, 8, 8, 8, 8, 8, 8, 8, 8, 8, 8, 8, 8, 8, 8, 8, 8, 8, 8])).size (kr0 (IntKind.i64.wrap ((IntKind.i64.wrap ((0 : Int) + (16 : Int))) + (IntKind.i64.wrap (zn (bs [0, 1, 2, 2, 3, 3, 3, 3, 4, 4, 4, 4, 4, 4, 4, 4, 5, 5, 5, 5, 5, 5, 5, 5, 5, 5, 5, 5, 5, 5, 5, 5, 6, 6, 6, 6, 6, 6, 6, 6, 6, 6, 6, 6, 6, 6, 6, 6, 6, 6, 6, 6, 6, 6, 6, 6, 6, 6, 6, 6, 6, 6, 6, 6, 7, 7, 7, 7, 7, 7, 7, 7, 7, 7, 7, 7, 7, 7, 7, 7, 7, 7, 7, 7, 7, 7, 7, 7, 7, 7, 7, 7, 7, 7, 7, 7, 7, 7, 7, 7, 7, 7, 7, 7, 7, 7, 7, 7, 7, 7, 7, 7, 7, 7, 7, 7, 7, 7, 7, 7, 7, 7, 7, 7, 7, 7, 7, 7, 8, 8, 8, 8, 8, 8, 8, 8, 8, 8, 8, 8, 8, 8, 8, 8, 8, 8, 8, 8, 8, 8, 8, 8, 8, 8, 8, 8, 8, 8, 8, 8, 8, 8, 8, 8, 8, 8, 8, 8, 8, 8, 8, 8, 8, 8, 8, 8, 8, 8, 8, 8, 8, 8, 8, 8, 8, 8, 8, 8, 8, 8, 8, 8, 8, 8, 8, 8, 8, 8, 8, 8, 8, 8, 8, 8, 8, 8, 8, 8, 8, 8, 8, 8, 8, 8, 8, 8, 8, 8, 8, 8, 8, 8, 8, 8, 8, 8, 8, 8, 8, 8, 8, 8, 8, 8, 8, 8, 8, 8, 8, 8, 8, 8, 8, 8, 8, 8, 8, 8, 8, 8, 8, 8, 8, 8, 8, 8]) ((IntKind.u8.wrap (Int.fdiv x_0 (2 ^ min ((16 : Int)).toNat 64)))).toNat))))))) else (bif (decide ((256 : Int) ≤ x_0)) then (zj (IntKind.u8.wrap (Int.fdiv x_0 (2 ^ min ((8 : Int)).toNat 64))) ((bs [0, 1, 2, 2, 3, 3, 3, 3, 4, 4, 4, 4, 4, 4, 4, 4, 5, 5, 5, 5, 5, 5, 5, 5, 5, 5, 5, 5, 5, 5, 5, 5, 6, 6, 6, 6, 6, 6, 6, 6, 6, 6, 6, 6, 6, 6, 6, 6, 6, 6, 6, 6, 6, 6, 6, 6, 6, 6, 6, 6, 6, 6, 6, 6, 7, 7, 7, 7, 7, 7, 7, 7, 7, 7, 7, 7, 7, 7, 7, 7, 7, 7, 7, 7, 7, 7, 7, 7, 7, 7, 7, 7, 7, 7, 7, 7, 7, 7, 7, 7, 7, 7, 7, 7, 7, 7, 7, 7, 7, 7, 7, 7, 7, 7, 7, 7, 7, 7, 7, 7, 7, 7, 7, 7, 7, 7, 7, 7, 8, 8, 8, 8, 8, 8, 8, 8, 8, 8, 8, 8, 8, 8, 8, 8, 8, 8, 8, 8, 8, 8, 8, 8, 8, 8, 8, 8, 8, 8, 8, 8, 8, 8, 8, 8, 8, 8, 8, 8, 8, 8, 8, 8, 8, 8, 8, 8, 8, 8, 8, 8, 8, 8, 8, 8, 8, 8, 8, 8, 8, 8, 8, 8, 8, 8, 8, 8, 8, 8, 8, 8, 8, 8, 8, 8, 8, 8, 8, 8, 8, 8, 8, 8, 8, 8, 8, 8, 8, 8, 8, 8, 8, 8, 8, 8, 8, 8, 8, 8, 8, 8, 8, 8, 8, 8, 8, 8, 8, 8, 8, 8, 8, 8, 8, 8, 8, 8, 8, 8, 8, 8, 8, 8, 8, 8, 8, 8])).size (kr0 (IntKind.i64.wrap ((IntKind.i64.wrap ((0 : Int) + (8 : Int))) + (IntKind.i64.wrap (zn (bs [0, 1, 2, 2, 3, 3, 3, 3, 4, 4, 4, 4, 4, 4, 4, 4, 5, 5, 5, 5, 5, 5, 5, 5, 5, 5, 5, 5, 5, 5, 5, 5, 6, 6, 6, 6, 6, 6, 6, 6, 6, 6, 6, 6, 6, 6, 6, 6, 6, 6, 6, 6, 6, 6, 6, 6, 6, 6, 6, 6, 6, 6, 6, 6, 7, 7, 7, 7, 7, 7, 7, 7, 7, 7, 7, 7, 7, 7, 7, 7, 7, 7, 7, 7, 7, 7, 7, 7, 7, 7, 7, 7, 7, 7, 7, 7, 7, 7, 7, 7, 7, 7, 7, 7, 7, 7, 7, 7, 7, 7, 7, 7, 7, 7, 7, 7, 7, 7, 7, 7, 7, 7, 7, 7, 7, 7, 7, 7, 8, 8, 8, 8, 8, 8, 8, 8, 8, 8, 8, 8, 8, 8, 8, 8, 8, 8, 8, 8, 8, 8, 8, 8, 8, 8, 8, 8, 8, 8, 8, 8, 8, 8, 8, 8, 8, 8, 8, 8, 8, 8, 8, 8, 8, 8, 8, 8, 8, 8, 8, 8, 8, 8, 8, 8, 8, 8, 8, 8, 8, 8, 8, 8, 8, 8, 8, 8, 8, 8, 8, 8, 8, 8, 8, 8, 8, 8, 8, 8, 8, 8, 8, 8, 8, 8, 8, 8, 8, 8, 8, 8, 8, 8, 8, 8, 8, 8, 8, 8, 8, 8, 8, 8, 8, 8, 8, 8, 8, 8, 8, 8, 8, 8, 8, 8, 8, 8, 8, 8, 8, 8, 8, 8, 8, 8, 8, 8]) ((IntKind.u8.wrap (Int.fdiv x_0 (2 ^ min ((8 : Int)).toNat 64)))).toNat)))))) else (zj (IntKind.u8.wrap x_0) ((bs [0, 1, 2, 2, 3, 3, 3, 3, 4, 4, 4, 4, 4, 4, 4, 4, 5, 5, 5, 5, 5, 5, 5, 5, 5, 5, 5, 5, 5, 5, 5, 5, 6, 6, 6, 6, 6, 6, 6, 6, 6, 6, 6, 6, 6, 6, 6, 6, 6, 6, 6, 6, 6, 6, 6, 6, 6, 6, 6, 6, 6, 6, 6, 6, 7, 7, 7, 7, 7, 7, 7, 7, 7, 7, 7, 7, 7, 7, 7, 7, 7, 7, 7, 7, 7, 7, 7, 7, 7, 7, 7, 7, 7, 7, 7, 7, 7, 7, 7, 7, 7, 7, 7, 7, 7, 7, 7, 7, 7, 7, 7, 7, 7, 7, 7, 7, 7, 7, 7, 7, 7, 7, 7, 7, 7, 7, 7, 7, 8, 8, 8, 8, 8, 8, 8, 8, 8, 8, 8, 8, 8, 8, 8, 8, 8, 8, 8, 8, 8, 8, 8, 8, 8, 8, 8, 8, 8, 8, 8, 8, 8, 8, 8, 8, 8, 8, 8, 8, 8, 8, 8, 8, 8, 8, 8, 8, 8, 8, 8, 8, 8, 8, 8, 8, 8, 8, 8, 8, 8, 8, 8, 8, 8, 8, 8, 8, 8, 8, 8, 8, 8, 8, 8, 8, 8, 8, 8, 8, 8, 8, 8, 8, 8, 8, 8, 8, 8, 8, 8, 8, 8, 8, 8, 8, 8, 8, 8, 8, 8, 8, 8, 8, 8, 8, 8, 8, 8, 8, 8, 8, 8, 8, 8, 8, 8, 8, 8, 8, 8, 8, 8, 8, 8, 8, 8, 8])).size (kr0 (IntKind.i64.wrap ((0 : Int) + (IntKind.i64.wrap (zn (bs [0, 1, 2, 2, 3, 3, 3, 3, 4, 4, 4, 4, 4, 4, 4, 4, 5, 5, 5, 5, 5, 5, 5, 5, 5, 5, 5, 5, 5, 5, 5, 5, 6, 6, 6, 6, 6, 6, 6, 6, 6, 6, 6, 6, 6, 6, 6, 6, 6, 6, 6, 6, 6, 6, 6, 6, 6, 6, 6, 6, 6, 6, 6, 6, 7, 7, 7, 7, 7, 7, 7, 7, 7, 7, 7, 7, 7, 7, 7, 7, 7, 7, 7, 7, 7, 7, 7, 7, 7, 7, 7, 7, 7, 7, 7, 7, 7, 7, 7, 7, 7, 7, 7, 7, 7, 7, 7, 7, 7, 7, 7, 7, 7, 7, 7, 7, 7, 7, 7, 7, 7, 7, 7, 7, 7, 7, 7, 7, 8, 8, 8, 8, 8, 8, 8, 8, 8, 8, 8, 8, 8, 8, 8, 8, 8, 8, 8, 8, 8, 8, 8, 8, 8, 8, 8, 8, 8, 8, 8, 8, 8, 8, 8, 8, 8, 8, 8, 8, 8, 8, 8, 8, 8, 8, 8, 8, 8, 8, 8, 8, 8, 8, 8, 8, 8, 8, 8, 8, 8, 8, 8, 8, 8, 8, 8, 8, 8, 8, 8, 8, 8, 8, 8, 8, 8, 8, 8, 8, 8, 8, 8, 8, 8, 8, 8, 8, 8, 8, 8, 8, 8, 8, 8, 8, 8, 8, 8, 8, 8, 8, 8, 8, 8, 8, 8, 8, 8, 8, 8, 8, 8, 8, 8, 8, 8, 8, 8, 8, 8, 8, 8, 8, 8, 8, 8, 8]) ((IntKind.u8.wrap x_0)).toNat)))))))))
theorem z188 {R S : Type} (F : R → Option S) (x_0) (kr0) : (zft x_0 kr0).bind F = zft x_0 (fun a0 => (kr0 a0).bind F) := by
  simp only [zft, z8, z6, zd, z7, ze, zc]
def Q211 (x_0 : Int) : Option Int :=
  zft x_0 (fun a0 => some a0)
def zgv {R : Type} (x_0 : Int) (kr0 : Int → Option R) : Option R :=
  ((Q211 x_0).bind fun r1 => (kr0 (IntKind.i64.wrap ((64 : Int) - r1))))
theorem z1cx {R S : Type} (F : R → Option S) (x_0) (kr0) : (zgv x_0 kr0).bind F = zgv x_0 (fun a0 => (kr0 a0).bind F) := by
  simp only [zgv, z8, z6, zd, z7, ze, zc]
def Q210 (x_0 : Int) : Option Int :=
  zgv x_0 (fun a0 => some a0)
end Groat
namespace Groat
open Go Go.Ref
def zfi {R : Type} (n_0 : Int) (kr0 : Zt5 → Option R) : Option R :=
  (bif (decide (n_0 < (1 : Int))) then (kr0 ((0 : Int), (0 : Int), ())) else (bif (decide ((128 : Int) < n_0)) then (kr0 ((0 : Int), (0 : Int), ())) else (bif (decide (n_0 ≤ (64 : Int))) then (bif (decide ((IntKind.i64.wrap ((64 : Int) - n_0)) < (0 : Int))) then none else (kr0 ((IntKind.u64.wrap ((1 : Int) * 2 ^ min ((IntKind.i64.wrap ((64 : Int) - n_0))).toNat 64)), (0 : Int), ()))) else (bif (decide ((IntKind.i64.wrap ((128 : Int) - n_0)) < (0 : Int))) then none else (kr0 ((0 : Int), (IntKind.u64.wrap ((1 : Int) * 2 ^ min ((IntKind.i64.wrap ((128 : Int) - n_0))).toNat 64)), ()))))))
theorem z1dz {R S : Type} (F : R → Option S) (n_0) (kr0) : (zfi n_0 kr0).bind F = zfi n_0 (fun a0 => (kr0 a0).bind F) := by
  simp only [zfi, z8, z6, zd, z7, ze, zc]
def Q42 (n_0 : Int) : Option Zt5 :=
  zfi n_0 (fun a0 => some a0)
def zh2 {R : Type} (s_0 : Zt5) (t_1 : Zt5) (kr0 : Zt5 → Option R) : Option R :=
  (kr0 ((ibits .or .u64 s_0.1 t_1.1), (ibits .or .u64 s_0.2.1 t_1.2.1), ()))
theorem z1ea {R S : Type} (F : R → Option S) (s_0) (t_1) (kr0) : (zh2 s_0 t_1 kr0).bind F = zh2 s_0 t_1 (fun a0 => (kr0 a0).bind F) := by
  simp only [zh2, z8, z6, zd, z7, ze, zc]
def Q35 (s_0 : Zt5) (t_1 : Zt5) : Option Zt5 :=
  zh2 s_0 t_1 (fun a0 => some a0)
def zf6 {R : Type} (s_0 : Zt5) (n_1 : Int) (kr0 : Zt5 → Option R) : Option R :=
  ((Q42 n_1).bind fun r1 => ((Q35 s_0 r1).bind fun r2 => (kr0 r2)))
theorem z1dv {R S : Type} (F : R → Option S) (s_0) (n_1) (kr0) : (zf6 s_0 n_1 kr0).bind F = zf6 s_0 n_1 (fun a0 => (kr0 a0).bind F) := by
  simp only [zf6, z8, z6, zd, z7, ze, zc]
def Q40 (s_0 : Zt5) (n_1 : Int) : Option Zt5 :=
  zf6 s_0 n_1 (fun a0 => some a0)
def zf8 {R : Type} (n_0 : (List Int)) (go0 : (List Int) → Int → Int → Zt5 → Zt5 → Option R) : Option R :=
  (go0 n_0 ((List.length n_0) : Int) (0 : Int) ((0 : Int), (0 : Int), ()) ((0 : Int), (0 : Int), ()))
theorem zx0 {R S : Type} (F : R → Option S) (n_0) (go0) : (zf8 n_0 go0).bind F = zf8 n_0 (fun a0 a1 a2 a3 a4 => (go0 a0 a1 a2 a3 a4).bind F) := by
  simp only [zf8, z8, z6, zd, z7, ze, zc]
def zcx {R : Type} (t6 : (List Int)) (t7 : Int) (t8 : Int) (bt2 : Zt5) (bt3 : Zt5) (nx0 : (List Int) → Int → Int → Zt5 → Zt5 → Option R) (ex0_0 : Zt5 → Zt5 → Option R) : Option R :=
  (bif (decide (t8 < t7)) then (zj t8 (List.length t6) ((Q40 bt3 (List.getD t6 (t8).toNat (0 : Int))).bind fun r1 => (nx0 t6 t7 (IntKind.i64.wrap (t8 + (1 : Int))) bt2 r1))) else (ex0_0 bt2 bt3))
theorem zwy {R S : Type} (F : R → Option S) (t6) (t7) (t8) (bt2) (bt3) (nx0) (ex0_0) : (zcx t6 t7 t8 bt2 bt3 nx0 ex0_0).bind F = zcx t6 t7 t8 bt2 bt3 (fun a0 a1 a2 a3 a4 => (nx0 a0 a1 a2 a3 a4).bind F) (fun a0 a1 => (ex0_0 a0 a1).bind F) := by
  simp only [zcx, z8, z6, zd, z7, ze, zc]
def zie {R : Type} (bt2 : Zt5) (bt3 : Zt5) (kr0 : Zt5 → Option R) : Option R :=
  (kr0 bt3)
theorem zxj {R S : Type} (F : R → Option S) (bt2) (bt3) (kr0) : (zie bt2 bt3 kr0).bind F = zie bt2 bt3 (fun a0 => (kr0 a0).bind F) := by
  simp only [zie, z8, z6, zd, z7, ze, zc]
def z96 : Nat → (List Int) → Int → Int → Zt5 → Zt5 → Option (Zt5 × Zt5)
  | 0, _, _, _, _, _ => none
  | k + 1, v0, v1, v2, v3, v4 => zcx v0 v1 v2 v3 v4 (fun a0 a1 a2 a3 a4 => z96 k a0 a1 a2 a3 a4) (fun a0 a1 => some (a0, a1))
def Q33 (n_0 : (List Int)) : Option Zt5 :=
  zf8 n_0 (fun a0 a1 a2 a3 a4 => (z96 FUEL a0 a1 a2 a3 a4).bind fun e => zie e.1 e.2 (fun a0 => some a0))
def zq9 {R : Type} (s_0 : Zt5) (kr0 : Int → Int → Option R) : Option R :=
  (kr0 s_0.1 s_0.2.1)
theorem z1dq {R S : Type} (F : R → Option S) (s_0) (kr0) : (zq9 s_0 kr0).bind F = zq9 s_0 (fun a0 a1 => (kr0 a0 a1).bind F) := by
  simp only [zq9, z8, z6, zd, z7, ze, zc]
def Q36 (s_0 : Zt5) : Option (Int × Int) :=
  zq9 s_0 (fun a0 a1 => some (a0, a1))
def zpw {R : Type} (s_0 : Zt5) (n_1 : Int) (kr0 : Int → Option R) : Option R :=
  (bif (decide ((if n_1 < (0 : Int) then (0 : Int) else n_1) < (64 : Int))) then (bif (decide ((if n_1 < (0 : Int) then (0 : Int) else n_1) < (0 : Int))) then none else (bif (!(decide ((IntKind.u64.wrap (s_0.1 * 2 ^ min ((if n_1 < (0 : Int) then (0 : Int) else n_1)).toNat 64)) = (0 : Int)))) then ((Q210 (IntKind.u64.wrap (s_0.1 * 2 ^ min ((if n_1 < (0 : Int) then (0 : Int) else n_1)).toNat 64))).bind fun r1 => (kr0 (IntKind.i64.wrap ((IntKind.i64.wrap ((if n_1 < (0 : Int) then (0 : Int) else n_1) + r1)) + (1 : Int))))) else (bif (decide ((if (64 : Int) < (IntKind.i64.wrap ((64 : Int) - (64 : Int))) then (64 : Int) else (IntKind.i64.wrap ((64 : Int) - (64 : Int)))) < (0 : Int))) then none else (bif (!(decide ((IntKind.u64.wrap (s_0.2.1 * 2 ^ min ((if (64 : Int) < (IntKind.i64.wrap ((64 : Int) - (64 : Int))) then (64 : Int) else (IntKind.i64.wrap ((64 : Int) - (64 : Int))))).toNat 64)) = (0 : Int)))) then ((Q210 (IntKind.u64.wrap (s_0.2.1 * 2 ^ min ((if (64 : Int) < (IntKind.i64.wrap ((64 : Int) - (64 : Int))) then (64 : Int) else (IntKind.i64.wrap ((64 : Int) - (64 : Int))))).toNat 64))).bind fun r2 => (kr0 (IntKind.i64.wrap ((IntKind.i64.wrap ((64 : Int) + r2)) + (1 : Int))))) else (kr0 (0 : Int)))))) else (bif (decide ((if (64 : Int) < (IntKind.i64.wrap ((if n_1 < (0 : Int) then (0 : Int) else n_1) - (64 : Int))) then (64 : Int) else (IntKind.i64.wrap ((if n_1 < (0 : Int) then (0 : Int) else n_1) - (64 : Int)))) < (0 : Int))) then none else (bif (!(decide ((IntKind.u64.wrap (s_0.2.1 * 2 ^ min ((if (64 : Int) < (IntKind.i64.wrap ((if n_1 < (0 : Int) then (0 : Int) else n_1) - (64 : Int))) then (64 : Int) else (IntKind.i64.wrap ((if n_1 < (0 : Int) then (0 : Int) else n_1) - (64 : Int))))).toNat 64)) = (0 : Int)))) then ((Q210 (IntKind.u64.wrap (s_0.2.1 * 2 ^ min ((if (64 : Int) < (IntKind.i64.wrap ((if n_1 < (0 : Int) then (0 : Int) else n_1) - (64 : Int))) then (64 : Int) else (IntKind.i64.wrap ((if n_1 < (0 : Int) then (0 : Int) else n_1) - (64 : Int))))).toNat 64))).bind fun r3 => (kr0 (IntKind.i64.wrap ((IntKind.i64.wrap ((if n_1 < (0 : Int) then (0 : Int) else n_1) + r3)) + (1 : Int))))) else (kr0 (0 : Int)))))
theorem z1ed {R S : Type} (F : R → Option S) (s_0) (n_1) (kr0) : (zpw s_0 n_1 kr0).bind F = zpw s_0 n_1 (fun a0 => (kr0 a0).bind F) := by
  simp only [zpw, z8, z6, zd, z7, ze, zc]
def Q39 (s_0 : Zt5) (n_1 : Int) : Option Int :=
  zpw s_0 n_1 (fun a0 => some a0)
def zjg {R : Type} (s_0 : Zt5) (t_1 : Zt5) (kr0 : Zt5 → Option R) : Option R :=
  (kr0 ((ibits .and .u64 s_0.1 t_1.1), (ibits .and .u64 s_0.2.1 t_1.2.1), ()))
theorem z1dw {R S : Type} (F : R → Option S) (s_0) (t_1) (kr0) : (zjg s_0 t_1 kr0).bind F = zjg s_0 t_1 (fun a0 => (kr0 a0).bind F) := by
  simp only [zjg, z8, z6, zd, z7, ze, zc]
def Q34 (s_0 : Zt5) (t_1 : Zt5) : Option Zt5 :=
  zjg s_0 t_1 (fun a0 => some a0)
def zm1 {R : Type} (s_0 : Zt5) (n_1 : Int) (kr0 : Bool → Option R) : Option R :=
  ((Q42 n_1).bind fun r1 => ((Q34 s_0 r1).bind fun r2 => (kr0 (!((decide (r2.1 = (0 : Int))) && ((decide (r2.2.1 = (0 : Int))) && true))))))
theorem z1eb {R S : Type} (F : R → Option S) (s_0) (n_1) (kr0) : (zm1 s_0 n_1 kr0).bind F = zm1 s_0 n_1 (fun a0 => (kr0 a0).bind F) := by
  simp only [zm1, z8, z6, zd, z7, ze, zc]
def Q37 (s_0 : Zt5) (n_1 : Int) : Option Bool :=
  zm1 s_0 n_1 (fun a0 => some a0)
def ztl {R : Type} (high_0 : Int) (low_1 : Int) (kr0 : Zt5 → Option R) : Option R :=
  (kr0 (high_0, low_1, ()))
theorem z1e4 {R S : Type} (F : R → Option S) (high_0) (low_1) (kr0) : (ztl high_0 low_1 kr0).bind F = ztl high_0 low_1 (fun a0 => (kr0 a0).bind F) := by
  simp only [ztl, z8, z6, zd, z7, ze, zc]
def Q32 (high_0 : Int) (low_1 : Int) : Option Zt5 :=
  ztl high_0 low_1 (fun a0 => some a0)
end Groat
namespace Groat
open Go Go.Ref
def zed {R : Type} (b_0 : Int) (kr0 : Int → Bool → Option R) : Option R :=
  (bif (decide ((48 : Int) ≤ b_0)) then (bif (decide (b_0 ≤ (57 : Int))) then (kr0 (IntKind.i64.wrap (IntKind.u8.wrap (b_0 - (48 : Int)))) true) else (bif (decide ((65 : Int) ≤ b_0)) then (bif (decide (b_0 ≤ (70 : Int))) then (kr0 (IntKind.i64.wrap ((IntKind.i64.wrap (IntKind.u8.wrap (b_0 - (65 : Int)))) + (10 : Int))) true) else (kr0 (0 : Int) false)) else (kr0 (0 : Int) false))) else (bif (decide ((65 : Int) ≤ b_0)) then (bif (decide (b_0 ≤ (70 : Int))) then (kr0 (IntKind.i64.wrap ((IntKind.i64.wrap (IntKind.u8.wrap (b_0 - (65 : Int)))) + (10 : Int))) true) else (kr0 (0 : Int) false)) else (kr0 (0 : Int) false)))
theorem z1cl {R S : Type} (F : R → Option S) (b_0) (kr0) : (zed b_0 kr0).bind F = zed b_0 (fun a0 a1 => (kr0 a0 a1).bind F) := by
  simp only [zed, z8, z6, zd, z7, ze, zc]
def Q202 (b_0 : Int) : Option (Int × Bool) :=
  zed b_0 (fun a0 a1 => some (a0, a1))
def zje {R : Type} (s_0 : ByteArray) (go0 : ByteArray → (List Int) → Int → Int → Option R) : Option R :=
  (bif (decide ((0 : Int) ≤ (IntKind.i64.wrap (Int.tdiv ((s_0).size : Int) (2 : Int))))) then (bif (decide ((IntKind.i64.wrap (Int.tdiv ((s_0).size : Int) (2 : Int))) * 1 ≤ 140737488355328)) then (go0 s_0 ([] : List Int) (0 : Int) (0 : Int)) else none) else none)
theorem zrx {R S : Type} (F : R → Option S) (s_0) (go0) : (zje s_0 go0).bind F = zje s_0 (fun a0 a1 a2 a3 => (go0 a0 a1 a2 a3).bind F) := by
  simp only [zje, z8, z6, zd, z7, ze, zc]
def zf5 {R : Type} (s_0 : ByteArray) (t5 : (List Int)) (t6 : Int) (t7 : Int) (ex0_0 : ByteArray → ByteArray → Int → Bool → (List Int) → Option R) (nx0 : ByteArray → (List Int) → Int → Int → Option R) (ex0_1 : ByteArray → (List Int) → Option R) : Option R :=
  (bif (decide (t7 < ((s_0).size : Int))) then (zj t7 (s_0).size ((Q202 (zn s_0 (t7).toNat)).bind fun r1 => (bif (!r1.2) then (ex0_0 s_0 (bs []) t7 false t5) else (bif (decide ((Int.tmod t7 (2 : Int)) = (0 : Int))) then (nx0 s_0 t5 r1.1 (IntKind.i64.wrap (t7 + (1 : Int)))) else (bif (decide (((List.length t5) + (List.length ([(IntKind.u8.wrap (ibits .or .i64 (IntKind.i64.wrap (t6 * 2 ^ min ((4 : Int)).toNat 64)) r1.1))] : List Int))) * 1 ≤ 140737488355328)) then (nx0 s_0 (t5 ++ ([(IntKind.u8.wrap (ibits .or .i64 (IntKind.i64.wrap (t6 * 2 ^ min ((4 : Int)).toNat 64)) r1.1))] : List Int)) t6 (IntKind.i64.wrap (t7 + (1 : Int)))) else none))))) else (ex0_1 s_0 t5))
theorem zl9 {R S : Type} (F : R → Option S) (s_0) (t5) (t6) (t7) (ex0_0) (nx0) (ex0_1) : (zf5 s_0 t5 t6 t7 ex0_0 nx0 ex0_1).bind F = zf5 s_0 t5 t6 t7 (fun a0 a1 a2 a3 a4 => (ex0_0 a0 a1 a2 a3 a4).bind F) (fun a0 a1 a2 a3 => (nx0 a0 a1 a2 a3).bind F) (fun a0 a1 => (ex0_1 a0 a1).bind F) := by
  simp only [zf5, z8, z6, zd, z7, ze, zc]
def zgd {R : Type} (s_0 : ByteArray) (t2 : ByteArray) (t3 : Int) (t4 : Bool) (t5 : (List Int)) (kr0 : ByteArray → Int → Bool → Option R) : Option R :=
  (kr0 t2 t3 t4)
theorem zqe {R S : Type} (F : R → Option S) (s_0) (t2) (t3) (t4) (t5) (kr0) : (zgd s_0 t2 t3 t4 t5 kr0).bind F = zgd s_0 t2 t3 t4 t5 (fun a0 a1 a2 => (kr0 a0 a1 a2).bind F) := by
  simp only [zgd, z8, z6, zd, z7, ze, zc]
def zhp {R : Type} (s_0 : ByteArray) (t5 : (List Int)) (kr0 : ByteArray → Int → Bool → Option R) : Option R :=
  (bif (!(decide ((Int.tmod ((s_0).size : Int) (2 : Int)) = (0 : Int)))) then (kr0 (bs []) ((s_0).size : Int) false) else (kr0 (strOf t5) (0 : Int) true))
theorem zmv {R S : Type} (F : R → Option S) (s_0) (t5) (kr0) : (zhp s_0 t5 kr0).bind F = zhp s_0 t5 (fun a0 a1 a2 => (kr0 a0 a1 a2).bind F) := by
  simp only [zhp, z8, z6, zd, z7, ze, zc]
def zwa : Nat → ByteArray → (List Int) → Int → Int → Option (Sum (ByteArray × ByteArray × Int × Bool × (List Int)) (ByteArray × (List Int)))
  | 0, _, _, _, _ => none
  | k + 1, v0, v1, v2, v3 => zf5 v0 v1 v2 v3 (fun a0 a1 a2 a3 a4 => some (.inl (a0, a1, a2, a3, a4))) (fun a0 a1 a2 a3 => zwa k a0 a1 a2 a3) (fun a0 a1 => some (.inr (a0, a1)))
def Q203 (s_0 : ByteArray) : Option (ByteArray × Int × Bool) :=
  zje s_0 (fun a0 a1 a2 a3 => (zwa FUEL a0 a1 a2 a3).bind fun e => (Sum.elim (fun (we : (ByteArray × ByteArray × Int × Bool × (List Int))) => zgd we.1 we.2.1 we.2.2.1 we.2.2.2.1 we.2.2.2.2 (fun a0 a1 a2 => some (a0, a1, a2))) (fun (we : (ByteArray × (List Int))) => zhp we.1 we.2 (fun a0 a1 a2 => some (a0, a1, a2))) e))
def zgs {R : Type} (s_0 : ByteArray) (go0 : ByteArray → (List Int) → Int → Option R) : Option R :=
  (bif (decide ((0 : Int) ≤ (IntKind.i64.wrap ((2 : Int) * ((s_0).size : Int))))) then (bif (decide ((IntKind.i64.wrap ((2 : Int) * ((s_0).size : Int))) * 1 ≤ 140737488355328)) then (go0 s_0 ([] : List Int) (0 : Int)) else none) else none)
theorem zqy {R S : Type} (F : R → Option S) (s_0) (go0) : (zgs s_0 go0).bind F = zgs s_0 (fun a0 a1 a2 => (go0 a0 a1 a2).bind F) := by
  simp only [zgs, z8, z6, zd, z7, ze, zc]
def zg4 {R : Type} (s_0 : ByteArray) (t3 : (List Int)) (t4 : Int) (nx0 : ByteArray → (List Int) → Int → Option R) (ex0_0 : (List Int) → Option R) : Option R :=
  (bif (decide (t4 < ((s_0).size : Int))) then (zj t4 (s_0).size (zj (Int.fdiv (zn s_0 (t4).toNat) (2 ^ min ((4 : Int)).toNat 8)) ((bs [48, 49, 50, 51, 52, 53, 54, 55, 56, 57, 65, 66, 67, 68, 69, 70])).size (zj t4 (s_0).size (zj (ibits .and .u8 (zn s_0 (t4).toNat) (15 : Int)) ((bs [48, 49, 50, 51, 52, 53, 54, 55, 56, 57, 65, 66, 67, 68, 69, 70])).size (bif (decide (((List.length t3) + (List.length ([(zn (bs [48, 49, 50, 51, 52, 53, 54, 55, 56, 57, 65, 66, 67, 68, 69, 70]) ((Int.fdiv (zn s_0 (t4).toNat) (2 ^ min ((4 : Int)).toNat 8))).toNat), (zn (bs [48, 49, 50, 51, 52, 53, 54, 55, 56, 57, 65, 66, 67, 68, 69, 70]) ((ibits .and .u8 (zn s_0 (t4).toNat) (15 : Int))).toNat)] : List Int))) * 1 ≤ 140737488355328)) then (nx0 s_0 (t3 ++ ([(zn (bs [48, 49, 50, 51, 52, 53, 54, 55, 56, 57, 65, 66, 67, 68, 69, 70]) ((Int.fdiv (zn s_0 (t4).toNat) (2 ^ min ((4 : Int)).toNat 8))).toNat), (zn (bs [48, 49, 50, 51, 52, 53, 54, 55, 56, 57, 65, 66, 67, 68, 69, 70]) ((ibits .and .u8 (zn s_0 (t4).toNat) (15 : Int))).toNat)] : List Int)) (IntKind.i64.wrap (t4 + (1 : Int)))) else none))))) else (ex0_0 t3))
theorem zmt {R S : Type} (F : R → Option S) (s_0) (t3) (t4) (nx0) (ex0_0) : (zg4 s_0 t3 t4 nx0 ex0_0).bind F = zg4 s_0 t3 t4 (fun a0 a1 a2 => (nx0 a0 a1 a2).bind F) (fun a0 => (ex0_0 a0).bind F) := by
  simp only [zg4, z8, z6, zd, z7, ze, zc]
def zgh {R : Type} (t3 : (List Int)) (kr0 : ByteArray → Option R) : Option R :=
  (kr0 (strOf t3))
theorem ztb {R S : Type} (F : R → Option S) (t3) (kr0) : (zgh t3 kr0).bind F = zgh t3 (fun a0 => (kr0 a0).bind F) := by
  simp only [zgh, z8, z6, zd, z7, ze, zc]
def zvr : Nat → ByteArray → (List Int) → Int → Option (List Int)
  | 0, _, _, _ => none
  | k + 1, v0, v1, v2 => zg4 v0 v1 v2 (fun a0 a1 a2 => zvr k a0 a1 a2) (fun a0 => some a0)
def Q204 (s_0 : ByteArray) : Option ByteArray :=
  zgs s_0 (fun a0 a1 a2 => (zvr FUEL a0 a1 a2).bind fun e => zgh e (fun a0 => some a0))
end Groat
namespace Groat
open Go Go.Ref
def Q9_s0 {R : Type} (style_0 : Int) (kr0 : Bool → Option R) : Option R :=
  (bif (decide (style_0 = (1 : Int))) then (kr0 true) else (kr0 (decide (style_0 = (2 : Int)))))
theorem z1fe {R S : Type} (F : R → Option S) (style_0) (kr0) : (Q9_s0 style_0 kr0).bind F = Q9_s0 style_0 (fun a0 => (kr0 a0).bind F) := by
  simp only [Q9_s0, z8, z6, zd, z7, ze, zc]
def Q9 (style_0 : Int) : Option Bool :=
  Q9_s0 style_0 (fun a0 => some a0)
def zt8 {R : Type} (style_0 : Int) (b_1 : ByteArray) (at_2 : Int) (kr0 : (List Int) → Int → Int → Option R) : Option R :=
  (bif (decide (style_0 = (1 : Int))) then (bif (decide ((IntKind.i64.wrap (((b_1).size : Int) - at_2)) < (IntKind.i64.wrap ((8 : Int) * (2 : Int))))) then (kr0 (List.replicate 8 (0 : Int)) (0 : Int) (2 : Int)) else (bif (decide ((0 : Int) ≤ (IntKind.i64.wrap (at_2 + (IntKind.i64.wrap ((8 : Int) * (2 : Int))))))) then (bif (decide ((IntKind.i64.wrap (at_2 + (IntKind.i64.wrap ((8 : Int) * (2 : Int))))) ≤ (((b_1).size : Nat) : Int))) then (bif (decide ((0 : Int) ≤ at_2)) then (bif (decide (at_2 ≤ ((((IntKind.i64.wrap (at_2 + (IntKind.i64.wrap ((8 : Int) * (2 : Int)))))).toNat : Nat) : Int))) then (bif (decide (style_0 = (1 : Int))) then ((Q203 ((b_1).extract (at_2).toNat ((IntKind.i64.wrap (at_2 + (IntKind.i64.wrap ((8 : Int) * (2 : Int)))))).toNat)).bind fun r1 => (bif (!r1.2.2) then (kr0 (List.replicate 8 (0 : Int)) (0 : Int) (3 : Int)) else (bif (Nat.beq 8 (List.length (List.replicate 8 (0 : Int)))) then (bif (Nat.beq 8 (List.length (putL (List.replicate 8 (0 : Int)) (List.take 8 (z3c r1.1)) 0))) then (kr0 (putL (List.replicate 8 (0 : Int)) (List.take 8 (z3c r1.1)) 0) (IntKind.i64.wrap (at_2 + (IntKind.i64.wrap ((8 : Int) * (2 : Int))))) (0 : Int)) else none) else none))) else (bif (Nat.beq 8 (List.length (List.replicate 8 (0 : Int)))) then (bif (Nat.beq 8 (List.length (putL (List.replicate 8 (0 : Int)) (List.take 8 (z3c ((b_1).extract (at_2).toNat ((IntKind.i64.wrap (at_2 + (IntKind.i64.wrap ((8 : Int) * (2 : Int)))))).toNat))) 0))) then (kr0 (putL (List.replicate 8 (0 : Int)) (List.take 8 (z3c ((b_1).extract (at_2).toNat ((IntKind.i64.wrap (at_2 + (IntKind.i64.wrap ((8 : Int) * (2 : Int)))))).toNat))) 0) (IntKind.i64.wrap (at_2 + (IntKind.i64.wrap ((8 : Int) * (2 : Int))))) (0 : Int)) else none) else none)) else none) else none) else none) else none)) else (bif (decide ((IntKind.i64.wrap (((b_1).size : Int) - at_2)) < (8 : Int))) then (kr0 (List.replicate 8 (0 : Int)) (0 : Int) (2 : Int)) else (bif (decide ((0 : Int) ≤ (IntKind.i64.wrap (at_2 + (8 : Int))))) then (bif (decide ((IntKind.i64.wrap (at_2 + (8 : Int))) ≤ (((b_1).size : Nat) : Int))) then (bif (decide ((0 : Int) ≤ at_2)) then (bif (decide (at_2 ≤ ((((IntKind.i64.wrap (at_2 + (8 : Int)))).toNat : Nat) : Int))) then (bif (decide (style_0 = (1 : Int))) then ((Q203 ((b_1).extract (at_2).toNat ((IntKind.i64.wrap (at_2 + (8 : Int)))).toNat)).bind fun r2 => (bif (!r2.2.2) then (kr0 (List.replicate 8 (0 : Int)) (0 : Int) (3 : Int)) else (bif (Nat.beq 8 (List.length (List.replicate 8 (0 : Int)))) then (bif (Nat.beq 8 (List.length (putL (List.replicate 8 (0 : Int)) (List.take 8 (z3c r2.1)) 0))) then (kr0 (putL (List.replicate 8 (0 : Int)) (List.take 8 (z3c r2.1)) 0) (IntKind.i64.wrap (at_2 + (8 : Int))) (0 : Int)) else none) else none))) else (bif (Nat.beq 8 (List.length (List.replicate 8 (0 : Int)))) then (bif (Nat.beq 8 (List.length (putL (List.replicate 8 (0 : Int)) (List.take 8 (z3c ((b_1).extract (at_2).toNat ((IntKind.i64.wrap (at_2 + (8 : Int)))).toNat))) 0))) then (kr0 (putL (List.replicate 8 (0 : Int)) (List.take 8 (z3c ((b_1).extract (at_2).toNat ((IntKind.i64.wrap (at_2 + (8 : Int)))).toNat))) 0) (IntKind.i64.wrap (at_2 + (8 : Int))) (0 : Int)) else none) else none)) else none) else none) else none) else none)))
theorem z1du {R S : Type} (F : R → Option S) (style_0) (b_1) (at_2) (kr0) : (zt8 style_0 b_1 at_2 kr0).bind F = zt8 style_0 b_1 at_2 (fun a0 a1 a2 => (kr0 a0 a1 a2).bind F) := by
  simp only [zt8, z8, z6, zd, z7, ze, zc]
def Q10 (style_0 : Int) (b_1 : ByteArray) (at_2 : Int) : Option ((List Int) × Int × Int) :=
  zt8 style_0 b_1 at_2 (fun a0 a1 a2 => some (a0, a1, a2))
def Q7_s0 {R : Type} (b_0 : (List Int)) (go0 : Int → (List Int) → Int → Option R) : Option R :=
  (go0 (0 : Int) b_0 (0 : Int))
theorem zym {R S : Type} (F : R → Option S) (b_0) (go0) : (Q7_s0 b_0 go0).bind F = Q7_s0 b_0 (fun a0 a1 a2 => (go0 a0 a1 a2).bind F) := by
  simp only [Q7_s0, z8, z6, zd, z7, ze, zc]
def Q7_s1 {R : Type} (t3 : Int) (t6 : (List Int)) (t7 : Int) (nx0 : Int → (List Int) → Int → Option R) (ex0_0 : Int → Option R) : Option R :=
  (bif (decide (t7 < (8 : Int))) then (zj t7 8 (nx0 (ibits .or .u64 (IntKind.u64.wrap (t3 * 2 ^ min ((8 : Int)).toNat 64)) (IntKind.u64.wrap (List.getD t6 (t7).toNat (0 : Int)))) t6 (IntKind.i64.wrap (t7 + (1 : Int))))) else (ex0_0 t3))
theorem z11y {R S : Type} (F : R → Option S) (t3) (t6) (t7) (nx0) (ex0_0) : (Q7_s1 t3 t6 t7 nx0 ex0_0).bind F = Q7_s1 t3 t6 t7 (fun a0 a1 a2 => (nx0 a0 a1 a2).bind F) (fun a0 => (ex0_0 a0).bind F) := by
  simp only [Q7_s1, z8, z6, zd, z7, ze, zc]
def Q7_s2 {R : Type} (t3 : Int) (kr0 : Int → Option R) : Option R :=
  (kr0 t3)
theorem z112 {R S : Type} (F : R → Option S) (t3) (kr0) : (Q7_s2 t3 kr0).bind F = Q7_s2 t3 (fun a0 => (kr0 a0).bind F) := by
  simp only [Q7_s2, z8, z6, zd, z7, ze, zc]
def Q7_l0 : Nat → Int → (List Int) → Int → Option Int
  | 0, _, _, _ => none
  | k + 1, v0, v1, v2 => Q7_s1 v0 v1 v2 (fun a0 a1 a2 => Q7_l0 k a0 a1 a2) (fun a0 => some a0)
def Q7 (b_0 : (List Int)) : Option Int :=
  Q7_s0 b_0 (fun a0 a1 a2 => (Q7_l0 FUEL a0 a1 a2).bind fun e => Q7_s2 e (fun a0 => some a0))
def Q5_s0 {R : Type} (style_0 : Int) (b_1 : ByteArray) (at_2 : Int) (kr0 : Zt5 → Int → Int → Option R) : Option R :=
  ((Q9 style_0).bind fun r1 => (bif (!r1) then (kr0 ((0 : Int), (0 : Int), ()) (0 : Int) (1 : Int)) else (bif (decide (at_2 < (0 : Int))) then (kr0 ((0 : Int), (0 : Int), ()) (0 : Int) (1 : Int)) else (bif (decide (((b_1).size : Int) < at_2)) then (kr0 ((0 : Int), (0 : Int), ()) (0 : Int) (1 : Int)) else ((Q10 style_0 b_1 at_2).bind fun r2 => (bif (!(decide (r2.2.2 = (0 : Int)))) then (kr0 ((0 : Int), (0 : Int), ()) (0 : Int) r2.2.2) else ((Q7 r2.1).bind fun r3 => (bif (decide ((ibits .and .u64 r3 (9223372036854775808 : Int)) = (0 : Int))) then ((Q32 r3 (0 : Int)).bind fun r4 => (kr0 r4 r2.2.1 (0 : Int))) else ((Q10 style_0 b_1 r2.2.1).bind fun r5 => (bif (!(decide (r5.2.2 = (0 : Int)))) then (kr0 ((0 : Int), (0 : Int), ()) (0 : Int) r5.2.2) else (bif (decide (r5.1 = ([(0 : Int), (0 : Int), (0 : Int), (0 : Int), (0 : Int), (0 : Int), (0 : Int), (0 : Int)] : List Int))) then (kr0 ((0 : Int), (0 : Int), ()) (0 : Int) (8 : Int)) else ((Q7 r5.1).bind fun r6 => ((Q32 (ibits .andNot .u64 r3 (9223372036854775808 : Int)) r6).bind fun r7 => (kr0 r7 r5.2.1 (0 : Int)))))))))))))))
theorem z1gz {R S : Type} (F : R → Option S) (style_0) (b_1) (at_2) (kr0) : (Q5_s0 style_0 b_1 at_2 kr0).bind F = Q5_s0 style_0 b_1 at_2 (fun a0 a1 a2 => (kr0 a0 a1 a2).bind F) := by
  simp only [Q5_s0, z8, z6, zd, z7, ze, zc]
def Q5 (style_0 : Int) (b_1 : ByteArray) (at_2 : Int) : Option (Zt5 × Int × Int) :=
  Q5_s0 style_0 b_1 at_2 (fun a0 a1 a2 => some (a0, a1, a2))
def Q8_s0 {R : Type} (x_0 : Int) (go0 : Int → Int → (List Int) → (List Int) → Option R) : Option R :=
  (go0 x_0 (0 : Int) (List.replicate 8 (0 : Int)) (List.replicate 8 (0 : Int)))
theorem zyh {R S : Type} (F : R → Option S) (x_0) (go0) : (Q8_s0 x_0 go0).bind F = Q8_s0 x_0 (fun a0 a1 a2 a3 => (go0 a0 a1 a2 a3).bind F) := by
  simp only [Q8_s0, z8, z6, zd, z7, ze, zc]
def Q8_s1 {R : Type} (x_0 : Int) (t5 : Int) (bt2 : (List Int)) (bt3 : (List Int)) (nx0 : Int → Int → (List Int) → (List Int) → Option R) (ex0_0 : (List Int) → (List Int) → Option R) : Option R :=
  (bif (decide (t5 < (8 : Int))) then (bif (decide ((IntKind.i64.wrap ((8 : Int) * (IntKind.i64.wrap ((7 : Int) - t5)))) < (0 : Int))) then none else (zj t5 8 (nx0 x_0 (IntKind.i64.wrap (t5 + (1 : Int))) bt2 (List.set bt3 (t5).toNat (IntKind.u8.wrap (Int.fdiv x_0 (2 ^ min ((IntKind.i64.wrap ((8 : Int) * (IntKind.i64.wrap ((7 : Int) - t5))))).toNat 64))))))) else (ex0_0 bt2 bt3))
theorem z10u {R S : Type} (F : R → Option S) (x_0) (t5) (bt2) (bt3) (nx0) (ex0_0) : (Q8_s1 x_0 t5 bt2 bt3 nx0 ex0_0).bind F = Q8_s1 x_0 t5 bt2 bt3 (fun a0 a1 a2 a3 => (nx0 a0 a1 a2 a3).bind F) (fun a0 a1 => (ex0_0 a0 a1).bind F) := by
  simp only [Q8_s1, z8, z6, zd, z7, ze, zc]
def Q8_s2 {R : Type} (bt2 : (List Int)) (bt3 : (List Int)) (kr0 : (List Int) → Option R) : Option R :=
  (kr0 bt3)
theorem zzs {R S : Type} (F : R → Option S) (bt2) (bt3) (kr0) : (Q8_s2 bt2 bt3 kr0).bind F = Q8_s2 bt2 bt3 (fun a0 => (kr0 a0).bind F) := by
  simp only [Q8_s2, z8, z6, zd, z7, ze, zc]
def Q8_l0 : Nat → Int → Int → (List Int) → (List Int) → Option ((List Int) × (List Int))
  | 0, _, _, _, _ => none
  | k + 1, v0, v1, v2, v3 => Q8_s1 v0 v1 v2 v3 (fun a0 a1 a2 a3 => Q8_l0 k a0 a1 a2 a3) (fun a0 a1 => some (a0, a1))
def Q8 (x_0 : Int) : Option (List Int) :=
  Q8_s0 x_0 (fun a0 a1 a2 a3 => (Q8_l0 FUEL a0 a1 a2 a3).bind fun e => Q8_s2 e.1 e.2 (fun a0 => some a0))
def Q6_s0 {R : Type} (style_0 : Int) (s_1 : Zt5) (kr0 : ByteArray → Int → Option R) : Option R :=
  ((Q9 style_0).bind fun r1 => (bif (!r1) then (kr0 (bs []) (1 : Int)) else ((Q37 s_1 (1 : Int)).bind fun r2 => (bif r2 then (kr0 (bs []) (1 : Int)) else ((Q36 s_1).bind fun r3 => ((Q8 r3.2).bind fun r4 => (bif (!(decide (r4 = ([(0 : Int), (0 : Int), (0 : Int), (0 : Int), (0 : Int), (0 : Int), (0 : Int), (0 : Int)] : List Int)))) then (bif (Nat.beq 8 (List.length r4)) then ((Q8 (ibits .or .u64 r3.1 (9223372036854775808 : Int))).bind fun r5 => (bif (Nat.beq 8 (List.length r5)) then (bif decide (((strOf r5)).size + ((strOf r4)).size ≤ 9223372036854775807) then (bif (decide (style_0 = (1 : Int))) then ((Q204 ((strOf r5) ++ (strOf r4))).bind fun r6 => (kr0 r6 (0 : Int))) else (kr0 ((strOf r5) ++ (strOf r4)) (0 : Int))) else none) else none)) else none) else ((Q8 r3.1).bind fun r7 => (bif (Nat.beq 8 (List.length r7)) then (bif decide (((strOf r7)).size + ((bs [])).size ≤ 9223372036854775807) then (bif (decide (style_0 = (1 : Int))) then ((Q204 ((strOf r7) ++ (bs []))).bind fun r8 => (kr0 r8 (0 : Int))) else (kr0 ((strOf r7) ++ (bs [])) (0 : Int))) else none) else none)))))))))
theorem z1gm {R S : Type} (F : R → Option S) (style_0) (s_1) (kr0) : (Q6_s0 style_0 s_1 kr0).bind F = Q6_s0 style_0 s_1 (fun a0 a1 => (kr0 a0 a1).bind F) := by
  simp only [Q6_s0, z8, z6, zd, z7, ze, zc]
def Q6 (style_0 : Int) (s_1 : Zt5) : Option Zt2 :=
  Q6_s0 style_0 s_1 (fun a0 a1 => some (a0, a1))
end Groat
namespace Groat
open Go Go.Ref
def ziz {R : Type} (form_0 : Int) (kr0 : Int → Option R) : Option R :=
  (bif (decide (form_0 = (2 : Int))) then (kr0 (2 : Int)) else (bif (decide (form_0 = (3 : Int))) then (kr0 (3 : Int)) else (kr0 (0 : Int))))
theorem z1cw {R S : Type} (F : R → Option S) (form_0) (kr0) : (ziz form_0 kr0).bind F = ziz form_0 (fun a0 => (kr0 a0).bind F) := by
  simp only [ziz, z8, z6, zd, z7, ze, zc]
def Q230 (form_0 : Int) : Option Int :=
  ziz form_0 (fun a0 => some a0)
def zga {R : Type} (form_0 : Int) (go0 : Int → Int → Int → Option R) : Option R :=
  ((Q230 form_0).bind fun r1 => (go0 (0 : Int) r1 (0 : Int)))
theorem zqf {R S : Type} (F : R → Option S) (form_0) (go0) : (zga form_0 go0).bind F = zga form_0 (fun a0 a1 a2 => (go0 a0 a1 a2).bind F) := by
  simp only [zga, z8, z6, zd, z7, ze, zc]
def zec {R : Type} (t3 : Int) (t5 : Int) (t6 : Int) (nx0 : Int → Int → Int → Option R) (ex0_0 : Int → Option R) : Option R :=
  (bif (decide (t6 < t5)) then (nx0 (IntKind.i64.wrap ((IntKind.i64.wrap ((10 : Int) * t3)) + (9 : Int))) t5 (IntKind.i64.wrap (t6 + (1 : Int)))) else (ex0_0 t3))
theorem zsh {R S : Type} (F : R → Option S) (t3) (t5) (t6) (nx0) (ex0_0) : (zec t3 t5 t6 nx0 ex0_0).bind F = zec t3 t5 t6 (fun a0 a1 a2 => (nx0 a0 a1 a2).bind F) (fun a0 => (ex0_0 a0).bind F) := by
  simp only [zec, z8, z6, zd, z7, ze, zc]
def zg9 {R : Type} (t3 : Int) (kr0 : Int → Option R) : Option R :=
  (kr0 t3)
theorem ztg {R S : Type} (F : R → Option S) (t3) (kr0) : (zg9 t3 kr0).bind F = zg9 t3 (fun a0 => (kr0 a0).bind F) := by
  simp only [zg9, z8, z6, zd, z7, ze, zc]
def zuh : Nat → Int → Int → Int → Option Int
  | 0, _, _, _ => none
  | k + 1, v0, v1, v2 => zec v0 v1 v2 (fun a0 a1 a2 => zuh k a0 a1 a2) (fun a0 => some a0)
def Q227 (form_0 : Int) : Option Int :=
  zga form_0 (fun a0 a1 a2 => (zuh FUEL a0 a1 a2).bind fun e => zg9 e (fun a0 => some a0))
def zib {R : Type} (style_0 : Int) (form_1 : Int) (kr0 : Bool → Option R) : Option R :=
  (bif (decide (style_0 = (1 : Int))) then ((Q230 form_1).bind fun r1 => (kr0 (decide ((0 : Int) < r1)))) else (bif (decide (style_0 = (2 : Int))) then ((Q230 form_1).bind fun r2 => (kr0 (decide ((0 : Int) < r2)))) else (kr0 false)))
theorem z1ck {R S : Type} (F : R → Option S) (style_0) (form_1) (kr0) : (zib style_0 form_1 kr0).bind F = zib style_0 form_1 (fun a0 => (kr0 a0).bind F) := by
  simp only [zib, z8, z6, zd, z7, ze, zc]
def Q229 (style_0 : Int) (form_1 : Int) : Option Bool :=
  zib style_0 form_1 (fun a0 => some a0)
def zg5 {R : Type} (style_0 : Int) (form_1 : Int) (b_2 : ByteArray) (at_3 : Int) (kr0 : Int → Int → Int → Option R) : Option R :=
  ((Q229 style_0 form_1).bind fun r1 => (bif (!r1) then (kr0 (0 : Int) (0 : Int) (1 : Int)) else (bif (decide (at_3 < (0 : Int))) then (kr0 (0 : Int) (0 : Int) (1 : Int)) else (bif (decide (((b_2).size : Int) < at_3)) then (kr0 (0 : Int) (0 : Int) (1 : Int)) else ((Q230 form_1).bind fun r2 => (bif (decide (style_0 = (2 : Int))) then ((Q2 r2).bind fun r3 => (bif (decide ((IntKind.i64.wrap (((b_2).size : Int) - at_3)) < r3)) then (kr0 (0 : Int) (0 : Int) (2 : Int)) else (bif (decide ((0 : Int) ≤ (IntKind.i64.wrap (at_3 + r3)))) then (bif (decide ((IntKind.i64.wrap (at_3 + r3)) ≤ (((b_2).size : Nat) : Int))) then (bif (decide ((0 : Int) ≤ at_3)) then (bif (decide (at_3 ≤ ((((IntKind.i64.wrap (at_3 + r3))).toNat : Nat) : Int))) then (bif (decide (style_0 = (2 : Int))) then ((Q230 form_1).bind fun r4 => ((Q0 ((b_2).extract (at_3).toNat ((IntKind.i64.wrap (at_3 + r3))).toNat) r4).bind fun r5 => (bif (!(decide (r5.2.1 = (0 : Int)))) then (kr0 (0 : Int) (0 : Int) (3 : Int)) else ((Q29 r5.1).bind fun r6 => (bif (!r6.2) then (kr0 (0 : Int) (0 : Int) (3 : Int)) else (kr0 r6.1 (IntKind.i64.wrap (at_3 + r3)) (0 : Int))))))) else ((Q29 ((b_2).extract (at_3).toNat ((IntKind.i64.wrap (at_3 + r3))).toNat)).bind fun r7 => (bif (!r7.2) then (kr0 (0 : Int) (0 : Int) (3 : Int)) else (kr0 r7.1 (IntKind.i64.wrap (at_3 + r3)) (0 : Int))))) else none) else none) else none) else none))) else (bif (decide ((IntKind.i64.wrap (((b_2).size : Int) - at_3)) < r2)) then (kr0 (0 : Int) (0 : Int) (2 : Int)) else (bif (decide ((0 : Int) ≤ (IntKind.i64.wrap (at_3 + r2)))) then (bif (decide ((IntKind.i64.wrap (at_3 + r2)) ≤ (((b_2).size : Nat) : Int))) then (bif (decide ((0 : Int) ≤ at_3)) then (bif (decide (at_3 ≤ ((((IntKind.i64.wrap (at_3 + r2))).toNat : Nat) : Int))) then (bif (decide (style_0 = (2 : Int))) then ((Q230 form_1).bind fun r8 => ((Q0 ((b_2).extract (at_3).toNat ((IntKind.i64.wrap (at_3 + r2))).toNat) r8).bind fun r9 => (bif (!(decide (r9.2.1 = (0 : Int)))) then (kr0 (0 : Int) (0 : Int) (3 : Int)) else ((Q29 r9.1).bind fun r10 => (bif (!r10.2) then (kr0 (0 : Int) (0 : Int) (3 : Int)) else (kr0 r10.1 (IntKind.i64.wrap (at_3 + r2)) (0 : Int))))))) else ((Q29 ((b_2).extract (at_3).toNat ((IntKind.i64.wrap (at_3 + r2))).toNat)).bind fun r11 => (bif (!r11.2) then (kr0 (0 : Int) (0 : Int) (3 : Int)) else (kr0 r11.1 (IntKind.i64.wrap (at_3 + r2)) (0 : Int))))) else none) else none) else none) else none))))))))
theorem z1cp {R S : Type} (F : R → Option S) (style_0) (form_1) (b_2) (at_3) (kr0) : (zg5 style_0 form_1 b_2 at_3 kr0).bind F = zg5 style_0 form_1 b_2 at_3 (fun a0 a1 a2 => (kr0 a0 a1 a2).bind F) := by
  simp only [zg5, z8, z6, zd, z7, ze, zc]
def Q226 (style_0 : Int) (form_1 : Int) (b_2 : ByteArray) (at_3 : Int) : Option Zt1 :=
  zg5 style_0 form_1 b_2 at_3 (fun a0 a1 a2 => some (a0, a1, a2))
def zff {R : Type} (style_0 : Int) (form_1 : Int) (n_2 : Int) (kr0 : ByteArray → Int → Option R) : Option R :=
  ((Q229 style_0 form_1).bind fun r1 => (bif (!r1) then (kr0 (bs []) (1 : Int)) else ((Q230 form_1).bind fun r2 => ((Q31 n_2 r2).bind fun r3 => (bif (!r3.2) then (kr0 (bs []) (5 : Int)) else (bif (decide (style_0 = (2 : Int))) then ((Q1 r3.1).bind fun r4 => (kr0 r4.1 (0 : Int))) else (kr0 r3.1 (0 : Int))))))))
theorem z16s {R S : Type} (F : R → Option S) (style_0) (form_1) (n_2) (kr0) : (zff style_0 form_1 n_2 kr0).bind F = zff style_0 form_1 n_2 (fun a0 a1 => (kr0 a0 a1).bind F) := by
  simp only [zff, z8, z6, zd, z7, ze, zc]
def Q228 (style_0 : Int) (form_1 : Int) (n_2 : Int) : Option Zt2 :=
  zff style_0 form_1 n_2 (fun a0 a1 => some (a0, a1))
end Groat
namespace Groat
open Go Go.Ref
def ze3 {R : Type} (class_0 : Int) (kr0 : Int → Option R) : Option R :=
  (bif (decide (class_0 = (1 : Int))) then (kr0 (1 : Int)) else (bif (decide (class_0 = (2 : Int))) then (kr0 (2 : Int)) else (bif (decide (class_0 = (3 : Int))) then (kr0 (3 : Int)) else (bif (decide (class_0 = (4 : Int))) then (kr0 (7 : Int)) else (bif (decide (class_0 = (5 : Int))) then (kr0 (15 : Int)) else (bif (decide (class_0 = (6 : Int))) then (kr0 (15 : Int)) else (kr0 (0 : Int))))))))
theorem z1eg {R S : Type} (F : R → Option S) (class_0) (kr0) : (ze3 class_0 kr0).bind F = ze3 class_0 (fun a0 => (kr0 a0).bind F) := by
  simp only [ze3, z8, z6, zd, z7, ze, zc]
def Q19 (class_0 : Int) : Option Int :=
  ze3 class_0 (fun a0 => some a0)
def zgi {R : Type} (class_0 : Int) (kr0 : Bool → Option R) : Option R :=
  ((Q19 class_0).bind fun r1 => (kr0 (!(decide (r1 = (0 : Int))))))
theorem z1e9 {R S : Type} (F : R → Option S) (class_0) (kr0) : (zgi class_0 kr0).bind F = zgi class_0 (fun a0 => (kr0 a0).bind F) := by
  simp only [zgi, z8, z6, zd, z7, ze, zc]
def Q16 (class_0 : Int) : Option Bool :=
  zgi class_0 (fun a0 => some a0)
def zeo {R : Type} (a_0 : Int) (b_1 : Int) (kr0 : Bool → Option R) : Option R :=
  ((Q16 a_0).bind fun r1 => (bif r1 then ((Q16 b_1).bind fun r2 => (bif r2 then ((Q19 b_1).bind fun r3 => ((Q19 a_0).bind fun r4 => (kr0 (decide ((ibits .andNot .i64 r3 r4) = (0 : Int)))))) else (kr0 false))) else (kr0 false)))
theorem z1dr {R S : Type} (F : R → Option S) (a_0) (b_1) (kr0) : (zeo a_0 b_1 kr0).bind F = zeo a_0 b_1 (fun a0 => (kr0 a0).bind F) := by
  simp only [zeo, z8, z6, zd, z7, ze, zc]
def Q17 (a_0 : Int) (b_1 : Int) : Option Bool :=
  zeo a_0 b_1 (fun a0 => some a0)
def zrp {R : Type} (b_0 : Int) (kr0 : Int → Option R) : Option R :=
  (bif (decide ((48 : Int) ≤ b_0)) then (bif (decide (b_0 ≤ (57 : Int))) then (kr0 (1 : Int)) else (bif (decide ((65 : Int) ≤ b_0)) then (bif (decide (b_0 ≤ (90 : Int))) then (kr0 (2 : Int)) else (bif (decide ((97 : Int) ≤ b_0)) then (bif (decide (b_0 ≤ (122 : Int))) then (kr0 (2 : Int)) else (bif (decide ((32 : Int) ≤ b_0)) then (bif (decide (b_0 ≤ (126 : Int))) then (kr0 (4 : Int)) else (kr0 (8 : Int))) else (kr0 (8 : Int)))) else (bif (decide ((32 : Int) ≤ b_0)) then (bif (decide (b_0 ≤ (126 : Int))) then (kr0 (4 : Int)) else (kr0 (8 : Int))) else (kr0 (8 : Int))))) else (bif (decide ((97 : Int) ≤ b_0)) then (bif (decide (b_0 ≤ (122 : Int))) then (kr0 (2 : Int)) else (bif (decide ((32 : Int) ≤ b_0)) then (bif (decide (b_0 ≤ (126 : Int))) then (kr0 (4 : Int)) else (kr0 (8 : Int))) else (kr0 (8 : Int)))) else (bif (decide ((32 : Int) ≤ b_0)) then (bif (decide (b_0 ≤ (126 : Int))) then (kr0 (4 : Int)) else (kr0 (8 : Int))) else (kr0 (8 : Int)))))) else (bif (decide ((65 : Int) ≤ b_0)) then (bif (decide (b_0 ≤ (90 : Int))) then (kr0 (2 : Int)) else (bif (decide ((97 : Int) ≤ b_0)) then (bif (decide (b_0 ≤ (122 : Int))) then (kr0 (2 : Int)) else (bif (decide ((32 : Int) ≤ b_0)) then (bif (decide (b_0 ≤ (126 : Int))) then (kr0 (4 : Int)) else (kr0 (8 : Int))) else (kr0 (8 : Int)))) else (bif (decide ((32 : Int) ≤ b_0)) then (bif (decide (b_0 ≤ (126 : Int))) then (kr0 (4 : Int)) else (kr0 (8 : Int))) else (kr0 (8 : Int))))) else (bif (decide ((97 : Int) ≤ b_0)) then (bif (decide (b_0 ≤ (122 : Int))) then (kr0 (2 : Int)) else (bif (decide ((32 : Int) ≤ b_0)) then (bif (decide (b_0 ≤ (126 : Int))) then (kr0 (4 : Int)) else (kr0 (8 : Int))) else (kr0 (8 : Int)))) else (bif (decide ((32 : Int) ≤ b_0)) then (bif (decide (b_0 ≤ (126 : Int))) then (kr0 (4 : Int)) else (kr0 (8 : Int))) else (kr0 (8 : Int))))))
theorem z1ei {R S : Type} (F : R → Option S) (b_0) (kr0) : (zrp b_0 kr0).bind F = zrp b_0 (fun a0 => (kr0 a0).bind F) := by
  simp only [zrp, z8, z6, zd, z7, ze, zc]
def Q18 (b_0 : Int) : Option Int :=
  zrp b_0 (fun a0 => some a0)
def ze4 {R : Type} (class_0 : Int) (s_1 : ByteArray) (go0 : ByteArray → Int → Int → Option R) : Option R :=
  ((Q19 class_0).bind fun r1 => (go0 s_1 r1 (0 : Int)))
theorem zx5 {R S : Type} (F : R → Option S) (class_0) (s_1) (go0) : (ze4 class_0 s_1 go0).bind F = ze4 class_0 s_1 (fun a0 a1 a2 => (go0 a0 a1 a2).bind F) := by
  simp only [ze4, z8, z6, zd, z7, ze, zc]
def zco {R : Type} (s_1 : ByteArray) (t5 : Int) (t6 : Int) (ex0_0 : Int → Option R) (nx0 : ByteArray → Int → Int → Option R) (ex0_1 : Option R) : Option R :=
  (bif (decide (t6 < ((s_1).size : Int))) then (zj t6 (s_1).size ((Q18 (zn s_1 (t6).toNat)).bind fun r2 => (bif (decide ((ibits .and .i64 t5 r2) = (0 : Int))) then (ex0_0 t6) else (nx0 s_1 t5 (IntKind.i64.wrap (t6 + (1 : Int))))))) else (ex0_1))
theorem zwz {R S : Type} (F : R → Option S) (s_1) (t5) (t6) (ex0_0) (nx0) (ex0_1) : (zco s_1 t5 t6 ex0_0 nx0 ex0_1).bind F = zco s_1 t5 t6 (fun a0 => (ex0_0 a0).bind F) (fun a0 a1 a2 => (nx0 a0 a1 a2).bind F) ((ex0_1).bind F) := by
  simp only [zco, z8, z6, zd, z7, ze, zc]
def zsv {R : Type} (t4 : Int) (kr0 : Int → Option R) : Option R :=
  (kr0 t4)
theorem zwj {R S : Type} (F : R → Option S) (t4) (kr0) : (zsv t4 kr0).bind F = zsv t4 (fun a0 => (kr0 a0).bind F) := by
  simp only [zsv, z8, z6, zd, z7, ze, zc]
def zle {R : Type}  (kr0 : Int → Option R) : Option R :=
  (kr0 (-1 : Int))
theorem zx2 {R S : Type} (F : R → Option S)  (kr0 : Int → Option R) : (zle kr0).bind F = zle (fun a0 => (kr0 a0).bind F) := by
  simp only [zle, z8, z6, zd, z7, ze, zc]
def zcd : Nat → ByteArray → Int → Int → Option (Sum Int Unit)
  | 0, _, _, _ => none
  | k + 1, v0, v1, v2 => zco v0 v1 v2 (fun a0 => some (.inl a0)) (fun a0 a1 a2 => zcd k a0 a1 a2) (some (.inr ()))
def Q15 (class_0 : Int) (s_1 : ByteArray) : Option Int :=
  ze4 class_0 s_1 (fun a0 a1 a2 => (zcd FUEL a0 a1 a2).bind fun e => (Sum.elim (fun (we : Int) => zsv we (fun a0 => some a0)) (fun (we : Unit) => zle (fun a0 => some a0)) e))
end Groat
namespace Groat
open Go Go.Ref
def zfa {R : Type} (b_0 : Int) (kr0 : Bool → Option R) : Option R :=
  (bif (decide ((0 : Int) < b_0)) then (bif (decide (b_0 ≤ (255 : Int))) then (kr0 (decide ((ibits .and .i64 b_0 (32 : Int)) = (0 : Int)))) else (kr0 false)) else (kr0 false))
theorem z17h {R S : Type} (F : R → Option S) (b_0) (kr0) : (zfa b_0 kr0).bind F = zfa b_0 (fun a0 => (kr0 a0).bind F) := by
  simp only [zfa, z8, z6, zd, z7, ze, zc]
def Q278 (b_0 : Int) : Option Bool :=
  zfa b_0 (fun a0 => some a0)
def z9y {R : Type} (tag_0 : Int) (kr0 : Bool → Option R) : Option R :=
  (bif (decide (tag_0 ≤ (255 : Int))) then ((Q278 tag_0).bind fun r1 => (bif r1 then (kr0 (!(decide ((ibits .and .i64 tag_0 (31 : Int)) = (31 : Int))))) else (kr0 false))) else (bif (decide (tag_0 ≤ (65535 : Int))) then ((Q278 (Int.fdiv tag_0 (2 ^ min ((8 : Int)).toNat 64))).bind fun r2 => (bif r2 then (bif (decide ((ibits .and .i64 (Int.fdiv tag_0 (2 ^ min ((8 : Int)).toNat 64)) (31 : Int)) = (31 : Int))) then (bif (decide ((1 : Int) ≤ (ibits .and .i64 tag_0 (255 : Int)))) then (kr0 (decide ((ibits .and .i64 tag_0 (255 : Int)) ≤ (127 : Int)))) else (kr0 false)) else (kr0 false)) else (kr0 false))) else (kr0 false)))
theorem z1ad {R S : Type} (F : R → Option S) (tag_0) (kr0) : (z9y tag_0 kr0).bind F = z9y tag_0 (fun a0 => (kr0 a0).bind F) := by
  simp only [z9y, z8, z6, zd, z7, ze, zc]
def Q277 (tag_0 : Int) : Option Bool :=
  z9y tag_0 (fun a0 => some a0)
def zbq {R : Type} (b_0 : ByteArray) (at_1 : Int) (kr0 : Int → Int → Int → Option R) : Option R :=
  (bif (decide (at_1 < (0 : Int))) then (kr0 (0 : Int) (0 : Int) (1 : Int)) else (bif (decide (((b_0).size : Int) < at_1)) then (kr0 (0 : Int) (0 : Int) (1 : Int)) else (bif (decide (at_1 = ((b_0).size : Int))) then (kr0 (0 : Int) (0 : Int) (2 : Int)) else (zj at_1 (b_0).size ((Q278 (IntKind.i64.wrap (zn b_0 (at_1).toNat))).bind fun r1 => (bif (!r1) then (kr0 (0 : Int) (0 : Int) (13 : Int)) else (bif (!(decide ((ibits .and .i64 (IntKind.i64.wrap (zn b_0 (at_1).toNat)) (31 : Int)) = (31 : Int)))) then (kr0 (IntKind.i64.wrap (zn b_0 (at_1).toNat)) (IntKind.i64.wrap (at_1 + (1 : Int))) (0 : Int)) else (bif (decide ((IntKind.i64.wrap (at_1 + (1 : Int))) = ((b_0).size : Int))) then (kr0 (0 : Int) (0 : Int) (2 : Int)) else (zj (IntKind.i64.wrap (at_1 + (1 : Int))) (b_0).size ((Q277 (ibits .or .i64 (IntKind.i64.wrap ((IntKind.i64.wrap (zn b_0 (at_1).toNat)) * 2 ^ min ((8 : Int)).toNat 64)) (IntKind.i64.wrap (zn b_0 ((IntKind.i64.wrap (at_1 + (1 : Int)))).toNat)))).bind fun r2 => (bif (!r2) then (kr0 (0 : Int) (0 : Int) (13 : Int)) else (kr0 (ibits .or .i64 (IntKind.i64.wrap ((IntKind.i64.wrap (zn b_0 (at_1).toNat)) * 2 ^ min ((8 : Int)).toNat 64)) (IntKind.i64.wrap (zn b_0 ((IntKind.i64.wrap (at_1 + (1 : Int)))).toNat))) (IntKind.i64.wrap (at_1 + (2 : Int))) (0 : Int)))))))))))))
theorem z1cy {R S : Type} (F : R → Option S) (b_0) (at_1) (kr0) : (zbq b_0 at_1 kr0).bind F = zbq b_0 at_1 (fun a0 a1 a2 => (kr0 a0 a1 a2).bind F) := by
  simp only [zbq, z8, z6, zd, z7, ze, zc]
def Q276 (b_0 : ByteArray) (at_1 : Int) : Option Zt1 :=
  zbq b_0 at_1 (fun a0 a1 a2 => some (a0, a1, a2))
end Groat
namespace Groat
open Go Go.Ref
def zap {R : Type} (b_0 : ByteArray) (go0 : ByteArray → Zt11 → Int → Zt6 → Option R) : Option R :=
  (go0 b_0 ([] : List Zt8) (0 : Int) ([] : List (Int × Bool)))
theorem zqz {R S : Type} (F : R → Option S) (b_0) (go0) : (zap b_0 go0).bind F = zap b_0 (fun a0 a1 a2 a3 => (go0 a0 a1 a2 a3).bind F) := by
  simp only [zap, z8, z6, zd, z7, ze, zc]
def z9s {R : Type} (b_0 : ByteArray) (t5 : Zt11) (t7 : Int) (bt6 : Zt6) (ex0_0 : Zt11 → Int → Int → Zt11 → Option R) (nx0 : ByteArray → Zt11 → Int → Zt6 → Option R) (ex0_1 : Zt11 → Option R) : Option R :=
  (bif (decide (t7 < ((b_0).size : Int))) then ((Q276 b_0 t7).bind fun r1 => (bif (!(decide (r1.2.2 = (0 : Int)))) then (ex0_0 ([] : List Zt8) r1.2.2 t7 t5) else ((Q3 b_0 r1.2.1).bind fun r2 => (bif (!(decide (r2.2.2 = (0 : Int)))) then (ex0_0 ([] : List Zt8) r2.2.2 r1.2.1 t5) else (bif (decide ((IntKind.i64.wrap (((b_0).size : Int) - r2.2.1)) < r2.1)) then (ex0_0 ([] : List Zt8) (2 : Int) ((b_0).size : Int) t5) else (bif (mget (eqK (.int .i64)) false bt6 r1.1) then (ex0_0 ([] : List Zt8) (10 : Int) t7 t5) else (bif (mhas (eqK (.int .i64)) bt6 r1.1) then none else (bif (decide ((0 : Int) ≤ (IntKind.i64.wrap (r2.2.1 + r2.1)))) then (bif (decide ((IntKind.i64.wrap (r2.2.1 + r2.1)) ≤ (((b_0).size : Nat) : Int))) then (bif (decide ((0 : Int) ≤ r2.2.1)) then (bif (decide (r2.2.1 ≤ ((((IntKind.i64.wrap (r2.2.1 + r2.1))).toNat : Nat) : Int))) then (bif (decide (((List.length t5) + (List.length ([(r1.1, ((b_0).extract (r2.2.1).toNat ((IntKind.i64.wrap (r2.2.1 + r2.1))).toNat), ())] : List Zt8))) * 24 ≤ 140737488355328)) then (nx0 b_0 (t5 ++ ([(r1.1, ((b_0).extract (r2.2.1).toNat ((IntKind.i64.wrap (r2.2.1 + r2.1))).toNat), ())] : List Zt8)) (IntKind.i64.wrap (r2.2.1 + r2.1)) (bt6 ++ [(r1.1, true)])) else none) else none) else none) else none) else none)))))))) else (ex0_1 t5))
theorem zmu {R S : Type} (F : R → Option S) (b_0) (t5) (t7) (bt6) (ex0_0) (nx0) (ex0_1) : (z9s b_0 t5 t7 bt6 ex0_0 nx0 ex0_1).bind F = z9s b_0 t5 t7 bt6 (fun a0 a1 a2 a3 => (ex0_0 a0 a1 a2 a3).bind F) (fun a0 a1 a2 a3 => (nx0 a0 a1 a2 a3).bind F) (fun a0 => (ex0_1 a0).bind F) := by
  simp only [z9s, z8, z6, zd, z7, ze, zc]
def zdz {R : Type} (t2 : Zt11) (t3 : Int) (t4 : Int) (t5 : Zt11) (kr0 : Zt11 → Int → Int → Option R) : Option R :=
  (kr0 t2 t3 t4)
theorem zrh {R S : Type} (F : R → Option S) (t2) (t3) (t4) (t5) (kr0) : (zdz t2 t3 t4 t5 kr0).bind F = zdz t2 t3 t4 t5 (fun a0 a1 a2 => (kr0 a0 a1 a2).bind F) := by
  simp only [zdz, z8, z6, zd, z7, ze, zc]
def zi2 {R : Type} (t5 : Zt11) (kr1 : Zt11 → Int → Int → Option R) : Option R :=
  (kr1 t5 (0 : Int) (0 : Int))
theorem zmp {R S : Type} (F : R → Option S) (t5) (kr1) : (zi2 t5 kr1).bind F = zi2 t5 (fun a0 a1 a2 => (kr1 a0 a1 a2).bind F) := by
  simp only [zi2, z8, z6, zd, z7, ze, zc]
def zbp : Nat → ByteArray → Zt11 → Int → Zt6 → Option (Sum Zt21 Zt11)
  | 0, _, _, _, _ => none
  | k + 1, v0, v1, v2, v3 => z9s v0 v1 v2 v3 (fun a0 a1 a2 a3 => some (.inl (a0, a1, a2, a3))) (fun a0 a1 a2 a3 => zbp k a0 a1 a2 a3) (fun a0 => some (.inr a0))
def Q279 (b_0 : ByteArray) : Option (Sum Zt16 Zt16) :=
  zap b_0 (fun a0 a1 a2 a3 => (zbp FUEL a0 a1 a2 a3).bind fun e => (Sum.elim (fun (we : Zt21) => zdz we.1 we.2.1 we.2.2.1 we.2.2.2 (fun a0 a1 a2 => some (.inl (a0, a1, a2)))) (fun (we : Zt11) => zi2 we (fun a0 a1 a2 => some (.inr (a0, a1, a2)))) e))
end Groat
namespace Groat
open Go Go.Ref
def zav {R : Type} (s_0 : Zt13) (kr0 : Int → Option R) : Option R :=
  (bif (decide (s_0.1 < (2 : Int))) then (kr0 (1 : Int)) else (bif (decide ((128 : Int) < s_0.1)) then (kr0 (1 : Int)) else ((Q16 s_0.2.1).bind fun r1 => (bif (!r1) then (kr0 (6 : Int)) else (bif (decide (s_0.2.2.1 < (1 : Int))) then (kr0 (3 : Int)) else (bif (decide ((3 : Int) < s_0.2.2.1)) then (kr0 (3 : Int)) else (bif (decide (s_0.2.2.2.1 < (1 : Int))) then (kr0 (5 : Int)) else (bif (decide (s_0.2.2.2.2.1 < s_0.2.2.2.1)) then (kr0 (5 : Int)) else (bif (decide ((999 : Int) < s_0.2.2.2.2.1)) then (kr0 (5 : Int)) else (bif (decide (s_0.2.2.1 = (1 : Int))) then (bif (!(decide (s_0.2.2.2.1 = s_0.2.2.2.2.1))) then (kr0 (5 : Int)) else (bif (!(decide (s_0.2.2.1 = (1 : Int)))) then ((Q227 s_0.2.2.1).bind fun r2 => (bif (decide (r2 < s_0.2.2.2.2.1)) then (kr0 (5 : Int)) else (bif (decide (s_0.2.2.1 = (1 : Int))) then (bif (decide (s_0.2.1 = (6 : Int))) then (kr0 (13 : Int)) else (kr0 (0 : Int))) else (kr0 (0 : Int))))) else (bif (decide (s_0.2.2.1 = (1 : Int))) then (bif (decide (s_0.2.1 = (6 : Int))) then (kr0 (13 : Int)) else (kr0 (0 : Int))) else (kr0 (0 : Int))))) else (bif (!(decide (s_0.2.2.1 = (1 : Int)))) then ((Q227 s_0.2.2.1).bind fun r3 => (bif (decide (r3 < s_0.2.2.2.2.1)) then (kr0 (5 : Int)) else (bif (decide (s_0.2.2.1 = (1 : Int))) then (bif (decide (s_0.2.1 = (6 : Int))) then (kr0 (13 : Int)) else (kr0 (0 : Int))) else (kr0 (0 : Int))))) else (bif (decide (s_0.2.2.1 = (1 : Int))) then (bif (decide (s_0.2.1 = (6 : Int))) then (kr0 (13 : Int)) else (kr0 (0 : Int))) else (kr0 (0 : Int))))))))))))))
theorem z1c9 {R S : Type} (F : R → Option S) (s_0) (kr0) : (zav s_0 kr0).bind F = zav s_0 (fun a0 => (kr0 a0).bind F) := by
  simp only [zav, z8, z6, zd, z7, ze, zc]
def Q265 (s_0 : Zt13) : Option Int :=
  zav s_0 (fun a0 => some a0)
def z9k {R : Type} (a_0 : Int) (b_1 : Int) (kr0 : Bool → Option R) : Option R :=
  (bif (decide (a_0 = (5 : Int))) then (kr0 true) else (bif (decide (a_0 = (6 : Int))) then (kr0 (decide (a_0 = b_1))) else (bif (decide (b_1 = (6 : Int))) then (kr0 (decide (a_0 = b_1))) else ((Q17 a_0 b_1).bind fun r1 => (kr0 r1)))))
theorem z1d0 {R S : Type} (F : R → Option S) (a_0) (b_1) (kr0) : (z9k a_0 b_1 kr0).bind F = z9k a_0 b_1 (fun a0 => (kr0 a0).bind F) := by
  simp only [z9k, z8, z6, zd, z7, ze, zc]
def Q268 (a_0 : Int) (b_1 : Int) : Option Bool :=
  z9k a_0 b_1 (fun a0 => some a0)
def z9q {R : Type} (a_0 : Zt13) (b_1 : Zt13) (kr0 : Bool → Option R) : Option R :=
  ((Q265 a_0).bind fun r1 => (bif (decide (r1 = (0 : Int))) then ((Q265 b_1).bind fun r2 => (bif (decide (r2 = (0 : Int))) then (bif (decide (a_0.2.2.2.1 ≤ b_1.2.2.2.1)) then (bif (decide (b_1.2.2.2.2.1 ≤ a_0.2.2.2.2.1)) then ((Q268 a_0.2.1 b_1.2.1).bind fun r3 => (kr0 r3)) else (kr0 false)) else (kr0 false)) else (kr0 false))) else (kr0 false)))
theorem z1aq {R S : Type} (F : R → Option S) (a_0) (b_1) (kr0) : (z9q a_0 b_1 kr0).bind F = z9q a_0 b_1 (fun a0 => (kr0 a0).bind F) := by
  simp only [z9q, z8, z6, zd, z7, ze, zc]
def Q267 (a_0 : Zt13) (b_1 : Zt13) : Option Bool :=
  z9q a_0 b_1 (fun a0 => some a0)
def z9h {R : Type} (s_0 : Zt13) (text_1 : ByteArray) (kr0 : Int → Option R) : Option R :=
  ((Q265 s_0).bind fun r1 => (bif (!(decide (r1 = (0 : Int)))) then (kr0 (1 : Int)) else (bif (decide (((text_1).size : Int) < s_0.2.2.2.1)) then (kr0 (5 : Int)) else (bif (decide (s_0.2.2.2.2.1 < ((text_1).size : Int))) then (kr0 (5 : Int)) else ((Q15 s_0.2.1 text_1).bind fun r2 => (bif (decide ((0 : Int) ≤ r2)) then (kr0 (6 : Int)) else (bif (decide (s_0.2.1 = (6 : Int))) then ((Q279 text_1).bind fun r3 => (Sum.elim (fun (wr3 : Zt16) => (bif (!(decide (wr3.2.1 = (0 : Int)))) then (kr0 (13 : Int)) else (kr0 (0 : Int)))) (fun (wr3 : Zt16) => (bif (!(decide (wr3.2.1 = (0 : Int)))) then (kr0 (13 : Int)) else (kr0 (0 : Int)))) r3)) else (kr0 (0 : Int)))))))))
theorem z1a1 {R S : Type} (F : R → Option S) (s_0) (text_1) (kr0) : (z9h s_0 text_1 kr0).bind F = z9h s_0 text_1 (fun a0 => (kr0 a0).bind F) := by
  simp only [z9h, z8, z6, zd, z7, ze, zc]
def Q266 (s_0 : Zt13) (text_1 : ByteArray) : Option Int :=
  z9h s_0 text_1 (fun a0 => some a0)
end Groat
namespace Groat
open Go Go.Ref
def znr {R : Type} (style_0 : Int) (kr0 : Bool → Option R) : Option R :=
  (bif (decide (style_0 = (1 : Int))) then (kr0 true) else (kr0 (decide (style_0 = (2 : Int)))))
theorem z1ek {R S : Type} (F : R → Option S) (style_0) (kr0) : (znr style_0 kr0).bind F = znr style_0 (fun a0 => (kr0 a0).bind F) := by
  simp only [znr, z8, z6, zd, z7, ze, zc]
def Q14 (style_0 : Int) : Option Bool :=
  znr style_0 (fun a0 => some a0)
def zmd {R : Type} (style_0 : Int) (class_1 : Int) (kr0 : Int → Option R) : Option R :=
  (bif (decide (style_0 = (2 : Int))) then (bif (decide (class_1 = (1 : Int))) then (kr0 (1 : Int)) else (bif (decide (style_0 = (1 : Int))) then (bif (decide (class_1 = (5 : Int))) then (kr0 (2 : Int)) else (bif (decide (class_1 = (6 : Int))) then (kr0 (2 : Int)) else (kr0 (0 : Int)))) else (kr0 (0 : Int)))) else (bif (decide (style_0 = (1 : Int))) then (bif (decide (class_1 = (5 : Int))) then (kr0 (2 : Int)) else (bif (decide (class_1 = (6 : Int))) then (kr0 (2 : Int)) else (kr0 (0 : Int)))) else (kr0 (0 : Int))))
theorem z1e7 {R S : Type} (F : R → Option S) (style_0) (class_1) (kr0) : (zmd style_0 class_1 kr0).bind F = zmd style_0 class_1 (fun a0 => (kr0 a0).bind F) := by
  simp only [zmd, z8, z6, zd, z7, ze, zc]
def Q13 (style_0 : Int) (class_1 : Int) : Option Int :=
  zmd style_0 class_1 (fun a0 => some a0)
def zrn {R : Type} (style_0 : Int) (s_1 : Zt13) (b_2 : ByteArray) (at_3 : Int) (kr0 : ByteArray → Int → Int → Option R) : Option R :=
  ((Q14 style_0).bind fun r1 => (bif (!r1) then (kr0 (bs []) (0 : Int) (1 : Int)) else ((Q265 s_1).bind fun r2 => (bif (!(decide (r2 = (0 : Int)))) then (kr0 (bs []) (0 : Int) (1 : Int)) else (bif (decide (at_3 < (0 : Int))) then (kr0 (bs []) (0 : Int) (1 : Int)) else (bif (decide (((b_2).size : Int) < at_3)) then (kr0 (bs []) (0 : Int) (1 : Int)) else (bif (!(decide (s_1.2.2.1 = (1 : Int)))) then ((Q226 style_0 s_1.2.2.1 b_2 at_3).bind fun r3 => (bif (!(decide (r3.2.2 = (0 : Int)))) then (kr0 (bs []) (0 : Int) r3.2.2) else (bif (decide (r3.1 < s_1.2.2.2.1)) then (kr0 (bs []) (0 : Int) (5 : Int)) else (bif (decide (s_1.2.2.2.2.1 < r3.1)) then (kr0 (bs []) (0 : Int) (5 : Int)) else ((Q13 style_0 s_1.2.1).bind fun r4 => (bif (decide (r4 = (1 : Int))) then ((Q2 r3.1).bind fun r5 => (bif (decide ((IntKind.i64.wrap (((b_2).size : Int) - r3.2.1)) < r5)) then (kr0 (bs []) (0 : Int) (2 : Int)) else (bif (decide ((0 : Int) ≤ (IntKind.i64.wrap (r3.2.1 + r5)))) then (bif (decide ((IntKind.i64.wrap (r3.2.1 + r5)) ≤ (((b_2).size : Nat) : Int))) then (bif (decide ((0 : Int) ≤ r3.2.1)) then (bif (decide (r3.2.1 ≤ ((((IntKind.i64.wrap (r3.2.1 + r5))).toNat : Nat) : Int))) then ((Q13 style_0 s_1.2.1).bind fun r6 => (bif (decide (r6 = (1 : Int))) then ((Q0 ((b_2).extract (r3.2.1).toNat ((IntKind.i64.wrap (r3.2.1 + r5))).toNat) r3.1).bind fun r7 => (bif (!(decide (r7.2.1 = (0 : Int)))) then (kr0 (bs []) (0 : Int) r7.2.1) else ((Q266 s_1 r7.1).bind fun r8 => (bif (!(decide (r8 = (0 : Int)))) then (kr0 (bs []) (0 : Int) r8) else (kr0 r7.1 (IntKind.i64.wrap (r3.2.1 + r5)) (0 : Int)))))) else (bif (decide (r6 = (2 : Int))) then ((Q203 ((b_2).extract (r3.2.1).toNat ((IntKind.i64.wrap (r3.2.1 + r5))).toNat)).bind fun r9 => (bif (!r9.2.2) then (kr0 (bs []) (0 : Int) (3 : Int)) else ((Q266 s_1 r9.1).bind fun r10 => (bif (!(decide (r10 = (0 : Int)))) then (kr0 (bs []) (0 : Int) r10) else (kr0 r9.1 (IntKind.i64.wrap (r3.2.1 + r5)) (0 : Int)))))) else ((Q266 s_1 ((b_2).extract (r3.2.1).toNat ((IntKind.i64.wrap (r3.2.1 + r5))).toNat)).bind fun r11 => (bif (!(decide (r11 = (0 : Int)))) then (kr0 (bs []) (0 : Int) r11) else (kr0 ((b_2).extract (r3.2.1).toNat ((IntKind.i64.wrap (r3.2.1 + r5))).toNat) (IntKind.i64.wrap (r3.2.1 + r5)) (0 : Int))))))) else none) else none) else none) else none))) else (bif (decide (r4 = (2 : Int))) then (bif (decide ((IntKind.i64.wrap (((b_2).size : Int) - r3.2.1)) < (IntKind.i64.wrap ((2 : Int) * r3.1)))) then (kr0 (bs []) (0 : Int) (2 : Int)) else (bif (decide ((0 : Int) ≤ (IntKind.i64.wrap (r3.2.1 + (IntKind.i64.wrap ((2 : Int) * r3.1)))))) then (bif (decide ((IntKind.i64.wrap (r3.2.1 + (IntKind.i64.wrap ((2 : Int) * r3.1)))) ≤ (((b_2).size : Nat) : Int))) then (bif (decide ((0 : Int) ≤ r3.2.1)) then (bif (decide (r3.2.1 ≤ ((((IntKind.i64.wrap (r3.2.1 + (IntKind.i64.wrap ((2 : Int) * r3.1))))).toNat : Nat) : Int))) then ((Q13 style_0 s_1.2.1).bind fun r12 => (bif (decide (r12 = (1 : Int))) then ((Q0 ((b_2).extract (r3.2.1).toNat ((IntKind.i64.wrap (r3.2.1 + (IntKind.i64.wrap ((2 : Int) * r3.1))))).toNat) r3.1).bind fun r13 => (bif (!(decide (r13.2.1 = (0 : Int)))) then (kr0 (bs []) (0 : Int) r13.2.1) else ((Q266 s_1 r13.1).bind fun r14 => (bif (!(decide (r14 = (0 : Int)))) then (kr0 (bs []) (0 : Int) r14) else (kr0 r13.1 (IntKind.i64.wrap (r3.2.1 + (IntKind.i64.wrap ((2 : Int) * r3.1)))) (0 : Int)))))) else (bif (decide (r12 = (2 : Int))) then ((Q203 ((b_2).extract (r3.2.1).toNat ((IntKind.i64.wrap (r3.2.1 + (IntKind.i64.wrap ((2 : Int) * r3.1))))).toNat)).bind fun r15 => (bif (!r15.2.2) then (kr0 (bs []) (0 : Int) (3 : Int)) else ((Q266 s_1 r15.1).bind fun r16 => (bif (!(decide (r16 = (0 : Int)))) then (kr0 (bs []) (0 : Int) r16) else (kr0 r15.1 (IntKind.i64.wrap (r3.2.1 + (IntKind.i64.wrap ((2 : Int) * r3.1)))) (0 : Int)))))) else ((Q266 s_1 ((b_2).extract (r3.2.1).toNat ((IntKind.i64.wrap (r3.2.1 + (IntKind.i64.wrap ((2 : Int) * r3.1))))).toNat)).bind fun r17 => (bif (!(decide (r17 = (0 : Int)))) then (kr0 (bs []) (0 : Int) r17) else (kr0 ((b_2).extract (r3.2.1).toNat ((IntKind.i64.wrap (r3.2.1 + (IntKind.i64.wrap ((2 : Int) * r3.1))))).toNat) (IntKind.i64.wrap (r3.2.1 + (IntKind.i64.wrap ((2 : Int) * r3.1)))) (0 : Int))))))) else none) else none) else none) else none)) else (bif (decide ((IntKind.i64.wrap (((b_2).size : Int) - r3.2.1)) < r3.1)) then (kr0 (bs []) (0 : Int) (2 : Int)) else (bif (decide ((0 : Int) ≤ (IntKind.i64.wrap (r3.2.1 + r3.1)))) then (bif (decide ((IntKind.i64.wrap (r3.2.1 + r3.1)) ≤ (((b_2).size : Nat) : Int))) then (bif (decide ((0 : Int) ≤ r3.2.1)) then (bif (decide (r3.2.1 ≤ ((((IntKind.i64.wrap (r3.2.1 + r3.1))).toNat : Nat) : Int))) then ((Q13 style_0 s_1.2.1).bind fun r18 => (bif (decide (r18 = (1 : Int))) then ((Q0 ((b_2).extract (r3.2.1).toNat ((IntKind.i64.wrap (r3.2.1 + r3.1))).toNat) r3.1).bind fun r19 => (bif (!(decide (r19.2.1 = (0 : Int)))) then (kr0 (bs []) (0 : Int) r19.2.1) else ((Q266 s_1 r19.1).bind fun r20 => (bif (!(decide (r20 = (0 : Int)))) then (kr0 (bs []) (0 : Int) r20) else (kr0 r19.1 (IntKind.i64.wrap (r3.2.1 + r3.1)) (0 : Int)))))) else (bif (decide (r18 = (2 : Int))) then ((Q203 ((b_2).extract (r3.2.1).toNat ((IntKind.i64.wrap (r3.2.1 + r3.1))).toNat)).bind fun r21 => (bif (!r21.2.2) then (kr0 (bs []) (0 : Int) (3 : Int)) else ((Q266 s_1 r21.1).bind fun r22 => (bif (!(decide (r22 = (0 : Int)))) then (kr0 (bs []) (0 : Int) r22) else (kr0 r21.1 (IntKind.i64.wrap (r3.2.1 + r3.1)) (0 : Int)))))) else ((Q266 s_1 ((b_2).extract (r3.2.1).toNat ((IntKind.i64.wrap (r3.2.1 + r3.1))).toNat)).bind fun r23 => (bif (!(decide (r23 = (0 : Int)))) then (kr0 (bs []) (0 : Int) r23) else (kr0 ((b_2).extract (r3.2.1).toNat ((IntKind.i64.wrap (r3.2.1 + r3.1))).toNat) (IntKind.i64.wrap (r3.2.1 + r3.1)) (0 : Int))))))) else none) else none) else none) else none))))))))) else ((Q13 style_0 s_1.2.1).bind fun r24 => (bif (decide (r24 = (1 : Int))) then ((Q2 s_1.2.2.2.1).bind fun r25 => (bif (decide ((IntKind.i64.wrap (((b_2).size : Int) - at_3)) < r25)) then (kr0 (bs []) (0 : Int) (2 : Int)) else (bif (decide ((0 : Int) ≤ (IntKind.i64.wrap (at_3 + r25)))) then (bif (decide ((IntKind.i64.wrap (at_3 + r25)) ≤ (((b_2).size : Nat) : Int))) then (bif (decide ((0 : Int) ≤ at_3)) then (bif (decide (at_3 ≤ ((((IntKind.i64.wrap (at_3 + r25))).toNat : Nat) : Int))) then ((Q13 style_0 s_1.2.1).bind fun r26 => (bif (decide (r26 = (1 : Int))) then ((Q0 ((b_2).extract (at_3).toNat ((IntKind.i64.wrap (at_3 + r25))).toNat) s_1.2.2.2.1).bind fun r27 => (bif (!(decide (r27.2.1 = (0 : Int)))) then (kr0 (bs []) (0 : Int) r27.2.1) else ((Q266 s_1 r27.1).bind fun r28 => (bif (!(decide (r28 = (0 : Int)))) then (kr0 (bs []) (0 : Int) r28) else (kr0 r27.1 (IntKind.i64.wrap (at_3 + r25)) (0 : Int)))))) else (bif (decide (r26 = (2 : Int))) then ((Q203 ((b_2).extract (at_3).toNat ((IntKind.i64.wrap (at_3 + r25))).toNat)).bind fun r29 => (bif (!r29.2.2) then (kr0 (bs []) (0 : Int) (3 : Int)) else ((Q266 s_1 r29.1).bind fun r30 => (bif (!(decide (r30 = (0 : Int)))) then (kr0 (bs []) (0 : Int) r30) else (kr0 r29.1 (IntKind.i64.wrap (at_3 + r25)) (0 : Int)))))) else ((Q266 s_1 ((b_2).extract (at_3).toNat ((IntKind.i64.wrap (at_3 + r25))).toNat)).bind fun r31 => (bif (!(decide (r31 = (0 : Int)))) then (kr0 (bs []) (0 : Int) r31) else (kr0 ((b_2).extract (at_3).toNat ((IntKind.i64.wrap (at_3 + r25))).toNat) (IntKind.i64.wrap (at_3 + r25)) (0 : Int))))))) else none) else none) else none) else none))) else (bif (decide (r24 = (2 : Int))) then (bif (decide ((IntKind.i64.wrap (((b_2).size : Int) - at_3)) < (IntKind.i64.wrap ((2 : Int) * s_1.2.2.2.1)))) then (kr0 (bs []) (0 : Int) (2 : Int)) else (bif (decide ((0 : Int) ≤ (IntKind.i64.wrap (at_3 + (IntKind.i64.wrap ((2 : Int) * s_1.2.2.2.1)))))) then (bif (decide ((IntKind.i64.wrap (at_3 + (IntKind.i64.wrap ((2 : Int) * s_1.2.2.2.1)))) ≤ (((b_2).size : Nat) : Int))) then (bif (decide ((0 : Int) ≤ at_3)) then (bif (decide (at_3 ≤ ((((IntKind.i64.wrap (at_3 + (IntKind.i64.wrap ((2 : Int) * s_1.2.2.2.1))))).toNat : Nat) : Int))) then ((Q13 style_0 s_1.2.1).bind fun r32 => (bif (decide (r32 = (1 : Int))) then ((Q0 ((b_2).extract (at_3).toNat ((IntKind.i64.wrap (at_3 + (IntKind.i64.wrap ((2 : Int) * s_1.2.2.2.1))))).toNat) s_1.2.2.2.1).bind fun r33 => (bif (!(decide (r33.2.1 = (0 : Int)))) then (kr0 (bs []) (0 : Int) r33.2.1) else ((Q266 s_1 r33.1).bind fun r34 => (bif (!(decide (r34 = (0 : Int)))) then (kr0 (bs []) (0 : Int) r34) else (kr0 r33.1 (IntKind.i64.wrap (at_3 + (IntKind.i64.wrap ((2 : Int) * s_1.2.2.2.1)))) (0 : Int)))))) else (bif (decide (r32 = (2 : Int))) then ((Q203 ((b_2).extract (at_3).toNat ((IntKind.i64.wrap (at_3 + (IntKind.i64.wrap ((2 : Int) * s_1.2.2.2.1))))).toNat)).bind fun r35 => (bif (!r35.2.2) then (kr0 (bs []) (0 : Int) (3 : Int)) else ((Q266 s_1 r35.1).bind fun r36 => (bif (!(decide (r36 = (0 : Int)))) then (kr0 (bs []) (0 : Int) r36) else (kr0 r35.1 (IntKind.i64.wrap (at_3 + (IntKind.i64.wrap ((2 : Int) * s_1.2.2.2.1)))) (0 : Int)))))) else ((Q266 s_1 ((b_2).extract (at_3).toNat ((IntKind.i64.wrap (at_3 + (IntKind.i64.wrap ((2 : Int) * s_1.2.2.2.1))))).toNat)).bind fun r37 => (bif (!(decide (r37 = (0 : Int)))) then (kr0 (bs []) (0 : Int) r37) else (kr0 ((b_2).extract (at_3).toNat ((IntKind.i64.wrap (at_3 + (IntKind.i64.wrap ((2 : Int) * s_1.2.2.2.1))))).toNat) (IntKind.i64.wrap (at_3 + (IntKind.i64.wrap ((2 : Int) * s_1.2.2.2.1)))) (0 : Int))))))) else none) else none) else none) else none)) else (bif (decide ((IntKind.i64.wrap (((b_2).size : Int) - at_3)) < s_1.2.2.2.1)) then (kr0 (bs []) (0 : Int) (2 : Int)) else (bif (decide ((0 : Int) ≤ (IntKind.i64.wrap (at_3 + s_1.2.2.2.1)))) then (bif (decide ((IntKind.i64.wrap (at_3 + s_1.2.2.2.1)) ≤ (((b_2).size : Nat) : Int))) then (bif (decide ((0 : Int) ≤ at_3)) then (bif (decide (at_3 ≤ ((((IntKind.i64.wrap (at_3 + s_1.2.2.2.1))).toNat : Nat) : Int))) then ((Q13 style_0 s_1.2.1).bind fun r38 => (bif (decide (r38 = (1 : Int))) then ((Q0 ((b_2).extract (at_3).toNat ((IntKind.i64.wrap (at_3 + s_1.2.2.2.1))).toNat) s_1.2.2.2.1).bind fun r39 => (bif (!(decide (r39.2.1 = (0 : Int)))) then (kr0 (bs []) (0 : Int) r39.2.1) else ((Q266 s_1 r39.1).bind fun r40 => (bif (!(decide (r40 = (0 : Int)))) then (kr0 (bs []) (0 : Int) r40) else (kr0 r39.1 (IntKind.i64.wrap (at_3 + s_1.2.2.2.1)) (0 : Int)))))) else (bif (decide (r38 = (2 : Int))) then ((Q203 ((b_2).extract (at_3).toNat ((IntKind.i64.wrap (at_3 + s_1.2.2.2.1))).toNat)).bind fun r41 => (bif (!r41.2.2) then (kr0 (bs []) (0 : Int) (3 : Int)) else ((Q266 s_1 r41.1).bind fun r42 => (bif (!(decide (r42 = (0 : Int)))) then (kr0 (bs []) (0 : Int) r42) else (kr0 r41.1 (IntKind.i64.wrap (at_3 + s_1.2.2.2.1)) (0 : Int)))))) else ((Q266 s_1 ((b_2).extract (at_3).toNat ((IntKind.i64.wrap (at_3 + s_1.2.2.2.1))).toNat)).bind fun r43 => (bif (!(decide (r43 = (0 : Int)))) then (kr0 (bs []) (0 : Int) r43) else (kr0 ((b_2).extract (at_3).toNat ((IntKind.i64.wrap (at_3 + s_1.2.2.2.1))).toNat) (IntKind.i64.wrap (at_3 + s_1.2.2.2.1)) (0 : Int))))))) else none) else none) else none) else none))))))))))))
theorem z1e1 {R S : Type} (F : R → Option S) (style_0) (s_1) (b_2) (at_3) (kr0) : (zrn style_0 s_1 b_2 at_3 kr0).bind F = zrn style_0 s_1 b_2 at_3 (fun a0 a1 a2 => (kr0 a0 a1 a2).bind F) := by
  simp only [zrn, z8, z6, zd, z7, ze, zc]
def Q11 (style_0 : Int) (s_1 : Zt13) (b_2 : ByteArray) (at_3 : Int) : Option Zt7 :=
  zrn style_0 s_1 b_2 at_3 (fun a0 a1 a2 => some (a0, a1, a2))
def zti {R : Type} (style_0 : Int) (s_1 : Zt13) (text_2 : ByteArray) (kr0 : ByteArray → Int → Option R) : Option R :=
  ((Q14 style_0).bind fun r1 => (bif (!r1) then (kr0 (bs []) (1 : Int)) else ((Q266 s_1 text_2).bind fun r2 => (bif (!(decide (r2 = (0 : Int)))) then (kr0 (bs []) r2) else (bif (!(decide (s_1.2.2.1 = (1 : Int)))) then ((Q228 style_0 s_1.2.2.1 ((text_2).size : Int)).bind fun r3 => ((Q13 style_0 s_1.2.1).bind fun r4 => (bif (decide (r4 = (1 : Int))) then ((Q1 text_2).bind fun r5 => (bif decide ((r3.1).size + (r5.1).size ≤ 9223372036854775807) then (kr0 (r3.1 ++ r5.1) (0 : Int)) else none)) else (bif (decide (r4 = (2 : Int))) then ((Q204 text_2).bind fun r6 => (bif decide ((r3.1).size + (r6).size ≤ 9223372036854775807) then (kr0 (r3.1 ++ r6) (0 : Int)) else none)) else (bif decide ((r3.1).size + (text_2).size ≤ 9223372036854775807) then (kr0 (r3.1 ++ text_2) (0 : Int)) else none))))) else ((Q13 style_0 s_1.2.1).bind fun r7 => (bif (decide (r7 = (1 : Int))) then ((Q1 text_2).bind fun r8 => (bif decide (((bs [])).size + (r8.1).size ≤ 9223372036854775807) then (kr0 ((bs []) ++ r8.1) (0 : Int)) else none)) else (bif (decide (r7 = (2 : Int))) then ((Q204 text_2).bind fun r9 => (bif decide (((bs [])).size + (r9).size ≤ 9223372036854775807) then (kr0 ((bs []) ++ r9) (0 : Int)) else none)) else (bif decide (((bs [])).size + (text_2).size ≤ 9223372036854775807) then (kr0 ((bs []) ++ text_2) (0 : Int)) else none)))))))))
theorem z1dp {R S : Type} (F : R → Option S) (style_0) (s_1) (text_2) (kr0) : (zti style_0 s_1 text_2 kr0).bind F = zti style_0 s_1 text_2 (fun a0 a1 => (kr0 a0 a1).bind F) := by
  simp only [zti, z8, z6, zd, z7, ze, zc]
def Q12 (style_0 : Int) (s_1 : Zt13) (text_2 : ByteArray) : Option Zt2 :=
  zti style_0 s_1 text_2 (fun a0 a1 => some (a0, a1))
end Groat
namespace Groat
open Go Go.Ref
def zq5 {R : Type} (l_0 : Zt14) (text_1 : ByteArray) (go0 : ByteArray → Zt14 → Int → Int → Option R) : Option R :=
  (go0 text_1 l_0 ((List.length l_0) : Int) (0 : Int))
theorem zwr {R S : Type} (F : R → Option S) (l_0) (text_1) (go0) : (zq5 l_0 text_1 go0).bind F = zq5 l_0 text_1 (fun a0 a1 a2 a3 => (go0 a0 a1 a2 a3).bind F) := by
  simp only [zq5, z8, z6, zd, z7, ze, zc]
def zmw {R : Type} (text_1 : ByteArray) (t8 : Zt14) (t9 : Int) (t10 : Int) (ex0_0 : ByteArray → Bool → Option R) (nx0 : ByteArray → Zt14 → Int → Int → Option R) (ex0_1 : Option R) : Option R :=
  (bif (decide (t10 < t9)) then (zj t10 (List.length t8) (bif (decide ((List.getD t8 (t10).toNat ((bs []), (bs []), ())).1 = text_1)) then (ex0_0 (List.getD t8 (t10).toNat ((bs []), (bs []), ())).2.1 true) else (nx0 text_1 t8 t9 (IntKind.i64.wrap (t10 + (1 : Int)))))) else (ex0_1))
theorem zwg {R S : Type} (F : R → Option S) (text_1) (t8) (t9) (t10) (ex0_0) (nx0) (ex0_1) : (zmw text_1 t8 t9 t10 ex0_0 nx0 ex0_1).bind F = zmw text_1 t8 t9 t10 (fun a0 a1 => (ex0_0 a0 a1).bind F) (fun a0 a1 a2 a3 => (nx0 a0 a1 a2 a3).bind F) ((ex0_1).bind F) := by
  simp only [zmw, z8, z6, zd, z7, ze, zc]
def zms {R : Type} (t4 : ByteArray) (t5 : Bool) (kr0 : ByteArray → Bool → Option R) : Option R :=
  (kr0 t4 t5)
theorem zwx {R S : Type} (F : R → Option S) (t4) (t5) (kr0) : (zms t4 t5 kr0).bind F = zms t4 t5 (fun a0 a1 => (kr0 a0 a1).bind F) := by
  simp only [zms, z8, z6, zd, z7, ze, zc]
def zry {R : Type}  (kr0 : ByteArray → Bool → Option R) : Option R :=
  (kr0 (bs []) false)
theorem zxl {R S : Type} (F : R → Option S)  (kr0 : ByteArray → Bool → Option R) : (zry kr0).bind F = zry (fun a0 a1 => (kr0 a0 a1).bind F) := by
  simp only [zry, z8, z6, zd, z7, ze, zc]
def z11q : Nat → ByteArray → Zt14 → Int → Int → Option (Sum Zt4 Unit)
  | 0, _, _, _, _ => none
  | k + 1, v0, v1, v2, v3 => zmw v0 v1 v2 v3 (fun a0 a1 => some (.inl (a0, a1))) (fun a0 a1 a2 a3 => z11q k a0 a1 a2 a3) (some (.inr ()))
def Q20 (l_0 : Zt14) (text_1 : ByteArray) : Option Zt4 :=
  zq5 l_0 text_1 (fun a0 a1 a2 a3 => (z11q FUEL a0 a1 a2 a3).bind fun e => (Sum.elim (fun (we : Zt4) => zms we.1 we.2 (fun a0 a1 => some (a0, a1))) (fun (we : Unit) => zry (fun a0 a1 => some (a0, a1))) e))
def ze9 {R : Type} (l_0 : Zt14) (kr0 : Int → Int → Option R) (go0 : Zt14 → Int → Int → Zt9 → Option R) : Option R :=
  (bif (decide ((256 : Int) < ((List.length l_0) : Int))) then (kr0 (5 : Int) (256 : Int)) else (go0 l_0 ((List.length l_0) : Int) (0 : Int) ([] : List Zt4)))
theorem zwt {R S : Type} (F : R → Option S) (l_0) (kr0) (go0) : (ze9 l_0 kr0 go0).bind F = ze9 l_0 (fun a0 a1 => (kr0 a0 a1).bind F) (fun a0 a1 a2 a3 => (go0 a0 a1 a2 a3).bind F) := by
  simp only [ze9, z8, z6, zd, z7, ze, zc]
def zo0 {R : Type} (t11 : Zt14) (t12 : Int) (t13 : Int) (bt4 : Zt9) (ex0_0 : Int → Int → Option R) (nx0 : Zt14 → Int → Int → Zt9 → Option R) (ex0_1 : Option R) : Option R :=
  (bif (decide (t13 < t12)) then (zj t13 (List.length t11) (bif (mget (eqK .str) false bt4 (List.getD t11 (t13).toNat ((bs []), (bs []), ())).1) then (ex0_0 (10 : Int) t13) else (bif (mhas (eqK .str) bt4 (List.getD t11 (t13).toNat ((bs []), (bs []), ())).1) then none else (nx0 t11 t12 (IntKind.i64.wrap (t13 + (1 : Int))) (bt4 ++ [((List.getD t11 (t13).toNat ((bs []), (bs []), ())).1, true)]))))) else (ex0_1))
theorem zwu {R S : Type} (F : R → Option S) (t11) (t12) (t13) (bt4) (ex0_0) (nx0) (ex0_1) : (zo0 t11 t12 t13 bt4 ex0_0 nx0 ex0_1).bind F = zo0 t11 t12 t13 bt4 (fun a0 a1 => (ex0_0 a0 a1).bind F) (fun a0 a1 a2 a3 => (nx0 a0 a1 a2 a3).bind F) ((ex0_1).bind F) := by
  simp only [zo0, z8, z6, zd, z7, ze, zc]
def zkr {R : Type} (t2 : Int) (t3 : Int) (kr0 : Int → Int → Option R) : Option R :=
  (kr0 t2 t3)
theorem zxe {R S : Type} (F : R → Option S) (t2) (t3) (kr0) : (zkr t2 t3 kr0).bind F = zkr t2 t3 (fun a0 a1 => (kr0 a0 a1).bind F) := by
  simp only [zkr, z8, z6, zd, z7, ze, zc]
def zq8 {R : Type}  (kr0 : Int → Int → Option R) : Option R :=
  (kr0 (0 : Int) (0 : Int))
theorem zxf {R S : Type} (F : R → Option S)  (kr0 : Int → Int → Option R) : (zq8 kr0).bind F = zq8 (fun a0 a1 => (kr0 a0 a1).bind F) := by
  simp only [zq8, z8, z6, zd, z7, ze, zc]
def zp8 : Nat → Zt14 → Int → Int → Zt9 → Option (Sum (Int × Int) Unit)
  | 0, _, _, _, _ => none
  | k + 1, v0, v1, v2, v3 => zo0 v0 v1 v2 v3 (fun a0 a1 => some (.inl (a0, a1))) (fun a0 a1 a2 a3 => zp8 k a0 a1 a2 a3) (some (.inr ()))
def Q22 (l_0 : Zt14) : Option (Int × Int) :=
  ze9 l_0 (fun a0 a1 => some (a0, a1)) (fun a0 a1 a2 a3 => (zp8 FUEL a0 a1 a2 a3).bind fun e => (Sum.elim (fun (we : (Int × Int)) => zkr we.1 we.2 (fun a0 a1 => some (a0, a1))) (fun (we : Unit) => zq8 (fun a0 a1 => some (a0, a1))) e))
end Groat
namespace Groat
open Go Go.Ref
def zai {R : Type} (b_0 : Int) (kr0 : Bool → Option R) : Option R :=
  (bif (decide ((48 : Int) ≤ b_0)) then (kr0 (decide (b_0 ≤ (57 : Int)))) else (kr0 false))
theorem z1a2 {R S : Type} (F : R → Option S) (b_0) (kr0) : (zai b_0 kr0).bind F = zai b_0 (fun a0 => (kr0 a0).bind F) := by
  simp only [zai, z8, z6, zd, z7, ze, zc]
def Q104 (b_0 : Int) : Option Bool :=
  zai b_0 (fun a0 => some a0)
def z9o {R : Type} (s_0 : ByteArray) (go0 : ByteArray → Int → Option R) : Option R :=
  (go0 s_0 (0 : Int))
theorem znj {R S : Type} (F : R → Option S) (s_0) (go0) : (z9o s_0 go0).bind F = z9o s_0 (fun a0 a1 => (go0 a0 a1).bind F) := by
  simp only [z9o, z8, z6, zd, z7, ze, zc]
def za2 {R : Type} (s_0 : ByteArray) (t3 : Int) (ex0_0 : Bool → Option R) (nx0 : ByteArray → Int → Option R) (ex0_1 : Option R) : Option R :=
  (bif (decide (t3 < ((s_0).size : Int))) then (zj t3 (s_0).size ((Q104 (zn s_0 (t3).toNat)).bind fun r1 => (bif (!r1) then (ex0_0 false) else (nx0 s_0 (IntKind.i64.wrap (t3 + (1 : Int))))))) else (ex0_1))
theorem zth {R S : Type} (F : R → Option S) (s_0) (t3) (ex0_0) (nx0) (ex0_1) : (za2 s_0 t3 ex0_0 nx0 ex0_1).bind F = za2 s_0 t3 (fun a0 => (ex0_0 a0).bind F) (fun a0 a1 => (nx0 a0 a1).bind F) ((ex0_1).bind F) := by
  simp only [za2, z8, z6, zd, z7, ze, zc]
def zja {R : Type} (t2 : Bool) (kr0 : Bool → Option R) : Option R :=
  (kr0 t2)
theorem zqh {R S : Type} (F : R → Option S) (t2) (kr0) : (zja t2 kr0).bind F = zja t2 (fun a0 => (kr0 a0).bind F) := by
  simp only [zja, z8, z6, zd, z7, ze, zc]
def zfp {R : Type}  (kr0 : Bool → Option R) : Option R :=
  (kr0 true)
theorem zqx {R S : Type} (F : R → Option S)  (kr0 : Bool → Option R) : (zfp kr0).bind F = zfp (fun a0 => (kr0 a0).bind F) := by
  simp only [zfp, z8, z6, zd, z7, ze, zc]
def z9p : Nat → ByteArray → Int → Option (Sum Bool Unit)
  | 0, _, _ => none
  | k + 1, v0, v1 => za2 v0 v1 (fun a0 => some (.inl a0)) (fun a0 a1 => z9p k a0 a1) (some (.inr ()))
def Q103 (s_0 : ByteArray) : Option Bool :=
  z9o s_0 (fun a0 a1 => (z9p FUEL a0 a1).bind fun e => (Sum.elim (fun (we : Bool) => zja we (fun a0 => some a0)) (fun (we : Unit) => zfp (fun a0 => some a0)) e))
def zbn {R : Type} (s_0 : ByteArray) (kr0 : Int → Bool → Option R) (go0 : ByteArray → Int → Int → Option R) : Option R :=
  (bif (decide (((s_0).size : Int) < (1 : Int))) then (kr0 (0 : Int) false) else (bif (decide ((18 : Int) < ((s_0).size : Int))) then (kr0 (0 : Int) false) else ((Q103 s_0).bind fun r1 => (bif (!r1) then (kr0 (0 : Int) false) else (go0 s_0 (0 : Int) (0 : Int))))))
theorem zpl {R S : Type} (F : R → Option S) (s_0) (kr0) (go0) : (zbn s_0 kr0 go0).bind F = zbn s_0 (fun a0 a1 => (kr0 a0 a1).bind F) (fun a0 a1 a2 => (go0 a0 a1 a2).bind F) := by
  simp only [zbn, z8, z6, zd, z7, ze, zc]
def z9f {R : Type} (s_0 : ByteArray) (t4 : Int) (t5 : Int) (nx0 : ByteArray → Int → Int → Option R) (ex0_0 : Int → Option R) : Option R :=
  (bif (decide (t5 < ((s_0).size : Int))) then (zj t5 (s_0).size (nx0 s_0 (IntKind.i64.wrap ((IntKind.i64.wrap ((IntKind.i64.wrap ((10 : Int) * t4)) + (IntKind.i64.wrap (zn s_0 (t5).toNat)))) - (48 : Int))) (IntKind.i64.wrap (t5 + (1 : Int))))) else (ex0_0 t4))
theorem zqt {R S : Type} (F : R → Option S) (s_0) (t4) (t5) (nx0) (ex0_0) : (z9f s_0 t4 t5 nx0 ex0_0).bind F = z9f s_0 t4 t5 (fun a0 a1 a2 => (nx0 a0 a1 a2).bind F) (fun a0 => (ex0_0 a0).bind F) := by
  simp only [z9f, z8, z6, zd, z7, ze, zc]
def zhd {R : Type} (t4 : Int) (kr0 : Int → Bool → Option R) : Option R :=
  (kr0 t4 true)
theorem zoi {R S : Type} (F : R → Option S) (t4) (kr0) : (zhd t4 kr0).bind F = zhd t4 (fun a0 a1 => (kr0 a0 a1).bind F) := by
  simp only [zhd, z8, z6, zd, z7, ze, zc]
def zb7 : Nat → ByteArray → Int → Int → Option Int
  | 0, _, _, _ => none
  | k + 1, v0, v1, v2 => z9f v0 v1 v2 (fun a0 a1 a2 => zb7 k a0 a1 a2) (fun a0 => some a0)
def Q105 (s_0 : ByteArray) : Option (Int × Bool) :=
  zbn s_0 (fun a0 a1 => some (a0, a1)) (fun a0 a1 a2 => (zb7 FUEL a0 a1 a2).bind fun e => zhd e (fun a0 a1 => some (a0, a1)))
end Groat
namespace Groat
open Go Go.Ref
def z9m {R : Type} (l_0 : (List Int)) (n_1 : Int) (go0 : (List Int) → Int → Int → Option R) : Option R :=
  (go0 l_0 n_1 (0 : Int))
theorem zr5 {R S : Type} (F : R → Option S) (l_0) (n_1) (go0) : (z9m l_0 n_1 go0).bind F = z9m l_0 n_1 (fun a0 a1 a2 => (go0 a0 a1 a2).bind F) := by
  simp only [z9m, z8, z6, zd, z7, ze, zc]
def z8n {R : Type} (l_0 : (List Int)) (n_1 : Int) (t5 : Int) (ex0_0 : Bool → Option R) (nx0 : (List Int) → Int → Int → Option R) (ex0_1 : Option R) : Option R :=
  (bif (decide (t5 < ((List.length l_0) : Int))) then (zj t5 (List.length l_0) (bif (decide ((List.getD l_0 (t5).toNat (0 : Int)) = n_1)) then (ex0_0 true) else (nx0 l_0 n_1 (IntKind.i64.wrap (t5 + (1 : Int)))))) else (ex0_1))
theorem zkw {R S : Type} (F : R → Option S) (l_0) (n_1) (t5) (ex0_0) (nx0) (ex0_1) : (z8n l_0 n_1 t5 ex0_0 nx0 ex0_1).bind F = z8n l_0 n_1 t5 (fun a0 => (ex0_0 a0).bind F) (fun a0 a1 a2 => (nx0 a0 a1 a2).bind F) ((ex0_1).bind F) := by
  simp only [z8n, z8, z6, zd, z7, ze, zc]
def zev {R : Type} (t4 : Bool) (kr0 : Bool → Option R) : Option R :=
  (kr0 t4)
theorem zq4 {R S : Type} (F : R → Option S) (t4) (kr0) : (zev t4 kr0).bind F = zev t4 (fun a0 => (kr0 a0).bind F) := by
  simp only [zev, z8, z6, zd, z7, ze, zc]
def zel {R : Type}  (kr0 : Bool → Option R) : Option R :=
  (kr0 false)
theorem znu {R S : Type} (F : R → Option S)  (kr0 : Bool → Option R) : (zel kr0).bind F = zel (fun a0 => (kr0 a0).bind F) := by
  simp only [zel, z8, z6, zd, z7, ze, zc]
def z7u : Nat → (List Int) → Int → Int → Option (Sum Bool Unit)
  | 0, _, _, _ => none
  | k + 1, v0, v1, v2 => z8n v0 v1 v2 (fun a0 => some (.inl a0)) (fun a0 a1 a2 => z7u k a0 a1 a2) (some (.inr ()))
def Q118 (l_0 : (List Int)) (n_1 : Int) : Option Bool :=
  z9m l_0 n_1 (fun a0 a1 a2 => (z7u FUEL a0 a1 a2).bind fun e => (Sum.elim (fun (we : Bool) => zev we (fun a0 => some a0)) (fun (we : Unit) => zel (fun a0 => some a0)) e))
end Groat
namespace Groat
open Go Go.Ref
def z9w {R : Type} (class_0 : Int) (b_1 : Int) (kr0 : Bool → Option R) : Option R :=
  (bif (decide ((48 : Int) ≤ b_1)) then (bif (decide ((65 : Int) ≤ b_1)) then (bif (decide (b_1 ≤ (90 : Int))) then (bif (decide (class_0 = (1 : Int))) then (kr0 (decide (b_1 ≤ (57 : Int)))) else (bif (decide (class_0 = (2 : Int))) then (kr0 true) else (bif (decide (class_0 = (3 : Int))) then (bif (decide (b_1 ≤ (57 : Int))) then (kr0 true) else (kr0 true)) else (bif (decide (class_0 = (4 : Int))) then (bif (decide ((32 : Int) ≤ b_1)) then (kr0 (decide (b_1 ≤ (126 : Int)))) else (kr0 false)) else (bif (decide (class_0 = (5 : Int))) then (kr0 true) else (kr0 (decide (class_0 = (6 : Int))))))))) else (bif (decide ((97 : Int) ≤ b_1)) then (bif (decide (class_0 = (1 : Int))) then (kr0 (decide (b_1 ≤ (57 : Int)))) else (bif (decide (class_0 = (2 : Int))) then (kr0 (decide (b_1 ≤ (122 : Int)))) else (bif (decide (class_0 = (3 : Int))) then (bif (decide (b_1 ≤ (57 : Int))) then (kr0 true) else (kr0 (decide (b_1 ≤ (122 : Int))))) else (bif (decide (class_0 = (4 : Int))) then (bif (decide ((32 : Int) ≤ b_1)) then (kr0 (decide (b_1 ≤ (126 : Int)))) else (kr0 false)) else (bif (decide (class_0 = (5 : Int))) then (kr0 true) else (kr0 (decide (class_0 = (6 : Int))))))))) else (bif (decide (class_0 = (1 : Int))) then (kr0 (decide (b_1 ≤ (57 : Int)))) else (bif (decide (class_0 = (2 : Int))) then (kr0 false) else (bif (decide (class_0 = (3 : Int))) then (bif (decide (b_1 ≤ (57 : Int))) then (kr0 true) else (kr0 false)) else (bif (decide (class_0 = (4 : Int))) then (bif (decide ((32 : Int) ≤ b_1)) then (kr0 (decide (b_1 ≤ (126 : Int)))) else (kr0 false)) else (bif (decide (class_0 = (5 : Int))) then (kr0 true) else (kr0 (decide (class_0 = (6 : Int))))))))))) else (bif (decide ((97 : Int) ≤ b_1)) then (bif (decide (class_0 = (1 : Int))) then (kr0 (decide (b_1 ≤ (57 : Int)))) else (bif (decide (class_0 = (2 : Int))) then (kr0 (decide (b_1 ≤ (122 : Int)))) else (bif (decide (class_0 = (3 : Int))) then (bif (decide (b_1 ≤ (57 : Int))) then (kr0 true) else (kr0 (decide (b_1 ≤ (122 : Int))))) else (bif (decide (class_0 = (4 : Int))) then (bif (decide ((32 : Int) ≤ b_1)) then (kr0 (decide (b_1 ≤ (126 : Int)))) else (kr0 false)) else (bif (decide (class_0 = (5 : Int))) then (kr0 true) else (kr0 (decide (class_0 = (6 : Int))))))))) else (bif (decide (class_0 = (1 : Int))) then (kr0 (decide (b_1 ≤ (57 : Int)))) else (bif (decide (class_0 = (2 : Int))) then (kr0 false) else (bif (decide (class_0 = (3 : Int))) then (bif (decide (b_1 ≤ (57 : Int))) then (kr0 true) else (kr0 false)) else (bif (decide (class_0 = (4 : Int))) then (bif (decide ((32 : Int) ≤ b_1)) then (kr0 (decide (b_1 ≤ (126 : Int)))) else (kr0 false)) else (bif (decide (class_0 = (5 : Int))) then (kr0 true) else (kr0 (decide (class_0 = (6 : Int))))))))))) else (bif (decide ((65 : Int) ≤ b_1)) then (bif (decide (b_1 ≤ (90 : Int))) then (bif (decide (class_0 = (1 : Int))) then (kr0 false) else (bif (decide (class_0 = (2 : Int))) then (kr0 true) else (bif (decide (class_0 = (3 : Int))) then (kr0 true) else (bif (decide (class_0 = (4 : Int))) then (bif (decide ((32 : Int) ≤ b_1)) then (kr0 (decide (b_1 ≤ (126 : Int)))) else (kr0 false)) else (bif (decide (class_0 = (5 : Int))) then (kr0 true) else (kr0 (decide (class_0 = (6 : Int))))))))) else (bif (decide ((97 : Int) ≤ b_1)) then (bif (decide (class_0 = (1 : Int))) then (kr0 false) else (bif (decide (class_0 = (2 : Int))) then (kr0 (decide (b_1 ≤ (122 : Int)))) else (bif (decide (class_0 = (3 : Int))) then (kr0 (decide (b_1 ≤ (122 : Int)))) else (bif (decide (class_0 = (4 : Int))) then (bif (decide ((32 : Int) ≤ b_1)) then (kr0 (decide (b_1 ≤ (126 : Int)))) else (kr0 false)) else (bif (decide (class_0 = (5 : Int))) then (kr0 true) else (kr0 (decide (class_0 = (6 : Int))))))))) else (bif (decide (class_0 = (1 : Int))) then (kr0 false) else (bif (decide (class_0 = (2 : Int))) then (kr0 false) else (bif (decide (class_0 = (3 : Int))) then (kr0 false) else (bif (decide (class_0 = (4 : Int))) then (bif (decide ((32 : Int) ≤ b_1)) then (kr0 (decide (b_1 ≤ (126 : Int)))) else (kr0 false)) else (bif (decide (class_0 = (5 : Int))) then (kr0 true) else (kr0 (decide (class_0 = (6 : Int))))))))))) else (bif (decide ((97 : Int) ≤ b_1)) then (bif (decide (class_0 = (1 : Int))) then (kr0 false) else (bif (decide (class_0 = (2 : Int))) then (kr0 (decide (b_1 ≤ (122 : Int)))) else (bif (decide (class_0 = (3 : Int))) then (kr0 (decide (b_1 ≤ (122 : Int)))) else (bif (decide (class_0 = (4 : Int))) then (bif (decide ((32 : Int) ≤ b_1)) then (kr0 (decide (b_1 ≤ (126 : Int)))) else (kr0 false)) else (bif (decide (class_0 = (5 : Int))) then (kr0 true) else (kr0 (decide (class_0 = (6 : Int))))))))) else (bif (decide (class_0 = (1 : Int))) then (kr0 false) else (bif (decide (class_0 = (2 : Int))) then (kr0 false) else (bif (decide (class_0 = (3 : Int))) then (kr0 false) else (bif (decide (class_0 = (4 : Int))) then (bif (decide ((32 : Int) ≤ b_1)) then (kr0 (decide (b_1 ≤ (126 : Int)))) else (kr0 false)) else (bif (decide (class_0 = (5 : Int))) then (kr0 true) else (kr0 (decide (class_0 = (6 : Int))))))))))))
theorem z195 {R S : Type} (F : R → Option S) (class_0) (b_1) (kr0) : (z9w class_0 b_1 kr0).bind F = z9w class_0 b_1 (fun a0 => (kr0 a0).bind F) := by
  simp only [z9w, z8, z6, zd, z7, ze, zc]
def Q114 (class_0 : Int) (b_1 : Int) : Option Bool :=
  z9w class_0 b_1 (fun a0 => some a0)
def zad {R : Type} (a_0 : Int) (b_1 : Int) (kr0 : Bool → Option R) (go0 : Int → Int → Int → Option R) : Option R :=
  (bif (decide (a_0 < (1 : Int))) then (kr0 false) else (bif (decide ((6 : Int) < a_0)) then (kr0 false) else (bif (decide (b_1 < (1 : Int))) then (kr0 false) else (bif (decide ((6 : Int) < b_1)) then (kr0 false) else (go0 a_0 b_1 (0 : Int))))))
theorem zoy {R S : Type} (F : R → Option S) (a_0) (b_1) (kr0) (go0) : (zad a_0 b_1 kr0 go0).bind F = zad a_0 b_1 (fun a0 => (kr0 a0).bind F) (fun a0 a1 a2 => (go0 a0 a1 a2).bind F) := by
  simp only [zad, z8, z6, zd, z7, ze, zc]
def zg2 {R : Type} (a_0 : Int) (b_1 : Int) (t5 : Int) (ex0_0 : Bool → Option R) (nx0 : Int → Int → Int → Option R) (ex0_1 : Option R) : Option R :=
  (bif (decide (t5 < (256 : Int))) then ((Q114 b_1 (IntKind.u8.wrap t5)).bind fun r1 => (bif r1 then ((Q114 a_0 (IntKind.u8.wrap t5)).bind fun r2 => (bif (!r2) then (ex0_0 false) else (nx0 a_0 b_1 (IntKind.i64.wrap (t5 + (1 : Int)))))) else (nx0 a_0 b_1 (IntKind.i64.wrap (t5 + (1 : Int)))))) else (ex0_1))
theorem zqq {R S : Type} (F : R → Option S) (a_0) (b_1) (t5) (ex0_0) (nx0) (ex0_1) : (zg2 a_0 b_1 t5 ex0_0 nx0 ex0_1).bind F = zg2 a_0 b_1 t5 (fun a0 => (ex0_0 a0).bind F) (fun a0 a1 a2 => (nx0 a0 a1 a2).bind F) ((ex0_1).bind F) := by
  simp only [zg2, z8, z6, zd, z7, ze, zc]
def zj1 {R : Type} (t4 : Bool) (kr0 : Bool → Option R) : Option R :=
  (kr0 t4)
theorem zrs {R S : Type} (F : R → Option S) (t4) (kr0) : (zj1 t4 kr0).bind F = zj1 t4 (fun a0 => (kr0 a0).bind F) := by
  simp only [zj1, z8, z6, zd, z7, ze, zc]
def zhn {R : Type}  (kr0 : Bool → Option R) : Option R :=
  (kr0 true)
theorem zqk {R S : Type} (F : R → Option S)  (kr0 : Bool → Option R) : (zhn kr0).bind F = zhn (fun a0 => (kr0 a0).bind F) := by
  simp only [zhn, z8, z6, zd, z7, ze, zc]
def zw2 : Nat → Int → Int → Int → Option (Sum Bool Unit)
  | 0, _, _, _ => none
  | k + 1, v0, v1, v2 => zg2 v0 v1 v2 (fun a0 => some (.inl a0)) (fun a0 a1 a2 => zw2 k a0 a1 a2) (some (.inr ()))
def Q115 (a_0 : Int) (b_1 : Int) : Option Bool :=
  zad a_0 b_1 (fun a0 => some a0) (fun a0 a1 a2 => (zw2 FUEL a0 a1 a2).bind fun e => (Sum.elim (fun (we : Bool) => zj1 we (fun a0 => some a0)) (fun (we : Unit) => zhn (fun a0 => some a0)) e))
def zak {R : Type} (class_0 : Int) (s_1 : ByteArray) (go0 : Int → ByteArray → Int → Option R) : Option R :=
  (go0 class_0 s_1 (0 : Int))
theorem zrq {R S : Type} (F : R → Option S) (class_0) (s_1) (go0) : (zak class_0 s_1 go0).bind F = zak class_0 s_1 (fun a0 a1 a2 => (go0 a0 a1 a2).bind F) := by
  simp only [zak, z8, z6, zd, z7, ze, zc]
def z8m {R : Type} (class_0 : Int) (s_1 : ByteArray) (t5 : Int) (ex0_0 : Int → Option R) (nx0 : Int → ByteArray → Int → Option R) (ex0_1 : Option R) : Option R :=
  (bif (decide (t5 < ((s_1).size : Int))) then (zj t5 (s_1).size ((Q114 class_0 (zn s_1 (t5).toNat)).bind fun r1 => (bif (!r1) then (ex0_0 t5) else (nx0 class_0 s_1 (IntKind.i64.wrap (t5 + (1 : Int))))))) else (ex0_1))
theorem zox {R S : Type} (F : R → Option S) (class_0) (s_1) (t5) (ex0_0) (nx0) (ex0_1) : (z8m class_0 s_1 t5 ex0_0 nx0 ex0_1).bind F = z8m class_0 s_1 t5 (fun a0 => (ex0_0 a0).bind F) (fun a0 a1 a2 => (nx0 a0 a1 a2).bind F) ((ex0_1).bind F) := by
  simp only [z8m, z8, z6, zd, z7, ze, zc]
def zdw {R : Type} (t4 : Int) (kr0 : Int → Option R) : Option R :=
  (kr0 t4)
theorem zos {R S : Type} (F : R → Option S) (t4) (kr0) : (zdw t4 kr0).bind F = zdw t4 (fun a0 => (kr0 a0).bind F) := by
  simp only [zdw, z8, z6, zd, z7, ze, zc]
def zic {R : Type}  (kr0 : Int → Option R) : Option R :=
  (kr0 (-1 : Int))
theorem zt5 {R S : Type} (F : R → Option S)  (kr0 : Int → Option R) : (zic kr0).bind F = zic (fun a0 => (kr0 a0).bind F) := by
  simp only [zic, z8, z6, zd, z7, ze, zc]
def z8f : Nat → Int → ByteArray → Int → Option (Sum Int Unit)
  | 0, _, _, _ => none
  | k + 1, v0, v1, v2 => z8m v0 v1 v2 (fun a0 => some (.inl a0)) (fun a0 a1 a2 => z8f k a0 a1 a2) (some (.inr ()))
def Q113 (class_0 : Int) (s_1 : ByteArray) : Option Int :=
  zak class_0 s_1 (fun a0 a1 a2 => (z8f FUEL a0 a1 a2).bind fun e => (Sum.elim (fun (we : Int) => zdw we (fun a0 => some a0)) (fun (we : Unit) => zic (fun a0 => some a0)) e))
end Groat
namespace Groat
open Go Go.Ref
def zg1 {R : Type} (b_0 : Int) (kr0 : Int → Option R) : Option R :=
  (bif (decide (b_0 = (0 : Int))) then (kr0 (0 : Int)) else (bif (decide ((Int.tmod (IntKind.u8.wrap (Int.tdiv b_0 (32 : Int))) (2 : Int)) = (1 : Int))) then (kr0 (0 : Int)) else (bif (decide ((Int.tmod b_0 (32 : Int)) = (31 : Int))) then (kr0 (2 : Int)) else (kr0 (1 : Int)))))
theorem z1d1 {R S : Type} (F : R → Option S) (b_0) (kr0) : (zg1 b_0 kr0).bind F = zg1 b_0 (fun a0 => (kr0 a0).bind F) := by
  simp only [zg1, z8, z6, zd, z7, ze, zc]
def Q128 (b_0 : Int) : Option Int :=
  zg1 b_0 (fun a0 => some a0)
def z7w {R : Type} (b_0 : ByteArray) (at_1 : Int) (kr0 : Int → Int → Int → Option R) : Option R :=
  (bif (decide (at_1 < (0 : Int))) then (kr0 (0 : Int) (0 : Int) (1 : Int)) else (bif (decide (((b_0).size : Int) < at_1)) then (kr0 (0 : Int) (0 : Int) (1 : Int)) else (bif (decide (at_1 = ((b_0).size : Int))) then (kr0 (0 : Int) (0 : Int) (2 : Int)) else (zj at_1 (b_0).size ((Q128 (zn b_0 (at_1).toNat)).bind fun r1 => (bif (decide (r1 = (0 : Int))) then (kr0 (0 : Int) (0 : Int) (13 : Int)) else (bif (decide (r1 = (1 : Int))) then (zj at_1 (b_0).size (kr0 (IntKind.i64.wrap (zn b_0 (at_1).toNat)) (IntKind.i64.wrap (at_1 + (1 : Int))) (0 : Int))) else (bif (decide ((IntKind.i64.wrap (((b_0).size : Int) - at_1)) < (2 : Int))) then (kr0 (0 : Int) (0 : Int) (2 : Int)) else (zj (IntKind.i64.wrap (at_1 + (1 : Int))) (b_0).size (bif (decide ((zn b_0 ((IntKind.i64.wrap (at_1 + (1 : Int)))).toNat) = (0 : Int))) then (kr0 (0 : Int) (0 : Int) (13 : Int)) else (zj (IntKind.i64.wrap (at_1 + (1 : Int))) (b_0).size (bif (decide ((127 : Int) < (zn b_0 ((IntKind.i64.wrap (at_1 + (1 : Int)))).toNat))) then (kr0 (0 : Int) (0 : Int) (13 : Int)) else (zj at_1 (b_0).size (zj (IntKind.i64.wrap (at_1 + (1 : Int))) (b_0).size (kr0 (IntKind.i64.wrap ((IntKind.i64.wrap ((256 : Int) * (IntKind.i64.wrap (zn b_0 (at_1).toNat)))) + (IntKind.i64.wrap (zn b_0 ((IntKind.i64.wrap (at_1 + (1 : Int)))).toNat)))) (IntKind.i64.wrap (at_1 + (2 : Int))) (0 : Int))))))))))))))))
theorem z1dd {R S : Type} (F : R → Option S) (b_0) (at_1) (kr0) : (z7w b_0 at_1 kr0).bind F = z7w b_0 at_1 (fun a0 a1 a2 => (kr0 a0 a1 a2).bind F) := by
  simp only [z7w, z8, z6, zd, z7, ze, zc]
def Q129 (b_0 : ByteArray) (at_1 : Int) : Option Zt1 :=
  z7w b_0 at_1 (fun a0 a1 a2 => some (a0, a1, a2))
end Groat
namespace Groat
open Go Go.Ref
def z8z {R : Type} (b_0 : ByteArray) (at_1 : Int) (kr0 : Int → Int → Int → Option R) : Option R :=
  (bif (decide (at_1 < (0 : Int))) then (kr0 (0 : Int) (0 : Int) (1 : Int)) else (bif (decide (((b_0).size : Int) < at_1)) then (kr0 (0 : Int) (0 : Int) (1 : Int)) else (bif (decide (at_1 = ((b_0).size : Int))) then (kr0 (0 : Int) (0 : Int) (2 : Int)) else (zj at_1 (b_0).size (bif (decide ((IntKind.i64.wrap (zn b_0 (at_1).toNat)) < (128 : Int))) then (kr0 (IntKind.i64.wrap (zn b_0 (at_1).toNat)) (IntKind.i64.wrap (at_1 + (1 : Int))) (0 : Int)) else (bif (!(decide ((IntKind.i64.wrap (zn b_0 (at_1).toNat)) = (129 : Int)))) then (bif (!(decide ((IntKind.i64.wrap (zn b_0 (at_1).toNat)) = (130 : Int)))) then (kr0 (0 : Int) (0 : Int) (14 : Int)) else (bif (decide ((IntKind.i64.wrap (((b_0).size : Int) - at_1)) < (IntKind.i64.wrap ((IntKind.i64.wrap (zn b_0 (at_1).toNat)) - (127 : Int))))) then (kr0 (0 : Int) (0 : Int) (2 : Int)) else (bif (decide ((IntKind.i64.wrap (zn b_0 (at_1).toNat)) = (129 : Int))) then (zj (IntKind.i64.wrap (at_1 + (1 : Int))) (b_0).size (bif (decide ((zn b_0 ((IntKind.i64.wrap (at_1 + (1 : Int)))).toNat) < (128 : Int))) then (kr0 (0 : Int) (0 : Int) (14 : Int)) else (zj (IntKind.i64.wrap (at_1 + (1 : Int))) (b_0).size (kr0 (IntKind.i64.wrap (zn b_0 ((IntKind.i64.wrap (at_1 + (1 : Int)))).toNat)) (IntKind.i64.wrap (at_1 + (2 : Int))) (0 : Int))))) else (zj (IntKind.i64.wrap (at_1 + (1 : Int))) (b_0).size (bif (decide ((zn b_0 ((IntKind.i64.wrap (at_1 + (1 : Int)))).toNat) = (0 : Int))) then (kr0 (0 : Int) (0 : Int) (14 : Int)) else (zj (IntKind.i64.wrap (at_1 + (1 : Int))) (b_0).size (zj (IntKind.i64.wrap (at_1 + (2 : Int))) (b_0).size (kr0 (IntKind.i64.wrap ((IntKind.i64.wrap ((256 : Int) * (IntKind.i64.wrap (zn b_0 ((IntKind.i64.wrap (at_1 + (1 : Int)))).toNat)))) + (IntKind.i64.wrap (zn b_0 ((IntKind.i64.wrap (at_1 + (2 : Int)))).toNat)))) (IntKind.i64.wrap (at_1 + (3 : Int))) (0 : Int))))))))) else (bif (decide ((IntKind.i64.wrap (((b_0).size : Int) - at_1)) < (IntKind.i64.wrap ((IntKind.i64.wrap (zn b_0 (at_1).toNat)) - (127 : Int))))) then (kr0 (0 : Int) (0 : Int) (2 : Int)) else (bif (decide ((IntKind.i64.wrap (zn b_0 (at_1).toNat)) = (129 : Int))) then (zj (IntKind.i64.wrap (at_1 + (1 : Int))) (b_0).size (bif (decide ((zn b_0 ((IntKind.i64.wrap (at_1 + (1 : Int)))).toNat) < (128 : Int))) then (kr0 (0 : Int) (0 : Int) (14 : Int)) else (zj (IntKind.i64.wrap (at_1 + (1 : Int))) (b_0).size (kr0 (IntKind.i64.wrap (zn b_0 ((IntKind.i64.wrap (at_1 + (1 : Int)))).toNat)) (IntKind.i64.wrap (at_1 + (2 : Int))) (0 : Int))))) else (zj (IntKind.i64.wrap (at_1 + (1 : Int))) (b_0).size (bif (decide ((zn b_0 ((IntKind.i64.wrap (at_1 + (1 : Int)))).toNat) = (0 : Int))) then (kr0 (0 : Int) (0 : Int) (14 : Int)) else (zj (IntKind.i64.wrap (at_1 + (1 : Int))) (b_0).size (zj (IntKind.i64.wrap (at_1 + (2 : Int))) (b_0).size (kr0 (IntKind.i64.wrap ((IntKind.i64.wrap ((256 : Int) * (IntKind.i64.wrap (zn b_0 ((IntKind.i64.wrap (at_1 + (1 : Int)))).toNat)))) + (IntKind.i64.wrap (zn b_0 ((IntKind.i64.wrap (at_1 + (2 : Int)))).toNat)))) (IntKind.i64.wrap (at_1 + (3 : Int))) (0 : Int))))))))))))))
theorem z17a {R S : Type} (F : R → Option S) (b_0) (at_1) (kr0) : (z8z b_0 at_1 kr0).bind F = z8z b_0 at_1 (fun a0 a1 a2 => (kr0 a0 a1 a2).bind F) := by
  simp only [z8z, z8, z6, zd, z7, ze, zc]
def Q130 (b_0 : ByteArray) (at_1 : Int) : Option Zt1 :=
  z8z b_0 at_1 (fun a0 a1 a2 => some (a0, a1, a2))
end Groat
namespace Groat
open Go Go.Ref
def zbs {R : Type} (l_0 : Zt11) (n_1 : Int) (tag_2 : Int) (go0 : Zt11 → Int → Int → Int → Option R) : Option R :=
  (go0 l_0 n_1 tag_2 (0 : Int))
theorem zo6 {R S : Type} (F : R → Option S) (l_0) (n_1) (tag_2) (go0) : (zbs l_0 n_1 tag_2 go0).bind F = zbs l_0 n_1 tag_2 (fun a0 a1 a2 a3 => (go0 a0 a1 a2 a3).bind F) := by
  simp only [zbs, z8, z6, zd, z7, ze, zc]
def z8y {R : Type} (l_0 : Zt11) (n_1 : Int) (tag_2 : Int) (t7 : Int) (ex0_0 : Bool → Option R) (nx0 : Zt11 → Int → Int → Int → Option R) (ex0_1 : Option R) : Option R :=
  (bif (decide (t7 < n_1)) then (zj t7 (List.length l_0) (bif (decide ((List.getD l_0 (t7).toNat ((0 : Int), (bs []), ())).1 = tag_2)) then (ex0_0 true) else (nx0 l_0 n_1 tag_2 (IntKind.i64.wrap (t7 + (1 : Int)))))) else (ex0_1))
theorem zt9 {R S : Type} (F : R → Option S) (l_0) (n_1) (tag_2) (t7) (ex0_0) (nx0) (ex0_1) : (z8y l_0 n_1 tag_2 t7 ex0_0 nx0 ex0_1).bind F = z8y l_0 n_1 tag_2 t7 (fun a0 => (ex0_0 a0).bind F) (fun a0 a1 a2 a3 => (nx0 a0 a1 a2 a3).bind F) ((ex0_1).bind F) := by
  simp only [z8y, z8, z6, zd, z7, ze, zc]
def zhq {R : Type} (t6 : Bool) (kr0 : Bool → Option R) : Option R :=
  (kr0 t6)
theorem zob {R S : Type} (F : R → Option S) (t6) (kr0) : (zhq t6 kr0).bind F = zhq t6 (fun a0 => (kr0 a0).bind F) := by
  simp only [zhq, z8, z6, zd, z7, ze, zc]
def zgx {R : Type}  (kr0 : Bool → Option R) : Option R :=
  (kr0 false)
theorem zsk {R S : Type} (F : R → Option S)  (kr0 : Bool → Option R) : (zgx kr0).bind F = zgx (fun a0 => (kr0 a0).bind F) := by
  simp only [zgx, z8, z6, zd, z7, ze, zc]
def z8l : Nat → Zt11 → Int → Int → Int → Option (Sum Bool Unit)
  | 0, _, _, _, _ => none
  | k + 1, v0, v1, v2, v3 => z8y v0 v1 v2 v3 (fun a0 => some (.inl a0)) (fun a0 a1 a2 a3 => z8l k a0 a1 a2 a3) (some (.inr ()))
def Q132 (l_0 : Zt11) (n_1 : Int) (tag_2 : Int) : Option Bool :=
  zbs l_0 n_1 tag_2 (fun a0 a1 a2 a3 => (z8l FUEL a0 a1 a2 a3).bind fun e => (Sum.elim (fun (we : Bool) => zhq we (fun a0 => some a0)) (fun (we : Unit) => zgx (fun a0 => some a0)) e))
def z8i {R : Type} (b_0 : ByteArray) (go0 : ByteArray → Zt11 → Int → Option R) : Option R :=
  (go0 b_0 ([] : List Zt8) (0 : Int))
theorem zt4 {R S : Type} (F : R → Option S) (b_0) (go0) : (z8i b_0 go0).bind F = z8i b_0 (fun a0 a1 a2 => (go0 a0 a1 a2).bind F) := by
  simp only [z8i, z8, z6, zd, z7, ze, zc]
def z86 {R : Type} (b_0 : ByteArray) (t5 : Zt11) (t6 : Int) (ex0_0 : Zt11 → Int → Int → Zt11 → Option R) (nx0 : ByteArray → Zt11 → Int → Option R) (ex0_1 : Zt11 → Option R) : Option R :=
  (bif (decide (t6 < ((b_0).size : Int))) then ((Q129 b_0 t6).bind fun r1 => (bif (!(decide (r1.2.2 = (0 : Int)))) then (ex0_0 ([] : List Zt8) r1.2.2 t6 t5) else ((Q130 b_0 r1.2.1).bind fun r2 => (bif (!(decide (r2.2.2 = (0 : Int)))) then (ex0_0 ([] : List Zt8) r2.2.2 r1.2.1 t5) else (bif (decide ((IntKind.i64.wrap (((b_0).size : Int) - r2.2.1)) < r2.1)) then (ex0_0 ([] : List Zt8) (2 : Int) ((b_0).size : Int) t5) else ((Q132 t5 ((List.length t5) : Int) r1.1).bind fun r3 => (bif r3 then (ex0_0 ([] : List Zt8) (10 : Int) t6 t5) else (bif (decide ((0 : Int) ≤ (IntKind.i64.wrap (r2.2.1 + r2.1)))) then (bif (decide ((IntKind.i64.wrap (r2.2.1 + r2.1)) ≤ (((b_0).size : Nat) : Int))) then (bif (decide ((0 : Int) ≤ r2.2.1)) then (bif (decide (r2.2.1 ≤ ((((IntKind.i64.wrap (r2.2.1 + r2.1))).toNat : Nat) : Int))) then (bif (decide (((List.length t5) + (List.length ([(r1.1, ((b_0).extract (r2.2.1).toNat ((IntKind.i64.wrap (r2.2.1 + r2.1))).toNat), ())] : List Zt8))) * 24 ≤ 140737488355328)) then (nx0 b_0 (t5 ++ ([(r1.1, ((b_0).extract (r2.2.1).toNat ((IntKind.i64.wrap (r2.2.1 + r2.1))).toNat), ())] : List Zt8)) (IntKind.i64.wrap (r2.2.1 + r2.1))) else none) else none) else none) else none) else none)))))))) else (ex0_1 t5))
theorem zpv {R S : Type} (F : R → Option S) (b_0) (t5) (t6) (ex0_0) (nx0) (ex0_1) : (z86 b_0 t5 t6 ex0_0 nx0 ex0_1).bind F = z86 b_0 t5 t6 (fun a0 a1 a2 a3 => (ex0_0 a0 a1 a2 a3).bind F) (fun a0 a1 a2 => (nx0 a0 a1 a2).bind F) (fun a0 => (ex0_1 a0).bind F) := by
  simp only [z86, z8, z6, zd, z7, ze, zc]
def zhj {R : Type} (t2 : Zt11) (t3 : Int) (t4 : Int) (t5 : Zt11) (kr0 : Zt11 → Int → Int → Option R) : Option R :=
  (kr0 t2 t3 t4)
theorem zs6 {R S : Type} (F : R → Option S) (t2) (t3) (t4) (t5) (kr0) : (zhj t2 t3 t4 t5 kr0).bind F = zhj t2 t3 t4 t5 (fun a0 a1 a2 => (kr0 a0 a1 a2).bind F) := by
  simp only [zhj, z8, z6, zd, z7, ze, zc]
def zgg {R : Type} (t5 : Zt11) (kr1 : Zt11 → Int → Int → Option R) : Option R :=
  (kr1 t5 (0 : Int) (0 : Int))
theorem zo5 {R S : Type} (F : R → Option S) (t5) (kr1) : (zgg t5 kr1).bind F = zgg t5 (fun a0 a1 a2 => (kr1 a0 a1 a2).bind F) := by
  simp only [zgg, z8, z6, zd, z7, ze, zc]
def z63 : Nat → ByteArray → Zt11 → Int → Option (Sum Zt21 Zt11)
  | 0, _, _, _ => none
  | k + 1, v0, v1, v2 => z86 v0 v1 v2 (fun a0 a1 a2 a3 => some (.inl (a0, a1, a2, a3))) (fun a0 a1 a2 => z63 k a0 a1 a2) (fun a0 => some (.inr a0))
def Q131 (b_0 : ByteArray) : Option (Sum Zt16 Zt16) :=
  z8i b_0 (fun a0 a1 a2 => (z63 FUEL a0 a1 a2).bind fun e => (Sum.elim (fun (we : Zt21) => zhj we.1 we.2.1 we.2.2.1 we.2.2.2 (fun a0 a1 a2 => some (.inl (a0, a1, a2)))) (fun (we : Zt11) => zgg we (fun a0 a1 a2 => some (.inr (a0, a1, a2)))) e))
end Groat
namespace Groat
open Go Go.Ref
def zah {R : Type} (s_0 : Zt13) (kr0 : Int → Option R) : Option R :=
  (bif (decide (s_0.1 < (2 : Int))) then (kr0 (1 : Int)) else (bif (decide ((128 : Int) < s_0.1)) then (kr0 (1 : Int)) else (bif (decide (s_0.2.1 < (1 : Int))) then (kr0 (6 : Int)) else (bif (decide ((6 : Int) < s_0.2.1)) then (kr0 (6 : Int)) else (bif (decide (s_0.2.2.1 < (1 : Int))) then (kr0 (3 : Int)) else (bif (decide ((3 : Int) < s_0.2.2.1)) then (kr0 (3 : Int)) else (bif (decide (s_0.2.2.1 = (2 : Int))) then (bif (decide (s_0.2.2.2.1 < (1 : Int))) then (kr0 (5 : Int)) else (bif (decide (s_0.2.2.2.2.1 < s_0.2.2.2.1)) then (kr0 (5 : Int)) else (bif (decide ((99 : Int) < s_0.2.2.2.2.1)) then (kr0 (5 : Int)) else (bif (decide (s_0.2.2.1 = (1 : Int))) then (bif (!(decide (s_0.2.2.2.1 = s_0.2.2.2.2.1))) then (kr0 (5 : Int)) else (bif (decide (s_0.2.2.1 = (1 : Int))) then (bif (decide (s_0.2.1 = (6 : Int))) then (kr0 (13 : Int)) else (kr0 (0 : Int))) else (kr0 (0 : Int)))) else (bif (decide (s_0.2.2.1 = (1 : Int))) then (bif (decide (s_0.2.1 = (6 : Int))) then (kr0 (13 : Int)) else (kr0 (0 : Int))) else (kr0 (0 : Int))))))) else (bif (decide (s_0.2.2.2.1 < (1 : Int))) then (kr0 (5 : Int)) else (bif (decide (s_0.2.2.2.2.1 < s_0.2.2.2.1)) then (kr0 (5 : Int)) else (bif (decide ((999 : Int) < s_0.2.2.2.2.1)) then (kr0 (5 : Int)) else (bif (decide (s_0.2.2.1 = (1 : Int))) then (bif (!(decide (s_0.2.2.2.1 = s_0.2.2.2.2.1))) then (kr0 (5 : Int)) else (bif (decide (s_0.2.2.1 = (1 : Int))) then (bif (decide (s_0.2.1 = (6 : Int))) then (kr0 (13 : Int)) else (kr0 (0 : Int))) else (kr0 (0 : Int)))) else (bif (decide (s_0.2.2.1 = (1 : Int))) then (bif (decide (s_0.2.1 = (6 : Int))) then (kr0 (13 : Int)) else (kr0 (0 : Int))) else (kr0 (0 : Int))))))))))))))
theorem z1bu {R S : Type} (F : R → Option S) (s_0) (kr0) : (zah s_0 kr0).bind F = zah s_0 (fun a0 => (kr0 a0).bind F) := by
  simp only [zah, z8, z6, zd, z7, ze, zc]
def Q133 (s_0 : Zt13) : Option Int :=
  zah s_0 (fun a0 => some a0)
def z8h {R : Type} (a_0 : Zt13) (b_1 : Zt13) (kr0 : Bool → Option R) : Option R :=
  ((Q133 a_0).bind fun r1 => (bif (!(decide (r1 = (0 : Int)))) then (kr0 false) else ((Q133 b_1).bind fun r2 => (bif (!(decide (r2 = (0 : Int)))) then (kr0 false) else (bif (decide (b_1.2.2.2.1 < a_0.2.2.2.1)) then (kr0 false) else (bif (decide (a_0.2.2.2.2.1 < b_1.2.2.2.2.1)) then (kr0 false) else (bif (decide (a_0.2.1 = (5 : Int))) then (kr0 true) else (bif (decide (a_0.2.1 = (6 : Int))) then (kr0 (decide (a_0.2.1 = b_1.2.1))) else (bif (decide (b_1.2.1 = (6 : Int))) then (kr0 (decide (a_0.2.1 = b_1.2.1))) else ((Q115 a_0.2.1 b_1.2.1).bind fun r3 => (kr0 r3)))))))))))
theorem z1ae {R S : Type} (F : R → Option S) (a_0) (b_1) (kr0) : (z8h a_0 b_1 kr0).bind F = z8h a_0 b_1 (fun a0 => (kr0 a0).bind F) := by
  simp only [z8h, z8, z6, zd, z7, ze, zc]
def Q135 (a_0 : Zt13) (b_1 : Zt13) : Option Bool :=
  z8h a_0 b_1 (fun a0 => some a0)
def z81 {R : Type} (s_0 : Zt13) (text_1 : ByteArray) (kr0 : Int → Option R) : Option R :=
  ((Q133 s_0).bind fun r1 => (bif (!(decide (r1 = (0 : Int)))) then (kr0 (1 : Int)) else (bif (decide (((text_1).size : Int) < s_0.2.2.2.1)) then (kr0 (5 : Int)) else (bif (decide (s_0.2.2.2.2.1 < ((text_1).size : Int))) then (kr0 (5 : Int)) else ((Q113 s_0.2.1 text_1).bind fun r2 => (bif (decide ((0 : Int) ≤ r2)) then (kr0 (6 : Int)) else (bif (decide (s_0.2.1 = (6 : Int))) then ((Q131 text_1).bind fun r3 => (Sum.elim (fun (wr3 : Zt16) => (bif (!(decide (wr3.2.1 = (0 : Int)))) then (kr0 (13 : Int)) else (kr0 (0 : Int)))) (fun (wr3 : Zt16) => (bif (!(decide (wr3.2.1 = (0 : Int)))) then (kr0 (13 : Int)) else (kr0 (0 : Int)))) r3)) else (kr0 (0 : Int)))))))))
theorem z17j {R S : Type} (F : R → Option S) (s_0) (text_1) (kr0) : (z81 s_0 text_1 kr0).bind F = z81 s_0 text_1 (fun a0 => (kr0 a0).bind F) := by
  simp only [z81, z8, z6, zd, z7, ze, zc]
def Q134 (s_0 : Zt13) (text_1 : ByteArray) : Option Int :=
  z81 s_0 text_1 (fun a0 => some a0)
end Groat
namespace Groat
open Go Go.Ref
def zam {R : Type} (s_0 : Zt18) (kr0 : Zt18 → Option R) : Option R :=
  (bif (decide (((List.length ([] : List Zt13)) + (List.length s_0.2.2.1)) * 40 ≤ 140737488355328)) then (kr0 (s_0.1, s_0.2.1, (([] : List Zt13) ++ s_0.2.2.1), ())) else none)
theorem z1dc {R S : Type} (F : R → Option S) (s_0) (kr0) : (zam s_0 kr0).bind F = zam s_0 (fun a0 => (kr0 a0).bind F) := by
  simp only [zam, z8, z6, zd, z7, ze, zc]
def Q138 (s_0 : Zt18) : Option Zt18 :=
  zam s_0 (fun a0 => some a0)
def zay {R : Type} (s_0 : Zt18) (kr0 : Int → Int → Option R) (go0 : Int → Int → Zt18 → Option R) : Option R :=
  (bif (!(decide (s_0.1 = (1 : Int)))) then (bif (!(decide (s_0.1 = (2 : Int)))) then (kr0 (1 : Int) (-1 : Int)) else (bif (decide (s_0.2.1 < (0 : Int))) then (kr0 (7 : Int) (-1 : Int)) else (bif (decide ((9 : Int) < s_0.2.1)) then (kr0 (7 : Int) (-1 : Int)) else (go0 (0 : Int) (0 : Int) s_0)))) else (bif (decide (s_0.2.1 < (0 : Int))) then (kr0 (7 : Int) (-1 : Int)) else (bif (decide ((9 : Int) < s_0.2.1)) then (kr0 (7 : Int) (-1 : Int)) else (go0 (0 : Int) (0 : Int) s_0))))
theorem zn7 {R S : Type} (F : R → Option S) (s_0) (kr0) (go0) : (zay s_0 kr0 go0).bind F = zay s_0 (fun a0 a1 => (kr0 a0 a1).bind F) (fun a0 a1 a2 => (go0 a0 a1 a2).bind F) := by
  simp only [zay, z8, z6, zd, z7, ze, zc]
def z7r {R : Type} (t4 : Int) (t5 : Int) (bt1 : Zt18) (ex0_0 : Int → Int → Option R) (nx0 : Int → Int → Zt18 → Option R) (ex0_1 : Option R) : Option R :=
  (bif (decide (t5 < ((List.length bt1.2.2.1) : Int))) then (zj t5 (List.length bt1.2.2.1) ((Q133 (List.getD bt1.2.2.1 (t5).toNat ((0 : Int), (0 : Int), (0 : Int), (0 : Int), (0 : Int), ()))).bind fun r1 => (bif (!(decide (r1 = (0 : Int)))) then (ex0_0 r1 t5) else (zj t5 (List.length bt1.2.2.1) (bif (decide ((List.getD bt1.2.2.1 (t5).toNat ((0 : Int), (0 : Int), (0 : Int), (0 : Int), (0 : Int), ())).1 ≤ t4)) then (ex0_0 (11 : Int) t5) else (zj t5 (List.length bt1.2.2.1) (nx0 (List.getD bt1.2.2.1 (t5).toNat ((0 : Int), (0 : Int), (0 : Int), (0 : Int), (0 : Int), ())).1 (IntKind.i64.wrap (t5 + (1 : Int))) bt1))))))) else (ex0_1))
theorem zpd {R S : Type} (F : R → Option S) (t4) (t5) (bt1) (ex0_0) (nx0) (ex0_1) : (z7r t4 t5 bt1 ex0_0 nx0 ex0_1).bind F = z7r t4 t5 bt1 (fun a0 a1 => (ex0_0 a0 a1).bind F) (fun a0 a1 a2 => (nx0 a0 a1 a2).bind F) ((ex0_1).bind F) := by
  simp only [z7r, z8, z6, zd, z7, ze, zc]
def zb2 {R : Type} (t2 : Int) (t3 : Int) (kr0 : Int → Int → Option R) : Option R :=
  (kr0 t2 t3)
theorem zrd {R S : Type} (F : R → Option S) (t2) (t3) (kr0) : (zb2 t2 t3 kr0).bind F = zb2 t2 t3 (fun a0 a1 => (kr0 a0 a1).bind F) := by
  simp only [zb2, z8, z6, zd, z7, ze, zc]
def zbj {R : Type}  (kr0 : Int → Int → Option R) : Option R :=
  (kr0 (0 : Int) (0 : Int))
theorem zq7 {R S : Type} (F : R → Option S)  (kr0 : Int → Int → Option R) : (zbj kr0).bind F = zbj (fun a0 a1 => (kr0 a0 a1).bind F) := by
  simp only [zbj, z8, z6, zd, z7, ze, zc]
def z4q : Nat → Int → Int → Zt18 → Option (Sum (Int × Int) Unit)
  | 0, _, _, _ => none
  | k + 1, v0, v1, v2 => z7r v0 v1 v2 (fun a0 a1 => some (.inl (a0, a1))) (fun a0 a1 a2 => z4q k a0 a1 a2) (some (.inr ()))
def Q137 (s_0 : Zt18) : Option (Int × Int) :=
  zay s_0 (fun a0 a1 => some (a0, a1)) (fun a0 a1 a2 => (z4q FUEL a0 a1 a2).bind fun e => (Sum.elim (fun (we : (Int × Int)) => zb2 we.1 we.2 (fun a0 a1 => some (a0, a1))) (fun (we : Unit) => zbj (fun a0 a1 => some (a0, a1))) e))
def z9z {R : Type} (s_0 : Zt18) (no_1 : Int) (go0 : Int → Int → Zt18 → Option R) : Option R :=
  (go0 no_1 (0 : Int) s_0)
theorem znh {R S : Type} (F : R → Option S) (s_0) (no_1) (go0) : (z9z s_0 no_1 go0).bind F = z9z s_0 no_1 (fun a0 a1 a2 => (go0 a0 a1 a2).bind F) := by
  simp only [z9z, z8, z6, zd, z7, ze, zc]
def zg7 {R : Type} (no_1 : Int) (t5 : Int) (bt2 : Zt18) (ex0_0 : Int → Option R) (nx0 : Int → Int → Zt18 → Option R) (ex0_1 : Option R) : Option R :=
  (bif (decide (t5 < ((List.length bt2.2.2.1) : Int))) then (zj t5 (List.length bt2.2.2.1) (bif (decide ((List.getD bt2.2.2.1 (t5).toNat ((0 : Int), (0 : Int), (0 : Int), (0 : Int), (0 : Int), ())).1 = no_1)) then (ex0_0 t5) else (nx0 no_1 (IntKind.i64.wrap (t5 + (1 : Int))) bt2))) else (ex0_1))
theorem zpi {R S : Type} (F : R → Option S) (no_1) (t5) (bt2) (ex0_0) (nx0) (ex0_1) : (zg7 no_1 t5 bt2 ex0_0 nx0 ex0_1).bind F = zg7 no_1 t5 bt2 (fun a0 => (ex0_0 a0).bind F) (fun a0 a1 a2 => (nx0 a0 a1 a2).bind F) ((ex0_1).bind F) := by
  simp only [zg7, z8, z6, zd, z7, ze, zc]
def zhb {R : Type} (t4 : Int) (kr0 : Int → Option R) : Option R :=
  (kr0 t4)
theorem zqn {R S : Type} (F : R → Option S) (t4) (kr0) : (zhb t4 kr0).bind F = zhb t4 (fun a0 => (kr0 a0).bind F) := by
  simp only [zhb, z8, z6, zd, z7, ze, zc]
def zhl {R : Type}  (kr0 : Int → Option R) : Option R :=
  (kr0 (-1 : Int))
theorem zo7 {R S : Type} (F : R → Option S)  (kr0 : Int → Option R) : (zhl kr0).bind F = zhl (fun a0 => (kr0 a0).bind F) := by
  simp only [zhl, z8, z6, zd, z7, ze, zc]
def zfb : Nat → Int → Int → Zt18 → Option (Sum Int Unit)
  | 0, _, _, _ => none
  | k + 1, v0, v1, v2 => zg7 v0 v1 v2 (fun a0 => some (.inl a0)) (fun a0 a1 a2 => zfb k a0 a1 a2) (some (.inr ()))
def Q139 (s_0 : Zt18) (no_1 : Int) : Option Int :=
  z9z s_0 no_1 (fun a0 a1 a2 => (zfb FUEL a0 a1 a2).bind fun e => (Sum.elim (fun (we : Int) => zhb we (fun a0 => some a0)) (fun (we : Unit) => zhl (fun a0 => some a0)) e))
def zbx {R : Type} (s_0 : Zt18) (kr0 : Bool → Option R) : Option R :=
  ((Q137 s_0).bind fun r1 => (kr0 (decide (r1.1 = (0 : Int)))))
theorem z1b8 {R S : Type} (F : R → Option S) (s_0) (kr0) : (zbx s_0 kr0).bind F = zbx s_0 (fun a0 => (kr0 a0).bind F) := by
  simp only [zbx, z8, z6, zd, z7, ze, zc]
def Q141 (s_0 : Zt18) : Option Bool :=
  zbx s_0 (fun a0 => some a0)
end Groat
namespace Groat
open Go Go.Ref
def zac {R : Type} (a_0 : (List Int)) (a_1 : Int) (go0 : (List Int) → Int → Int → Int → Option R) : Option R :=
  (go0 a_0 a_1 ((List.length a_0) : Int) (0 : Int))
theorem znv {R S : Type} (F : R → Option S) (a_0) (a_1) (go0) : (zac a_0 a_1 go0).bind F = zac a_0 a_1 (fun a0 a1 a2 a3 => (go0 a0 a1 a2 a3).bind F) := by
  simp only [zac, z8, z6, zd, z7, ze, zc]
def zi7 {R : Type} (a_0 : (List Int)) (a_1 : Int) (t7 : Int) (t8 : Int) (ex0_0 : Int → Option R) (nx0 : (List Int) → Int → Int → Int → Option R) (ex0_1 : Option R) : Option R :=
  (bif (decide (t8 < t7)) then (zj t8 (List.length a_0) (bif (decide (a_1 = (List.getD a_0 (t8).toNat (0 : Int)))) then (ex0_0 t8) else (nx0 a_0 a_1 t7 (IntKind.i64.wrap (t8 + (1 : Int)))))) else (ex0_1))
theorem zr1 {R S : Type} (F : R → Option S) (a_0) (a_1) (t7) (t8) (ex0_0) (nx0) (ex0_1) : (zi7 a_0 a_1 t7 t8 ex0_0 nx0 ex0_1).bind F = zi7 a_0 a_1 t7 t8 (fun a0 => (ex0_0 a0).bind F) (fun a0 a1 a2 a3 => (nx0 a0 a1 a2 a3).bind F) ((ex0_1).bind F) := by
  simp only [zi7, z8, z6, zd, z7, ze, zc]
def zen {R : Type} (t4 : Int) (kr0 : Int → Option R) : Option R :=
  (kr0 t4)
theorem zl7 {R S : Type} (F : R → Option S) (t4) (kr0) : (zen t4 kr0).bind F = zen t4 (fun a0 => (kr0 a0).bind F) := by
  simp only [zen, z8, z6, zd, z7, ze, zc]
def zfq {R : Type}  (kr0 : Int → Option R) : Option R :=
  (kr0 (-1 : Int))
theorem zs8 {R S : Type} (F : R → Option S)  (kr0 : Int → Option R) : (zfq kr0).bind F = zfq (fun a0 => (kr0 a0).bind F) := by
  simp only [zfq, z8, z6, zd, z7, ze, zc]
def zj0 : Nat → (List Int) → Int → Int → Int → Option (Sum Int Unit)
  | 0, _, _, _, _ => none
  | k + 1, v0, v1, v2, v3 => zi7 v0 v1 v2 v3 (fun a0 => some (.inl a0)) (fun a0 a1 a2 a3 => zj0 k a0 a1 a2 a3) (some (.inr ()))
def Q264 (a_0 : (List Int)) (a_1 : Int) : Option Int :=
  zac a_0 a_1 (fun a0 a1 a2 a3 => (zj0 FUEL a0 a1 a2 a3).bind fun e => (Sum.elim (fun (we : Int) => zen we (fun a0 => some a0)) (fun (we : Unit) => zfq (fun a0 => some a0)) e))
def zag {R : Type} (a_0 : (List Int)) (a_1 : Int) (kr0 : Bool → Option R) : Option R :=
  ((Q264 a_0 a_1).bind fun r1 => (kr0 (decide ((0 : Int) ≤ r1))))
theorem z19r {R S : Type} (F : R → Option S) (a_0) (a_1) (kr0) : (zag a_0 a_1 kr0).bind F = zag a_0 a_1 (fun a0 => (kr0 a0).bind F) := by
  simp only [zag, z8, z6, zd, z7, ze, zc]
def Q260 (a_0 : (List Int)) (a_1 : Int) : Option Bool :=
  zag a_0 a_1 (fun a0 => some a0)
end Groat
namespace Groat
open Go Go.Ref
def zb6 {R : Type} (s_0 : Zt18) (kr0 : Int → Int → Option R) (go0 : Zt15 → Int → Int → Zt18 → Option R) : Option R :=
  (bif (!(decide (s_0.1 = (1 : Int)))) then (bif (!(decide (s_0.1 = (2 : Int)))) then (kr0 (1 : Int) (-1 : Int)) else (bif (decide (s_0.2.1 < (0 : Int))) then (kr0 (7 : Int) (-1 : Int)) else (bif (decide ((9 : Int) < s_0.2.1)) then (kr0 (7 : Int) (-1 : Int)) else (go0 s_0.2.2.1 ((List.length s_0.2.2.1) : Int) (0 : Int) s_0)))) else (bif (decide (s_0.2.1 < (0 : Int))) then (kr0 (7 : Int) (-1 : Int)) else (bif (decide ((9 : Int) < s_0.2.1)) then (kr0 (7 : Int) (-1 : Int)) else (go0 s_0.2.2.1 ((List.length s_0.2.2.1) : Int) (0 : Int) s_0))))
theorem zpk {R S : Type} (F : R → Option S) (s_0) (kr0) (go0) : (zb6 s_0 kr0 go0).bind F = zb6 s_0 (fun a0 a1 => (kr0 a0 a1).bind F) (fun a0 a1 a2 a3 => (go0 a0 a1 a2 a3).bind F) := by
  simp only [zb6, z8, z6, zd, z7, ze, zc]
def z8a {R : Type} (t26 : Zt15) (t27 : Int) (t28 : Int) (bt1 : Zt18) (ex0_0 : Int → Int → Option R) (nx0 : Zt15 → Int → Int → Zt18 → Option R) (ex0_1 : Option R) : Option R :=
  (bif (decide (t28 < t27)) then (zj t28 (List.length t26) ((Q265 (List.getD t26 (t28).toNat ((0 : Int), (0 : Int), (0 : Int), (0 : Int), (0 : Int), ()))).bind fun r1 => (bif (!(decide (r1 = (0 : Int)))) then (ex0_0 r1 t28) else (bif (decide ((0 : Int) < t28)) then (zj (IntKind.i64.wrap (t28 - (1 : Int))) (List.length bt1.2.2.1) (bif (decide ((List.getD t26 (t28).toNat ((0 : Int), (0 : Int), (0 : Int), (0 : Int), (0 : Int), ())).1 ≤ (List.getD bt1.2.2.1 ((IntKind.i64.wrap (t28 - (1 : Int)))).toNat ((0 : Int), (0 : Int), (0 : Int), (0 : Int), (0 : Int), ())).1)) then (ex0_0 (11 : Int) t28) else (nx0 t26 t27 (IntKind.i64.wrap (t28 + (1 : Int))) bt1))) else (nx0 t26 t27 (IntKind.i64.wrap (t28 + (1 : Int))) bt1))))) else (ex0_1))
theorem zmy {R S : Type} (F : R → Option S) (t26) (t27) (t28) (bt1) (ex0_0) (nx0) (ex0_1) : (z8a t26 t27 t28 bt1 ex0_0 nx0 ex0_1).bind F = z8a t26 t27 t28 bt1 (fun a0 a1 => (ex0_0 a0 a1).bind F) (fun a0 a1 a2 a3 => (nx0 a0 a1 a2 a3).bind F) ((ex0_1).bind F) := by
  simp only [z8a, z8, z6, zd, z7, ze, zc]
def z9v {R : Type} (t2 : Int) (t3 : Int) (kr0 : Int → Int → Option R) : Option R :=
  (kr0 t2 t3)
theorem zoj {R S : Type} (F : R → Option S) (t2) (t3) (kr0) : (z9v t2 t3 kr0).bind F = z9v t2 t3 (fun a0 a1 => (kr0 a0 a1).bind F) := by
  simp only [z9v, z8, z6, zd, z7, ze, zc]
def z9i {R : Type}  (kr0 : Int → Int → Option R) : Option R :=
  (kr0 (0 : Int) (0 : Int))
theorem ztd {R S : Type} (F : R → Option S)  (kr0 : Int → Int → Option R) : (z9i kr0).bind F = z9i (fun a0 a1 => (kr0 a0 a1).bind F) := by
  simp only [z9i, z8, z6, zd, z7, ze, zc]
def z66 : Nat → Zt15 → Int → Int → Zt18 → Option (Sum (Int × Int) Unit)
  | 0, _, _, _, _ => none
  | k + 1, v0, v1, v2, v3 => z8a v0 v1 v2 v3 (fun a0 a1 => some (.inl (a0, a1))) (fun a0 a1 a2 a3 => z66 k a0 a1 a2 a3) (some (.inr ()))
def Q254 (s_0 : Zt18) : Option (Int × Int) :=
  zb6 s_0 (fun a0 a1 => some (a0, a1)) (fun a0 a1 a2 a3 => (z66 FUEL a0 a1 a2 a3).bind fun e => (Sum.elim (fun (we : (Int × Int)) => z9v we.1 we.2 (fun a0 a1 => some (a0, a1))) (fun (we : Unit) => z9i (fun a0 a1 => some (a0, a1))) e))
def z9l {R : Type} (s_0 : Zt18) (no_1 : Int) (go0 : Int → Zt15 → Int → Int → Zt13 → Option R) : Option R :=
  (go0 no_1 s_0.2.2.1 ((List.length s_0.2.2.1) : Int) (0 : Int) ((0 : Int), (0 : Int), (0 : Int), (0 : Int), (0 : Int), ()))
theorem znz {R S : Type} (F : R → Option S) (s_0) (no_1) (go0) : (z9l s_0 no_1 go0).bind F = z9l s_0 no_1 (fun a0 a1 a2 a3 a4 => (go0 a0 a1 a2 a3 a4).bind F) := by
  simp only [z9l, z8, z6, zd, z7, ze, zc]
def zgo {R : Type} (no_1 : Int) (t9 : Zt15) (t10 : Int) (t11 : Int) (bt4 : Zt13) (ex0_0 : Bool → Zt13 → Option R) (nx0 : Int → Zt15 → Int → Int → Zt13 → Option R) (ex0_1 : Zt13 → Option R) : Option R :=
  (bif (decide (t11 < t10)) then (zj t11 (List.length t9) (bif (decide ((List.getD t9 (t11).toNat ((0 : Int), (0 : Int), (0 : Int), (0 : Int), (0 : Int), ())).1 = no_1)) then (ex0_0 true (List.getD t9 (t11).toNat ((0 : Int), (0 : Int), (0 : Int), (0 : Int), (0 : Int), ()))) else (nx0 no_1 t9 t10 (IntKind.i64.wrap (t11 + (1 : Int))) bt4))) else (ex0_1 bt4))
theorem zpp {R S : Type} (F : R → Option S) (no_1) (t9) (t10) (t11) (bt4) (ex0_0) (nx0) (ex0_1) : (zgo no_1 t9 t10 t11 bt4 ex0_0 nx0 ex0_1).bind F = zgo no_1 t9 t10 t11 bt4 (fun a0 a1 => (ex0_0 a0 a1).bind F) (fun a0 a1 a2 a3 a4 => (nx0 a0 a1 a2 a3 a4).bind F) (fun a0 => (ex0_1 a0).bind F) := by
  simp only [zgo, z8, z6, zd, z7, ze, zc]
def zhw {R : Type} (t5 : Bool) (bt4 : Zt13) (kr0 : Zt13 → Bool → Option R) : Option R :=
  (kr0 bt4 t5)
theorem zso {R S : Type} (F : R → Option S) (t5) (bt4) (kr0) : (zhw t5 bt4 kr0).bind F = zhw t5 bt4 (fun a0 a1 => (kr0 a0 a1).bind F) := by
  simp only [zhw, z8, z6, zd, z7, ze, zc]
def zjb {R : Type} (bt4 : Zt13) (kr0 : Zt13 → Bool → Option R) : Option R :=
  (kr0 ((0 : Int), (0 : Int), (0 : Int), (0 : Int), (0 : Int), ()) false)
theorem zr7 {R S : Type} (F : R → Option S) (bt4) (kr0) : (zjb bt4 kr0).bind F = zjb bt4 (fun a0 a1 => (kr0 a0 a1).bind F) := by
  simp only [zjb, z8, z6, zd, z7, ze, zc]
def zhy : Nat → Int → Zt15 → Int → Int → Zt13 → Option (Sum (Bool × Zt13) Zt13)
  | 0, _, _, _, _, _ => none
  | k + 1, v0, v1, v2, v3, v4 => zgo v0 v1 v2 v3 v4 (fun a0 a1 => some (.inl (a0, a1))) (fun a0 a1 a2 a3 a4 => zhy k a0 a1 a2 a3 a4) (fun a0 => some (.inr a0))
def Q255 (s_0 : Zt18) (no_1 : Int) : Option (Zt13 × Bool) :=
  z9l s_0 no_1 (fun a0 a1 a2 a3 a4 => (zhy FUEL a0 a1 a2 a3 a4).bind fun e => (Sum.elim (fun (we : (Bool × Zt13)) => zhw we.1 we.2 (fun a0 a1 => some (a0, a1))) (fun (we : Zt13) => zjb we (fun a0 a1 => some (a0, a1))) e))
end Groat
namespace Groat
open Go Go.Ref
def ze8 {R : Type}  (kr0 : Zt3 → Option R) : Option R :=
  (kr0 ([([(2 : Int), (1 : Int), (2 : Int), (12 : Int), (19 : Int), (1 : Int), (2 : Int), (12 : Int), (19 : Int)] : List Int), ([(3 : Int), (1 : Int), (1 : Int), (6 : Int), (6 : Int), (1 : Int), (1 : Int), (6 : Int), (6 : Int)] : List Int), ([(4 : Int), (1 : Int), (1 : Int), (12 : Int), (12 : Int), (1 : Int), (1 : Int), (12 : Int), (12 : Int)] : List Int), ([(7 : Int), (1 : Int), (1 : Int), (10 : Int), (10 : Int), (1 : Int), (1 : Int), (10 : Int), (10 : Int)] : List Int), ([(11 : Int), (1 : Int), (1 : Int), (6 : Int), (6 : Int), (1 : Int), (1 : Int), (6 : Int), (6 : Int)] : List Int), ([(12 : Int), (1 : Int), (1 : Int), (6 : Int), (6 : Int), (1 : Int), (1 : Int), (12 : Int), (12 : Int)] : List Int), ([(13 : Int), (1 : Int), (1 : Int), (4 : Int), (4 : Int), (0 : Int), (0 : Int), (0 : Int), (0 : Int)] : List Int), ([(14 : Int), (1 : Int), (1 : Int), (4 : Int), (4 : Int), (1 : Int), (1 : Int), (4 : Int), (4 : Int)] : List Int), ([(18 : Int), (1 : Int), (1 : Int), (4 : Int), (4 : Int), (0 : Int), (0 : Int), (0 : Int), (0 : Int)] : List Int), ([(22 : Int), (1 : Int), (1 : Int), (3 : Int), (3 : Int), (3 : Int), (1 : Int), (12 : Int), (12 : Int)] : List Int), ([(23 : Int), (1 : Int), (1 : Int), (3 : Int), (3 : Int), (1 : Int), (1 : Int), (3 : Int), (3 : Int)] : List Int), ([(26 : Int), (0 : Int), (0 : Int), (0 : Int), (0 : Int), (1 : Int), (1 : Int), (4 : Int), (4 : Int)] : List Int), ([(32 : Int), (1 : Int), (2 : Int), (1 : Int), (11 : Int), (1 : Int), (2 : Int), (1 : Int), (11 : Int)] : List Int), ([(35 : Int), (4 : Int), (2 : Int), (1 : Int), (37 : Int), (4 : Int), (2 : Int), (1 : Int), (37 : Int)] : List Int), ([(37 : Int), (3 : Int), (1 : Int), (12 : Int), (12 : Int), (3 : Int), (1 : Int), (12 : Int), (12 : Int)] : List Int), ([(38 : Int), (3 : Int), (1 : Int), (6 : Int), (6 : Int), (3 : Int), (1 : Int), (6 : Int), (6 : Int)] : List Int), ([(39 : Int), (3 : Int), (1 : Int), (2 : Int), (2 : Int), (1 : Int), (1 : Int), (3 : Int), (3 : Int)] : List Int), ([(41 : Int), (4 : Int), (1 : Int), (8 : Int), (8 : Int), (4 : Int), (1 : Int), (8 : Int), (8 : Int)] : List Int), ([(42 : Int), (4 : Int), (1 : Int), (15 : Int), (15 : Int), (4 : Int), (1 : Int), (15 : Int), (15 : Int)] : List Int), ([(43 : Int), (4 : Int), (1 : Int), (40 : Int), (40 : Int), (4 : Int), (2 : Int), (1 : Int), (99 : Int)] : List Int), ([(48 : Int), (4 : Int), (3 : Int), (1 : Int), (999 : Int), (4 : Int), (3 : Int), (1 : Int), (999 : Int)] : List Int), ([(49 : Int), (1 : Int), (1 : Int), (3 : Int), (3 : Int), (1 : Int), (1 : Int), (3 : Int), (3 : Int)] : List Int), ([(52 : Int), (5 : Int), (1 : Int), (8 : Int), (8 : Int), (5 : Int), (1 : Int), (8 : Int), (8 : Int)] : List Int), ([(55 : Int), (6 : Int), (3 : Int), (1 : Int), (255 : Int), (6 : Int), (3 : Int), (1 : Int), (255 : Int)] : List Int), ([(64 : Int), (5 : Int), (1 : Int), (8 : Int), (8 : Int), (5 : Int), (1 : Int), (8 : Int), (8 : Int)] : List Int), ([(70 : Int), (1 : Int), (1 : Int), (3 : Int), (3 : Int), (1 : Int), (1 : Int), (3 : Int), (3 : Int)] : List Int), ([(90 : Int), (1 : Int), (1 : Int), (42 : Int), (42 : Int), (0 : Int), (0 : Int), (0 : Int), (0 : Int)] : List Int), ([(102 : Int), (4 : Int), (2 : Int), (1 : Int), (28 : Int), (4 : Int), (2 : Int), (1 : Int), (28 : Int)] : List Int), ([(128 : Int), (5 : Int), (1 : Int), (8 : Int), (8 : Int), (5 : Int), (1 : Int), (8 : Int), (8 : Int)] : List Int)] : List (List Int)))
theorem z1aa {R S : Type} (F : R → Option S)  (kr0 : Zt3 → Option R) : (ze8 kr0).bind F = ze8 (fun a0 => (kr0 a0).bind F) := by
  simp only [ze8, z8, z6, zd, z7, ze, zc]
def Q145  : Option Zt3 :=
  ze8 (fun a0 => some a0)
def zfn {R : Type} (which_0 : Int) (go0 : Int → Zt3 → Int → Zt18 → Zt18 → Option R) : Option R :=
  ((Q145).bind fun r1 => (go0 which_0 r1 (0 : Int) ((0 : Int), (0 : Int), ([] : List Zt13), ()) ((IntKind.i64.wrap (which_0 + (1 : Int))), which_0, ([] : List Zt13), ())))
theorem zqj {R S : Type} (F : R → Option S) (which_0) (go0) : (zfn which_0 go0).bind F = zfn which_0 (fun a0 a1 a2 a3 a4 => (go0 a0 a1 a2 a3 a4).bind F) := by
  simp only [zfn, z8, z6, zd, z7, ze, zc]
def zge {R : Type} (which_0 : Int) (t4 : Zt3) (t5 : Int) (bt2 : Zt18) (bt3 : Zt18) (nx0 : Int → Zt3 → Int → Zt18 → Zt18 → Option R) (ex0_0 : Zt18 → Zt18 → Option R) : Option R :=
  (bif (decide (t5 < ((List.length t4) : Int))) then (zj t5 (List.length t4) (bif (decide ((0 : Int) ≤ (IntKind.i64.wrap ((5 : Int) + (IntKind.i64.wrap ((4 : Int) * which_0)))))) then (bif (decide ((IntKind.i64.wrap ((5 : Int) + (IntKind.i64.wrap ((4 : Int) * which_0)))) ≤ (((List.length (List.getD t4 (t5).toNat ([] : List Int))) : Nat) : Int))) then (bif (decide ((0 : Int) ≤ (IntKind.i64.wrap ((1 : Int) + (IntKind.i64.wrap ((4 : Int) * which_0)))))) then (bif (decide ((IntKind.i64.wrap ((1 : Int) + (IntKind.i64.wrap ((4 : Int) * which_0)))) ≤ ((((IntKind.i64.wrap ((5 : Int) + (IntKind.i64.wrap ((4 : Int) * which_0))))).toNat : Nat) : Int))) then (zj (0 : Int) (List.length (List.drop ((IntKind.i64.wrap ((1 : Int) + (IntKind.i64.wrap ((4 : Int) * which_0))))).toNat (List.take ((IntKind.i64.wrap ((5 : Int) + (IntKind.i64.wrap ((4 : Int) * which_0))))).toNat (List.getD t4 (t5).toNat ([] : List Int))))) (bif (decide ((0 : Int) < (List.getD (List.drop ((IntKind.i64.wrap ((1 : Int) + (IntKind.i64.wrap ((4 : Int) * which_0))))).toNat (List.take ((IntKind.i64.wrap ((5 : Int) + (IntKind.i64.wrap ((4 : Int) * which_0))))).toNat (List.getD t4 (t5).toNat ([] : List Int)))) ((0 : Int)).toNat (0 : Int)))) then (zj t5 (List.length t4) (zj (0 : Int) (List.length (List.getD t4 (t5).toNat ([] : List Int))) (zj (0 : Int) (List.length (List.drop ((IntKind.i64.wrap ((1 : Int) + (IntKind.i64.wrap ((4 : Int) * which_0))))).toNat (List.take ((IntKind.i64.wrap ((5 : Int) + (IntKind.i64.wrap ((4 : Int) * which_0))))).toNat (List.getD t4 (t5).toNat ([] : List Int))))) (zj (1 : Int) (List.length (List.drop ((IntKind.i64.wrap ((1 : Int) + (IntKind.i64.wrap ((4 : Int) * which_0))))).toNat (List.take ((IntKind.i64.wrap ((5 : Int) + (IntKind.i64.wrap ((4 : Int) * which_0))))).toNat (List.getD t4 (t5).toNat ([] : List Int))))) (zj (2 : Int) (List.length (List.drop ((IntKind.i64.wrap ((1 : Int) + (IntKind.i64.wrap ((4 : Int) * which_0))))).toNat (List.take ((IntKind.i64.wrap ((5 : Int) + (IntKind.i64.wrap ((4 : Int) * which_0))))).toNat (List.getD t4 (t5).toNat ([] : List Int))))) (zj (3 : Int) (List.length (List.drop ((IntKind.i64.wrap ((1 : Int) + (IntKind.i64.wrap ((4 : Int) * which_0))))).toNat (List.take ((IntKind.i64.wrap ((5 : Int) + (IntKind.i64.wrap ((4 : Int) * which_0))))).toNat (List.getD t4 (t5).toNat ([] : List Int))))) (bif (decide (((List.length bt3.2.2.1) + (List.length ([((List.getD (List.getD t4 (t5).toNat ([] : List Int)) ((0 : Int)).toNat (0 : Int)), (List.getD (List.drop ((IntKind.i64.wrap ((1 : Int) + (IntKind.i64.wrap ((4 : Int) * which_0))))).toNat (List.take ((IntKind.i64.wrap ((5 : Int) + (IntKind.i64.wrap ((4 : Int) * which_0))))).toNat (List.getD t4 (t5).toNat ([] : List Int)))) ((0 : Int)).toNat (0 : Int)), (List.getD (List.drop ((IntKind.i64.wrap ((1 : Int) + (IntKind.i64.wrap ((4 : Int) * which_0))))).toNat (List.take ((IntKind.i64.wrap ((5 : Int) + (IntKind.i64.wrap ((4 : Int) * which_0))))).toNat (List.getD t4 (t5).toNat ([] : List Int)))) ((1 : Int)).toNat (0 : Int)), (List.getD (List.drop ((IntKind.i64.wrap ((1 : Int) + (IntKind.i64.wrap ((4 : Int) * which_0))))).toNat (List.take ((IntKind.i64.wrap ((5 : Int) + (IntKind.i64.wrap ((4 : Int) * which_0))))).toNat (List.getD t4 (t5).toNat ([] : List Int)))) ((2 : Int)).toNat (0 : Int)), (List.getD (List.drop ((IntKind.i64.wrap ((1 : Int) + (IntKind.i64.wrap ((4 : Int) * which_0))))).toNat (List.take ((IntKind.i64.wrap ((5 : Int) + (IntKind.i64.wrap ((4 : Int) * which_0))))).toNat (List.getD t4 (t5).toNat ([] : List Int)))) ((3 : Int)).toNat (0 : Int)), ())] : List Zt13))) * 40 ≤ 140737488355328)) then (nx0 which_0 t4 (IntKind.i64.wrap (t5 + (1 : Int))) bt2 (bt3.1, bt3.2.1, (bt3.2.2.1 ++ ([((List.getD (List.getD t4 (t5).toNat ([] : List Int)) ((0 : Int)).toNat (0 : Int)), (List.getD (List.drop ((IntKind.i64.wrap ((1 : Int) + (IntKind.i64.wrap ((4 : Int) * which_0))))).toNat (List.take ((IntKind.i64.wrap ((5 : Int) + (IntKind.i64.wrap ((4 : Int) * which_0))))).toNat (List.getD t4 (t5).toNat ([] : List Int)))) ((0 : Int)).toNat (0 : Int)), (List.getD (List.drop ((IntKind.i64.wrap ((1 : Int) + (IntKind.i64.wrap ((4 : Int) * which_0))))).toNat (List.take ((IntKind.i64.wrap ((5 : Int) + (IntKind.i64.wrap ((4 : Int) * which_0))))).toNat (List.getD t4 (t5).toNat ([] : List Int)))) ((1 : Int)).toNat (0 : Int)), (List.getD (List.drop ((IntKind.i64.wrap ((1 : Int) + (IntKind.i64.wrap ((4 : Int) * which_0))))).toNat (List.take ((IntKind.i64.wrap ((5 : Int) + (IntKind.i64.wrap ((4 : Int) * which_0))))).toNat (List.getD t4 (t5).toNat ([] : List Int)))) ((2 : Int)).toNat (0 : Int)), (List.getD (List.drop ((IntKind.i64.wrap ((1 : Int) + (IntKind.i64.wrap ((4 : Int) * which_0))))).toNat (List.take ((IntKind.i64.wrap ((5 : Int) + (IntKind.i64.wrap ((4 : Int) * which_0))))).toNat (List.getD t4 (t5).toNat ([] : List Int)))) ((3 : Int)).toNat (0 : Int)), ())] : List Zt13)), ())) else none))))))) else (nx0 which_0 t4 (IntKind.i64.wrap (t5 + (1 : Int))) bt2 bt3))) else none) else none) else none) else none)) else (ex0_0 bt2 bt3))
theorem zmc {R S : Type} (F : R → Option S) (which_0) (t4) (t5) (bt2) (bt3) (nx0) (ex0_0) : (zge which_0 t4 t5 bt2 bt3 nx0 ex0_0).bind F = zge which_0 t4 t5 bt2 bt3 (fun a0 a1 a2 a3 a4 => (nx0 a0 a1 a2 a3 a4).bind F) (fun a0 a1 => (ex0_0 a0 a1).bind F) := by
  simp only [zge, z8, z6, zd, z7, ze, zc]
def zjd {R : Type} (bt2 : Zt18) (bt3 : Zt18) (kr0 : Zt18 → Option R) : Option R :=
  (kr0 bt3)
theorem zov {R S : Type} (F : R → Option S) (bt2) (bt3) (kr0) : (zjd bt2 bt3 kr0).bind F = zjd bt2 bt3 (fun a0 => (kr0 a0).bind F) := by
  simp only [zjd, z8, z6, zd, z7, ze, zc]
def zvk : Nat → Int → Zt3 → Int → Zt18 → Zt18 → Option (Zt18 × Zt18)
  | 0, _, _, _, _, _ => none
  | k + 1, v0, v1, v2, v3, v4 => zge v0 v1 v2 v3 v4 (fun a0 a1 a2 a3 a4 => zvk k a0 a1 a2 a3 a4) (fun a0 a1 => some (a0, a1))
def Q144 (which_0 : Int) : Option Zt18 :=
  zfn which_0 (fun a0 a1 a2 a3 a4 => (zvk FUEL a0 a1 a2 a3 a4).bind fun e => zjd e.1 e.2 (fun a0 => some a0))
def zio {R : Type}  (kr0 : (List Int) → Option R) : Option R :=
  (kr0 ([(2 : Int), (3 : Int), (4 : Int), (7 : Int), (11 : Int), (12 : Int), (14 : Int), (23 : Int), (32 : Int), (35 : Int), (37 : Int), (38 : Int), (41 : Int), (42 : Int), (49 : Int), (52 : Int), (55 : Int), (64 : Int), (70 : Int), (102 : Int), (128 : Int)] : List Int))
theorem z19e {R S : Type} (F : R → Option S)  (kr0 : (List Int) → Option R) : (zio kr0).bind F = zio (fun a0 => (kr0 a0).bind F) := by
  simp only [zio, z8, z6, zd, z7, ze, zc]
def Q143  : Option (List Int) :=
  zio (fun a0 => some a0)
end Groat
namespace Groat
open Go Go.Ref
def zaf {R : Type} (l_0 : Zt14) (kr0 : Zt14 → Option R) : Option R :=
  (bif (decide (((List.length ([] : List Zt10)) + (List.length l_0)) * 32 ≤ 140737488355328)) then (kr0 (([] : List Zt10) ++ l_0)) else none)
theorem z1bm {R S : Type} (F : R → Option S) (l_0) (kr0) : (zaf l_0 kr0).bind F = zaf l_0 (fun a0 => (kr0 a0).bind F) := by
  simp only [zaf, z8, z6, zd, z7, ze, zc]
def Q161 (l_0 : Zt14) : Option Zt14 :=
  zaf l_0 (fun a0 => some a0)
def zaq {R : Type} (l_0 : Zt14) (n_1 : Int) (from_2 : ByteArray) (go0 : Zt14 → Int → ByteArray → Int → Option R) : Option R :=
  (go0 l_0 n_1 from_2 (0 : Int))
theorem zpj {R S : Type} (F : R → Option S) (l_0) (n_1) (from_2) (go0) : (zaq l_0 n_1 from_2 go0).bind F = zaq l_0 n_1 from_2 (fun a0 a1 a2 a3 => (go0 a0 a1 a2 a3).bind F) := by
  simp only [zaq, z8, z6, zd, z7, ze, zc]
def z91 {R : Type} (l_0 : Zt14) (n_1 : Int) (from_2 : ByteArray) (t7 : Int) (ex0_0 : Int → Option R) (nx0 : Zt14 → Int → ByteArray → Int → Option R) (ex0_1 : Option R) : Option R :=
  (bif (decide (t7 < n_1)) then (zj t7 (List.length l_0) (bif (decide ((List.getD l_0 (t7).toNat ((bs []), (bs []), ())).1 = from_2)) then (ex0_0 t7) else (nx0 l_0 n_1 from_2 (IntKind.i64.wrap (t7 + (1 : Int)))))) else (ex0_1))
theorem zt7 {R S : Type} (F : R → Option S) (l_0) (n_1) (from_2) (t7) (ex0_0) (nx0) (ex0_1) : (z91 l_0 n_1 from_2 t7 ex0_0 nx0 ex0_1).bind F = z91 l_0 n_1 from_2 t7 (fun a0 => (ex0_0 a0).bind F) (fun a0 a1 a2 a3 => (nx0 a0 a1 a2 a3).bind F) ((ex0_1).bind F) := by
  simp only [z91, z8, z6, zd, z7, ze, zc]
def zih {R : Type} (t6 : Int) (kr0 : Int → Option R) : Option R :=
  (kr0 t6)
theorem zlf {R S : Type} (F : R → Option S) (t6) (kr0) : (zih t6 kr0).bind F = zih t6 (fun a0 => (kr0 a0).bind F) := by
  simp only [zih, z8, z6, zd, z7, ze, zc]
def zjj {R : Type}  (kr0 : Int → Option R) : Option R :=
  (kr0 (-1 : Int))
theorem zr9 {R S : Type} (F : R → Option S)  (kr0 : Int → Option R) : (zjj kr0).bind F = zjj (fun a0 => (kr0 a0).bind F) := by
  simp only [zjj, z8, z6, zd, z7, ze, zc]
def z7t : Nat → Zt14 → Int → ByteArray → Int → Option (Sum Int Unit)
  | 0, _, _, _, _ => none
  | k + 1, v0, v1, v2, v3 => z91 v0 v1 v2 v3 (fun a0 => some (.inl a0)) (fun a0 a1 a2 a3 => z7t k a0 a1 a2 a3) (some (.inr ()))
def Q164 (l_0 : Zt14) (n_1 : Int) (from_2 : ByteArray) : Option Int :=
  zaq l_0 n_1 from_2 (fun a0 a1 a2 a3 => (z7t FUEL a0 a1 a2 a3).bind fun e => (Sum.elim (fun (we : Int) => zih we (fun a0 => some a0)) (fun (we : Unit) => zjj (fun a0 => some a0)) e))
def zau {R : Type} (l_0 : Zt14) (kr0 : Int → Int → Option R) (go0 : Zt14 → Int → Option R) : Option R :=
  (bif (decide ((256 : Int) < ((List.length l_0) : Int))) then (kr0 (5 : Int) (256 : Int)) else (go0 l_0 (0 : Int)))
theorem zpq {R S : Type} (F : R → Option S) (l_0) (kr0) (go0) : (zau l_0 kr0 go0).bind F = zau l_0 (fun a0 a1 => (kr0 a0 a1).bind F) (fun a0 a1 => (go0 a0 a1).bind F) := by
  simp only [zau, z8, z6, zd, z7, ze, zc]
def z80 {R : Type} (l_0 : Zt14) (t4 : Int) (ex0_0 : Int → Int → Option R) (nx0 : Zt14 → Int → Option R) (ex0_1 : Option R) : Option R :=
  (bif (decide (t4 < ((List.length l_0) : Int))) then (zj t4 (List.length l_0) ((Q164 l_0 t4 (List.getD l_0 (t4).toNat ((bs []), (bs []), ())).1).bind fun r1 => (bif (decide ((0 : Int) ≤ r1)) then (ex0_0 (10 : Int) t4) else (nx0 l_0 (IntKind.i64.wrap (t4 + (1 : Int))))))) else (ex0_1))
theorem zpb {R S : Type} (F : R → Option S) (l_0) (t4) (ex0_0) (nx0) (ex0_1) : (z80 l_0 t4 ex0_0 nx0 ex0_1).bind F = z80 l_0 t4 (fun a0 a1 => (ex0_0 a0 a1).bind F) (fun a0 a1 => (nx0 a0 a1).bind F) ((ex0_1).bind F) := by
  simp only [z80, z8, z6, zd, z7, ze, zc]
def zjf {R : Type} (t2 : Int) (t3 : Int) (kr0 : Int → Int → Option R) : Option R :=
  (kr0 t2 t3)
theorem zof {R S : Type} (F : R → Option S) (t2) (t3) (kr0) : (zjf t2 t3 kr0).bind F = zjf t2 t3 (fun a0 a1 => (kr0 a0 a1).bind F) := by
  simp only [zjf, z8, z6, zd, z7, ze, zc]
def zjk {R : Type}  (kr0 : Int → Int → Option R) : Option R :=
  (kr0 (0 : Int) (0 : Int))
theorem zss {R S : Type} (F : R → Option S)  (kr0 : Int → Int → Option R) : (zjk kr0).bind F = zjk (fun a0 a1 => (kr0 a0 a1).bind F) := by
  simp only [zjk, z8, z6, zd, z7, ze, zc]
def z83 : Nat → Zt14 → Int → Option (Sum (Int × Int) Unit)
  | 0, _, _ => none
  | k + 1, v0, v1 => z80 v0 v1 (fun a0 a1 => some (.inl (a0, a1))) (fun a0 a1 => z83 k a0 a1) (some (.inr ()))
def Q160 (l_0 : Zt14) : Option (Int × Int) :=
  zau l_0 (fun a0 a1 => some (a0, a1)) (fun a0 a1 => (z83 FUEL a0 a1).bind fun e => (Sum.elim (fun (we : (Int × Int)) => zjf we.1 we.2 (fun a0 a1 => some (a0, a1))) (fun (we : Unit) => zjk (fun a0 a1 => some (a0, a1))) e))
def za0 {R : Type} (l_0 : Zt14) (text_1 : ByteArray) (kr0 : ByteArray → Bool → Option R) : Option R :=
  ((Q164 l_0 ((List.length l_0) : Int) text_1).bind fun r1 => (bif (decide (r1 < (0 : Int))) then (kr0 (bs []) false) else (zj r1 (List.length l_0) (kr0 (List.getD l_0 (r1).toNat ((bs []), (bs []), ())).2.1 true))))
theorem z1cb {R S : Type} (F : R → Option S) (l_0) (text_1) (kr0) : (za0 l_0 text_1 kr0).bind F = za0 l_0 text_1 (fun a0 a1 => (kr0 a0 a1).bind F) := by
  simp only [za0, z8, z6, zd, z7, ze, zc]
def Q158 (l_0 : Zt14) (text_1 : ByteArray) : Option Zt4 :=
  za0 l_0 text_1 (fun a0 a1 => some (a0, a1))
def zeg {R : Type} (l_0 : Zt14) (go0 : Zt14 → Zt14 → Int → Option R) : Option R :=
  (go0 l_0 ([] : List Zt10) (0 : Int))
theorem zlc {R S : Type} (F : R → Option S) (l_0) (go0) : (zeg l_0 go0).bind F = zeg l_0 (fun a0 a1 a2 => (go0 a0 a1 a2).bind F) := by
  simp only [zeg, z8, z6, zd, z7, ze, zc]
def zeb {R : Type} (l_0 : Zt14) (t3 : Zt14) (t4 : Int) (nx0 : Zt14 → Zt14 → Int → Option R) (ex0_0 : Zt14 → Option R) : Option R :=
  (bif (decide (t4 < ((List.length l_0) : Int))) then (zj t4 (List.length l_0) (zj t4 (List.length l_0) (bif (decide (((List.length t3) + (List.length ([((List.getD l_0 (t4).toNat ((bs []), (bs []), ())).2.1, (List.getD l_0 (t4).toNat ((bs []), (bs []), ())).1, ())] : List Zt10))) * 32 ≤ 140737488355328)) then (nx0 l_0 (t3 ++ ([((List.getD l_0 (t4).toNat ((bs []), (bs []), ())).2.1, (List.getD l_0 (t4).toNat ((bs []), (bs []), ())).1, ())] : List Zt10)) (IntKind.i64.wrap (t4 + (1 : Int)))) else none))) else (ex0_0 t3))
theorem zn3 {R S : Type} (F : R → Option S) (l_0) (t3) (t4) (nx0) (ex0_0) : (zeb l_0 t3 t4 nx0 ex0_0).bind F = zeb l_0 t3 t4 (fun a0 a1 a2 => (nx0 a0 a1 a2).bind F) (fun a0 => (ex0_0 a0).bind F) := by
  simp only [zeb, z8, z6, zd, z7, ze, zc]
def zdv {R : Type} (t3 : Zt14) (kr0 : Zt14 → Option R) : Option R :=
  (kr0 t3)
theorem zlu {R S : Type} (F : R → Option S) (t3) (kr0) : (zdv t3 kr0).bind F = zdv t3 (fun a0 => (kr0 a0).bind F) := by
  simp only [zdv, z8, z6, zd, z7, ze, zc]
def zwc : Nat → Zt14 → Zt14 → Int → Option Zt14
  | 0, _, _, _ => none
  | k + 1, v0, v1, v2 => zeb v0 v1 v2 (fun a0 a1 a2 => zwc k a0 a1 a2) (fun a0 => some a0)
def Q163 (l_0 : Zt14) : Option Zt14 :=
  zeg l_0 (fun a0 a1 a2 => (zwc FUEL a0 a1 a2).bind fun e => zdv e (fun a0 => some a0))
end Groat
namespace Groat
open Go Go.Ref
def zbe {R : Type} (r_0 : Zt20) (kr0 : Bool → Option R) (go0 : Int → Zt20 → Option R) : Option R :=
  (bif (decide ((1200 : Int) < ((r_0.2.2.2.1).size : Int))) then (kr0 true) else (bif (decide ((300 : Int) < ((List.length r_0.2.2.2.2.1) : Int))) then (kr0 true) else (go0 (0 : Int) r_0)))
theorem zte {R S : Type} (F : R → Option S) (r_0) (kr0) (go0) : (zbe r_0 kr0 go0).bind F = zbe r_0 (fun a0 => (kr0 a0).bind F) (fun a0 a1 => (go0 a0 a1).bind F) := by
  simp only [zbe, z8, z6, zd, z7, ze, zc]
def z8v {R : Type} (t3 : Int) (bt1 : Zt20) (ex0_0 : Bool → Option R) (nx0 : Int → Zt20 → Option R) (ex0_1 : Option R) : Option R :=
  (bif (decide (t3 < ((List.length bt1.2.2.2.2.1) : Int))) then (zj t3 (List.length bt1.2.2.2.2.1) (bif (decide ((1200 : Int) < (((List.getD bt1.2.2.2.2.1 (t3).toNat ((bs []), (bs []), ())).1).size : Int))) then (ex0_0 true) else (zj t3 (List.length bt1.2.2.2.2.1) (bif (decide ((1200 : Int) < (((List.getD bt1.2.2.2.2.1 (t3).toNat ((bs []), (bs []), ())).2.1).size : Int))) then (ex0_0 true) else (nx0 (IntKind.i64.wrap (t3 + (1 : Int))) bt1))))) else (ex0_1))
theorem zq3 {R S : Type} (F : R → Option S) (t3) (bt1) (ex0_0) (nx0) (ex0_1) : (z8v t3 bt1 ex0_0 nx0 ex0_1).bind F = z8v t3 bt1 (fun a0 => (ex0_0 a0).bind F) (fun a0 a1 => (nx0 a0 a1).bind F) ((ex0_1).bind F) := by
  simp only [z8v, z8, z6, zd, z7, ze, zc]
def zhu {R : Type} (t2 : Bool) (kr0 : Bool → Option R) : Option R :=
  (kr0 t2)
theorem zm5 {R S : Type} (F : R → Option S) (t2) (kr0) : (zhu t2 kr0).bind F = zhu t2 (fun a0 => (kr0 a0).bind F) := by
  simp only [zhu, z8, z6, zd, z7, ze, zc]
def zex {R : Type}  (kr0 : Bool → Option R) : Option R :=
  (kr0 false)
theorem zm4 {R S : Type} (F : R → Option S)  (kr0 : Bool → Option R) : (zex kr0).bind F = zex (fun a0 => (kr0 a0).bind F) := by
  simp only [zex, z8, z6, zd, z7, ze, zc]
def z4i : Nat → Int → Zt20 → Option (Sum Bool Unit)
  | 0, _, _ => none
  | k + 1, v0, v1 => z8v v0 v1 (fun a0 => some (.inl a0)) (fun a0 a1 => z4i k a0 a1) (some (.inr ()))
def Q168 (r_0 : Zt20) : Option Bool :=
  zbe r_0 (fun a0 => some a0) (fun a0 a1 => (z4i FUEL a0 a1).bind fun e => (Sum.elim (fun (we : Bool) => zhu we (fun a0 => some a0)) (fun (we : Unit) => zex (fun a0 => some a0)) e))
def zaw {R : Type} (r_0 : Zt20) (kr0 : Zt20 → Option R) : Option R :=
  ((Q161 r_0.2.2.2.2.1).bind fun r1 => (kr0 (r_0.1, r_0.2.1, r_0.2.2.1, r_0.2.2.2.1, r1, ())))
theorem z18e {R S : Type} (F : R → Option S) (r_0) (kr0) : (zaw r_0 kr0).bind F = zaw r_0 (fun a0 => (kr0 a0).bind F) := by
  simp only [zaw, z8, z6, zd, z7, ze, zc]
def Q167 (r_0 : Zt20) : Option Zt20 :=
  zaw r_0 (fun a0 => some a0)
def zas {R : Type} (r_0 : Zt20) (a_1 : Zt18) (b_2 : Zt18) (jn0 : Bool → Zt20 → Zt18 → Zt18 → Option R) : Option R :=
  (bif (decide (r_0.1 < (1 : Int))) then (jn0 true r_0 a_1 b_2) else (jn0 (decide ((5 : Int) < r_0.1)) r_0 a_1 b_2))
theorem zpz {R S : Type} (F : R → Option S) (r_0) (a_1) (b_2) (jn0) : (zas r_0 a_1 b_2 jn0).bind F = zas r_0 a_1 b_2 (fun a0 a1 a2 a3 => (jn0 a0 a1 a2 a3).bind F) := by
  simp only [zas, z8, z6, zd, z7, ze, zc]
def zi6 {R : Type} (t23 : Bool) (bt3 : Zt20) (bt4 : Zt18) (bt5 : Zt18) (kr0 : Int → Option R) (jn1 : Zt20 → Zt18 → Zt18 → Option R) : Option R :=
  (bif t23 then (kr0 (1 : Int)) else (jn1 bt3 bt4 bt5))
theorem ztf {R S : Type} (F : R → Option S) (t23) (bt3) (bt4) (bt5) (kr0) (jn1) : (zi6 t23 bt3 bt4 bt5 kr0 jn1).bind F = zi6 t23 bt3 bt4 bt5 (fun a0 => (kr0 a0).bind F) (fun a0 a1 a2 => (jn1 a0 a1 a2).bind F) := by
  simp only [zi6, z8, z6, zd, z7, ze, zc]
def zbi {R : Type} (bt3 : Zt20) (bt4 : Zt18) (bt5 : Zt18) (jn2 : Int → Int → Bool → Zt20 → Zt18 → Zt18 → Option R) : Option R :=
  ((Q139 bt4 bt3.2.1).bind fun r1 => ((Q139 bt5 bt3.2.2.1).bind fun r2 => (bif (decide (bt3.1 = (3 : Int))) then (bif (!(decide (bt3.2.1 = (0 : Int)))) then (jn2 r1 r2 true bt3 bt4 bt5) else (bif (!(decide (bt3.1 = (3 : Int)))) then (jn2 r1 r2 (decide (r1 < (0 : Int))) bt3 bt4 bt5) else (jn2 r1 r2 false bt3 bt4 bt5))) else (bif (!(decide (bt3.1 = (3 : Int)))) then (jn2 r1 r2 (decide (r1 < (0 : Int))) bt3 bt4 bt5) else (jn2 r1 r2 false bt3 bt4 bt5)))))
theorem zl4 {R S : Type} (F : R → Option S) (bt3) (bt4) (bt5) (jn2) : (zbi bt3 bt4 bt5 jn2).bind F = zbi bt3 bt4 bt5 (fun a0 a1 a2 a3 a4 a5 => (jn2 a0 a1 a2 a3 a4 a5).bind F) := by
  simp only [zbi, z8, z6, zd, z7, ze, zc]
def zii {R : Type} (t7 : Int) (t8 : Int) (t48 : Bool) (bt3 : Zt20) (bt4 : Zt18) (bt5 : Zt18) (kr0 : Int → Option R) (jn3 : Int → Int → Zt20 → Zt18 → Zt18 → Option R) : Option R :=
  (bif t48 then (kr0 (9 : Int)) else (jn3 t7 t8 bt3 bt4 bt5))
theorem zmf {R S : Type} (F : R → Option S) (t7) (t8) (t48) (bt3) (bt4) (bt5) (kr0) (jn3) : (zii t7 t8 t48 bt3 bt4 bt5 kr0 jn3).bind F = zii t7 t8 t48 bt3 bt4 bt5 (fun a0 => (kr0 a0).bind F) (fun a0 a1 a2 a3 a4 => (jn3 a0 a1 a2 a3 a4).bind F) := by
  simp only [zii, z8, z6, zd, z7, ze, zc]
def za3 {R : Type} (t7 : Int) (t8 : Int) (bt3 : Zt20) (bt4 : Zt18) (bt5 : Zt18) (jn4 : Int → Int → Bool → Zt20 → Zt18 → Zt18 → Option R) : Option R :=
  (bif (decide (bt3.1 = (2 : Int))) then (bif (!(decide (bt3.2.2.1 = (0 : Int)))) then (jn4 t7 t8 true bt3 bt4 bt5) else (bif (!(decide (bt3.1 = (2 : Int)))) then (jn4 t7 t8 (decide (t8 < (0 : Int))) bt3 bt4 bt5) else (jn4 t7 t8 false bt3 bt4 bt5))) else (bif (!(decide (bt3.1 = (2 : Int)))) then (jn4 t7 t8 (decide (t8 < (0 : Int))) bt3 bt4 bt5) else (jn4 t7 t8 false bt3 bt4 bt5)))
theorem znx {R S : Type} (F : R → Option S) (t7) (t8) (bt3) (bt4) (bt5) (jn4) : (za3 t7 t8 bt3 bt4 bt5 jn4).bind F = za3 t7 t8 bt3 bt4 bt5 (fun a0 a1 a2 a3 a4 a5 => (jn4 a0 a1 a2 a3 a4 a5).bind F) := by
  simp only [za3, z8, z6, zd, z7, ze, zc]
def zhx {R : Type} (t7 : Int) (t8 : Int) (t65 : Bool) (bt3 : Zt20) (bt4 : Zt18) (bt5 : Zt18) (kr0 : Int → Option R) (jn5 : Int → Int → Zt20 → Zt18 → Zt18 → Option R) : Option R :=
  (bif t65 then (kr0 (9 : Int)) else (jn5 t7 t8 bt3 bt4 bt5))
theorem zon {R S : Type} (F : R → Option S) (t7) (t8) (t65) (bt3) (bt4) (bt5) (kr0) (jn5) : (zhx t7 t8 t65 bt3 bt4 bt5 kr0 jn5).bind F = zhx t7 t8 t65 bt3 bt4 bt5 (fun a0 => (kr0 a0).bind F) (fun a0 a1 a2 a3 a4 => (jn5 a0 a1 a2 a3 a4).bind F) := by
  simp only [zhx, z8, z6, zd, z7, ze, zc]
def zba {R : Type} (t7 : Int) (t8 : Int) (bt3 : Zt20) (bt4 : Zt18) (bt5 : Zt18) (jn6 : Int → Int → Bool → Zt20 → Zt18 → Zt18 → Option R) : Option R :=
  (bif (!(decide (bt3.2.2.2.1 = (bs [])))) then (bif (!(decide (bt3.1 = (3 : Int)))) then (jn6 t7 t8 true bt3 bt4 bt5) else (bif (decide ((0 : Int) < ((List.length bt3.2.2.2.2.1) : Int))) then (jn6 t7 t8 (!(decide (bt3.1 = (5 : Int)))) bt3 bt4 bt5) else (jn6 t7 t8 false bt3 bt4 bt5))) else (bif (decide ((0 : Int) < ((List.length bt3.2.2.2.2.1) : Int))) then (jn6 t7 t8 (!(decide (bt3.1 = (5 : Int)))) bt3 bt4 bt5) else (jn6 t7 t8 false bt3 bt4 bt5)))
theorem zrb {R S : Type} (F : R → Option S) (t7) (t8) (bt3) (bt4) (bt5) (jn6) : (zba t7 t8 bt3 bt4 bt5 jn6).bind F = zba t7 t8 bt3 bt4 bt5 (fun a0 a1 a2 a3 a4 a5 => (jn6 a0 a1 a2 a3 a4 a5).bind F) := by
  simp only [zba, z8, z6, zd, z7, ze, zc]
def zfg {R : Type} (t7 : Int) (t8 : Int) (t84 : Bool) (bt3 : Zt20) (bt4 : Zt18) (bt5 : Zt18) (kr0 : Int → Option R) (jn7 : Int → Int → Zt20 → Zt18 → Zt18 → Option R) : Option R :=
  (bif t84 then (kr0 (3 : Int)) else (jn7 t7 t8 bt3 bt4 bt5))
theorem zsm {R S : Type} (F : R → Option S) (t7) (t8) (t84) (bt3) (bt4) (bt5) (kr0) (jn7) : (zfg t7 t8 t84 bt3 bt4 bt5 kr0 jn7).bind F = zfg t7 t8 t84 bt3 bt4 bt5 (fun a0 => (kr0 a0).bind F) (fun a0 a1 a2 a3 a4 => (jn7 a0 a1 a2 a3 a4).bind F) := by
  simp only [zfg, z8, z6, zd, z7, ze, zc]
def za7 {R : Type} (t7 : Int) (t8 : Int) (bt3 : Zt20) (bt4 : Zt18) (bt5 : Zt18) (kr0 : Int → Option R) (jn8 : Option R) (jn9 : Bool → Option R) (jn10 : Int → Int → Bool → Zt20 → Zt18 → Zt18 → Option R) : Option R :=
  (bif (decide (bt3.1 = (1 : Int))) then (zj t8 (List.length bt5.2.2.1) (zj t7 (List.length bt4.2.2.1) ((Q135 (List.getD bt5.2.2.1 (t8).toNat ((0 : Int), (0 : Int), (0 : Int), (0 : Int), (0 : Int), ())) (List.getD bt4.2.2.1 (t7).toNat ((0 : Int), (0 : Int), (0 : Int), (0 : Int), (0 : Int), ()))).bind fun r3 => (bif (!r3) then (kr0 (6 : Int)) else (jn8))))) else (bif (decide (bt3.1 = (3 : Int))) then (zj t8 (List.length bt5.2.2.1) ((Q134 (List.getD bt5.2.2.1 (t8).toNat ((0 : Int), (0 : Int), (0 : Int), (0 : Int), (0 : Int), ())) bt3.2.2.2.1).bind fun r4 => (kr0 r4))) else (bif (decide (bt3.1 = (4 : Int))) then (zj t7 (List.length bt4.2.2.1) (zj t8 (List.length bt5.2.2.1) (bif (!(decide ((List.getD bt4.2.2.1 (t7).toNat ((0 : Int), (0 : Int), (0 : Int), (0 : Int), (0 : Int), ())).2.1 = (1 : Int)))) then (jn9 true) else (bif (!(decide ((List.getD bt4.2.2.1 (t7).toNat ((0 : Int), (0 : Int), (0 : Int), (0 : Int), (0 : Int), ())).2.2.1 = (1 : Int)))) then (jn9 true) else (bif (!(decide ((List.getD bt5.2.2.1 (t8).toNat ((0 : Int), (0 : Int), (0 : Int), (0 : Int), (0 : Int), ())).2.1 = (1 : Int)))) then (jn9 true) else (jn9 (!(decide ((List.getD bt5.2.2.1 (t8).toNat ((0 : Int), (0 : Int), (0 : Int), (0 : Int), (0 : Int), ())).2.2.1 = (1 : Int)))))))))) else (bif (decide (bt3.1 = (5 : Int))) then ((Q160 bt3.2.2.2.2.1).bind fun r5 => (bif (!(decide (r5.1 = (0 : Int)))) then (jn10 t7 t8 true bt3 bt4 bt5) else (jn10 t7 t8 (decide (((List.length bt3.2.2.2.2.1) : Int) = (0 : Int))) bt3 bt4 bt5))) else (jn8)))))
theorem zsi {R S : Type} (F : R → Option S) (t7) (t8) (bt3) (bt4) (bt5) (kr0) (jn8) (jn9) (jn10) : (za7 t7 t8 bt3 bt4 bt5 kr0 jn8 jn9 jn10).bind F = za7 t7 t8 bt3 bt4 bt5 (fun a0 => (kr0 a0).bind F) ((jn8).bind F) (fun a0 => (jn9 a0).bind F) (fun a0 a1 a2 a3 a4 a5 => (jn10 a0 a1 a2 a3 a4 a5).bind F) := by
  simp only [za7, z8, z6, zd, z7, ze, zc]
def zgy {R : Type}  (kr0 : Int → Option R) : Option R :=
  (kr0 (0 : Int))
theorem zt1 {R S : Type} (F : R → Option S)  (kr0 : Int → Option R) : (zgy kr0).bind F = zgy (fun a0 => (kr0 a0).bind F) := by
  simp only [zgy, z8, z6, zd, z7, ze, zc]
def zcq {R : Type} (t140 : Bool) (kr0 : Int → Option R) (jn8 : Option R) : Option R :=
  (bif t140 then (kr0 (6 : Int)) else (jn8))
theorem zkk {R S : Type} (F : R → Option S) (t140) (kr0) (jn8) : (zcq t140 kr0 jn8).bind F = zcq t140 (fun a0 => (kr0 a0).bind F) ((jn8).bind F) := by
  simp only [zcq, z8, z6, zd, z7, ze, zc]
def zd3 {R : Type} (t7 : Int) (t8 : Int) (t156 : Bool) (bt3 : Zt20) (bt4 : Zt18) (bt5 : Zt18) (kr0 : Int → Option R) (jn11 : Int → Int → Zt20 → Zt18 → Zt18 → Option R) : Option R :=
  (bif t156 then (kr0 (15 : Int)) else (jn11 t7 t8 bt3 bt4 bt5))
theorem zkg {R S : Type} (F : R → Option S) (t7) (t8) (t156) (bt3) (bt4) (bt5) (kr0) (jn11) : (zd3 t7 t8 t156 bt3 bt4 bt5 kr0 jn11).bind F = zd3 t7 t8 t156 bt3 bt4 bt5 (fun a0 => (kr0 a0).bind F) (fun a0 a1 a2 a3 a4 => (jn11 a0 a1 a2 a3 a4).bind F) := by
  simp only [zd3, z8, z6, zd, z7, ze, zc]
def z82 {R : Type} (t7 : Int) (t8 : Int) (bt3 : Zt20) (bt4 : Zt18) (bt5 : Zt18) (go0 : Int → Int → Int → Zt20 → Zt18 → Zt18 → Option R) : Option R :=
  (go0 t7 t8 (0 : Int) bt3 bt4 bt5)
theorem zke {R S : Type} (F : R → Option S) (t7) (t8) (bt3) (bt4) (bt5) (go0) : (z82 t7 t8 bt3 bt4 bt5 go0).bind F = z82 t7 t8 bt3 bt4 bt5 (fun a0 a1 a2 a3 a4 a5 => (go0 a0 a1 a2 a3 a4 a5).bind F) := by
  simp only [z82, z8, z6, zd, z7, ze, zc]
def z5x {R : Type} (t7 : Int) (t8 : Int) (t13 : Int) (bt3 : Zt20) (bt4 : Zt18) (bt5 : Zt18) (jn12 : Int → Int → Int → Zt20 → Zt18 → Zt18 → Option R) (ex0_0 : Option R) : Option R :=
  (bif (decide (t13 < ((List.length bt3.2.2.2.2.1) : Int))) then (jn12 t7 t8 t13 bt3 bt4 bt5) else (ex0_0))
theorem zkj {R S : Type} (F : R → Option S) (t7) (t8) (t13) (bt3) (bt4) (bt5) (jn12) (ex0_0) : (z5x t7 t8 t13 bt3 bt4 bt5 jn12 ex0_0).bind F = z5x t7 t8 t13 bt3 bt4 bt5 (fun a0 a1 a2 a3 a4 a5 => (jn12 a0 a1 a2 a3 a4 a5).bind F) ((ex0_0).bind F) := by
  simp only [z5x, z8, z6, zd, z7, ze, zc]
def z7o {R : Type} (t7 : Int) (t8 : Int) (t13 : Int) (bt3 : Zt20) (bt4 : Zt18) (bt5 : Zt18) (ex0_1 : Int → Option R) (jn13 : Int → Int → Int → Zt20 → Zt18 → Zt18 → Option R) : Option R :=
  (zj t7 (List.length bt4.2.2.1) (zj t13 (List.length bt3.2.2.2.2.1) ((Q134 (List.getD bt4.2.2.1 (t7).toNat ((0 : Int), (0 : Int), (0 : Int), (0 : Int), (0 : Int), ())) (List.getD bt3.2.2.2.2.1 (t13).toNat ((bs []), (bs []), ())).1).bind fun r6 => (bif (!(decide (r6 = (0 : Int)))) then (ex0_1 r6) else (jn13 t7 t8 t13 bt3 bt4 bt5)))))
theorem zkh {R S : Type} (F : R → Option S) (t7) (t8) (t13) (bt3) (bt4) (bt5) (ex0_1) (jn13) : (z7o t7 t8 t13 bt3 bt4 bt5 ex0_1 jn13).bind F = z7o t7 t8 t13 bt3 bt4 bt5 (fun a0 => (ex0_1 a0).bind F) (fun a0 a1 a2 a3 a4 a5 => (jn13 a0 a1 a2 a3 a4 a5).bind F) := by
  simp only [z7o, z8, z6, zd, z7, ze, zc]
def zc6 {R : Type}  (jn8 : Option R) : Option R :=
  (jn8)
theorem zkf {R S : Type} (F : R → Option S)  (jn8 : Option R) : (zc6 jn8).bind F = zc6 ((jn8).bind F) := by
  simp only [zc6, z8, z6, zd, z7, ze, zc]
def zcl {R : Type} (t6 : Int) (kr0 : Int → Option R) : Option R :=
  (kr0 t6)
theorem zkl {R S : Type} (F : R → Option S) (t6) (kr0) : (zcl t6 kr0).bind F = zcl t6 (fun a0 => (kr0 a0).bind F) := by
  simp only [zcl, z8, z6, zd, z7, ze, zc]
def z88 {R : Type} (t7 : Int) (t8 : Int) (t13 : Int) (bt3 : Zt20) (bt4 : Zt18) (bt5 : Zt18) (ex0_1 : Int → Option R) (jn14 : Int → Int → Int → Zt20 → Zt18 → Zt18 → Option R) : Option R :=
  (zj t8 (List.length bt5.2.2.1) (zj t13 (List.length bt3.2.2.2.2.1) ((Q134 (List.getD bt5.2.2.1 (t8).toNat ((0 : Int), (0 : Int), (0 : Int), (0 : Int), (0 : Int), ())) (List.getD bt3.2.2.2.2.1 (t13).toNat ((bs []), (bs []), ())).2.1).bind fun r7 => (bif (!(decide (r7 = (0 : Int)))) then (ex0_1 r7) else (jn14 t7 t8 t13 bt3 bt4 bt5)))))
theorem zkd {R S : Type} (F : R → Option S) (t7) (t8) (t13) (bt3) (bt4) (bt5) (ex0_1) (jn14) : (z88 t7 t8 t13 bt3 bt4 bt5 ex0_1 jn14).bind F = z88 t7 t8 t13 bt3 bt4 bt5 (fun a0 => (ex0_1 a0).bind F) (fun a0 a1 a2 a3 a4 a5 => (jn14 a0 a1 a2 a3 a4 a5).bind F) := by
  simp only [z88, z8, z6, zd, z7, ze, zc]
def z8r {R : Type} (t7 : Int) (t8 : Int) (t13 : Int) (bt3 : Zt20) (bt4 : Zt18) (bt5 : Zt18) (nx0 : Int → Int → Int → Zt20 → Zt18 → Zt18 → Option R) : Option R :=
  (nx0 t7 t8 (IntKind.i64.wrap (t13 + (1 : Int))) bt3 bt4 bt5)
theorem zkm {R S : Type} (F : R → Option S) (t7) (t8) (t13) (bt3) (bt4) (bt5) (nx0) : (z8r t7 t8 t13 bt3 bt4 bt5 nx0).bind F = z8r t7 t8 t13 bt3 bt4 bt5 (fun a0 a1 a2 a3 a4 a5 => (nx0 a0 a1 a2 a3 a4 a5).bind F) := by
  simp only [z8r, z8, z6, zd, z7, ze, zc]
def z4a : Nat → Int → Int → Int → Zt20 → Zt18 → Zt18 → Option (Sum Unit Int)
  | 0, _, _, _, _, _, _ => none
  | k + 1, v0, v1, v2, v3, v4, v5 => z5x v0 v1 v2 v3 v4 v5 (fun a0 a1 a2 a3 a4 a5 => z7o a0 a1 a2 a3 a4 a5 (fun a0 => some (.inr a0)) (fun a0 a1 a2 a3 a4 a5 => z88 a0 a1 a2 a3 a4 a5 (fun a0 => some (.inr a0)) (fun a0 a1 a2 a3 a4 a5 => z8r a0 a1 a2 a3 a4 a5 (fun a0 a1 a2 a3 a4 a5 => z4a k a0 a1 a2 a3 a4 a5)))) (some (.inl ()))
def ztx  : Option Int :=
  zgy (fun a0 => some a0)
def z12r (t140 : Bool) : Option Int :=
  zcq t140 (fun a0 => some a0) (ztx)
def zc3 (t7 : Int) (t8 : Int) (bt3 : Zt20) (bt4 : Zt18) (bt5 : Zt18) : Option Int :=
  z82 t7 t8 bt3 bt4 bt5 (fun a0 a1 a2 a3 a4 a5 => (z4a FUEL a0 a1 a2 a3 a4 a5).bind fun e => (Sum.elim (fun (we : Unit) => zc6 (ztx)) (fun (we : Int) => zcl we (fun a0 => some a0)) e))
def zy8 (t7 : Int) (t8 : Int) (t156 : Bool) (bt3 : Zt20) (bt4 : Zt18) (bt5 : Zt18) : Option Int :=
  zd3 t7 t8 t156 bt3 bt4 bt5 (fun a0 => some a0) (fun a0 a1 a2 a3 a4 => zc3 a0 a1 a2 a3 a4)
def zi8 (t7 : Int) (t8 : Int) (bt3 : Zt20) (bt4 : Zt18) (bt5 : Zt18) : Option Int :=
  za7 t7 t8 bt3 bt4 bt5 (fun a0 => some a0) (ztx) (fun a0 => z12r a0) (fun a0 a1 a2 a3 a4 a5 => zy8 a0 a1 a2 a3 a4 a5)
def z124 (t7 : Int) (t8 : Int) (t84 : Bool) (bt3 : Zt20) (bt4 : Zt18) (bt5 : Zt18) : Option Int :=
  zfg t7 t8 t84 bt3 bt4 bt5 (fun a0 => some a0) (fun a0 a1 a2 a3 a4 => zi8 a0 a1 a2 a3 a4)
def z8k (t7 : Int) (t8 : Int) (bt3 : Zt20) (bt4 : Zt18) (bt5 : Zt18) : Option Int :=
  zba t7 t8 bt3 bt4 bt5 (fun a0 a1 a2 a3 a4 a5 => z124 a0 a1 a2 a3 a4 a5)
def z12f (t7 : Int) (t8 : Int) (t65 : Bool) (bt3 : Zt20) (bt4 : Zt18) (bt5 : Zt18) : Option Int :=
  zhx t7 t8 t65 bt3 bt4 bt5 (fun a0 => some a0) (fun a0 a1 a2 a3 a4 => z8k a0 a1 a2 a3 a4)
def zhf (t7 : Int) (t8 : Int) (bt3 : Zt20) (bt4 : Zt18) (bt5 : Zt18) : Option Int :=
  za3 t7 t8 bt3 bt4 bt5 (fun a0 a1 a2 a3 a4 a5 => z12f a0 a1 a2 a3 a4 a5)
def z60 (t7 : Int) (t8 : Int) (t48 : Bool) (bt3 : Zt20) (bt4 : Zt18) (bt5 : Zt18) : Option Int :=
  zii t7 t8 t48 bt3 bt4 bt5 (fun a0 => some a0) (fun a0 a1 a2 a3 a4 => zhf a0 a1 a2 a3 a4)
def zvy (bt3 : Zt20) (bt4 : Zt18) (bt5 : Zt18) : Option Int :=
  zbi bt3 bt4 bt5 (fun a0 a1 a2 a3 a4 a5 => z60 a0 a1 a2 a3 a4 a5)
def z12i (t23 : Bool) (bt3 : Zt20) (bt4 : Zt18) (bt5 : Zt18) : Option Int :=
  zi6 t23 bt3 bt4 bt5 (fun a0 => some a0) (fun a0 a1 a2 => zvy a0 a1 a2)
def Q166 (r_0 : Zt20) (a_1 : Zt18) (b_2 : Zt18) : Option Int :=
  zas r_0 a_1 b_2 (fun a0 a1 a2 a3 => z12i a0 a1 a2 a3)
end Groat
namespace Groat
open Go Go.Ref
def zeq {R : Type} (r_0 : Zt20) (b_1 : Zt18) (text_2 : ByteArray) (kr0 : Zt8 → Int → Option R) : Option R :=
  (bif (decide (r_0.1 = (1 : Int))) then (kr0 (r_0.2.2.1, text_2, ()) (0 : Int)) else (bif (decide (r_0.1 = (2 : Int))) then (kr0 ((0 : Int), (bs []), ()) (0 : Int)) else (bif (decide (r_0.1 = (3 : Int))) then (kr0 (r_0.2.2.1, r_0.2.2.2.1, ()) (0 : Int)) else (bif (decide (r_0.1 = (4 : Int))) then ((Q255 b_1 r_0.2.2.1).bind fun r1 => (bif (!r1.2) then (kr0 ((0 : Int), (bs []), ()) (9 : Int)) else ((Q30 text_2 r1.1.2.2.2.1).bind fun r2 => (bif (!r2.2) then (kr0 ((0 : Int), (bs []), ()) (5 : Int)) else (kr0 (r_0.2.2.1, r2.1, ()) (0 : Int)))))) else (bif (decide (r_0.1 = (5 : Int))) then ((Q20 r_0.2.2.2.2.1 text_2).bind fun r3 => (bif (!r3.2) then (kr0 ((0 : Int), (bs []), ()) (15 : Int)) else (kr0 (r_0.2.2.1, r3.1, ()) (0 : Int)))) else (kr0 ((0 : Int), (bs []), ()) (1 : Int)))))))
theorem z1b5 {R S : Type} (F : R → Option S) (r_0) (b_1) (text_2) (kr0) : (zeq r_0 b_1 text_2 kr0).bind F = zeq r_0 b_1 text_2 (fun a0 a1 => (kr0 a0 a1).bind F) := by
  simp only [zeq, z8, z6, zd, z7, ze, zc]
def Q249 (r_0 : Zt20) (b_1 : Zt18) (text_2 : ByteArray) : Option (Zt8 × Int) :=
  zeq r_0 b_1 text_2 (fun a0 a1 => some (a0, a1))
def za8 {R : Type} (r_0 : Zt20) (a_1 : Zt18) (b_2 : Zt18) (kr0 : Zt13 → Zt13 → Int → Option R) : Option R :=
  ((Q255 a_1 r_0.2.1).bind fun r1 => ((Q255 b_2 r_0.2.2.1).bind fun r2 => (bif (decide (r_0.1 = (3 : Int))) then (bif (decide (r_0.1 = (2 : Int))) then (bif (!(decide (r_0.2.1 = (0 : Int)))) then (kr0 r1.1 r2.1 (9 : Int)) else (bif (!(decide (r_0.2.2.1 = (0 : Int)))) then (kr0 r1.1 r2.1 (9 : Int)) else (kr0 r1.1 r2.1 (0 : Int)))) else (bif (!(decide (r_0.2.1 = (0 : Int)))) then (kr0 r1.1 r2.1 (9 : Int)) else (bif (!r2.2) then (kr0 r1.1 r2.1 (9 : Int)) else (kr0 r1.1 r2.1 (0 : Int))))) else (bif (decide (r_0.1 = (2 : Int))) then (bif (!r1.2) then (kr0 r1.1 r2.1 (9 : Int)) else (bif (!(decide (r_0.2.2.1 = (0 : Int)))) then (kr0 r1.1 r2.1 (9 : Int)) else (kr0 r1.1 r2.1 (0 : Int)))) else (bif (!r1.2) then (kr0 r1.1 r2.1 (9 : Int)) else (bif (!r2.2) then (kr0 r1.1 r2.1 (9 : Int)) else (kr0 r1.1 r2.1 (0 : Int))))))))
theorem z17e {R S : Type} (F : R → Option S) (r_0) (a_1) (b_2) (kr0) : (za8 r_0 a_1 b_2 kr0).bind F = za8 r_0 a_1 b_2 (fun a0 a1 a2 => (kr0 a0 a1 a2).bind F) := by
  simp only [za8, z8, z6, zd, z7, ze, zc]
def Q251 (r_0 : Zt20) (a_1 : Zt18) (b_2 : Zt18) : Option (Zt13 × Zt13 × Int) :=
  za8 r_0 a_1 b_2 (fun a0 a1 a2 => some (a0, a1, a2))
def zar {R : Type} (s_0 : Zt13) (kr0 : Bool → Option R) : Option R :=
  (bif (decide (s_0.2.1 = (1 : Int))) then (kr0 (decide (s_0.2.2.1 = (1 : Int)))) else (kr0 false))
theorem z1as {R S : Type} (F : R → Option S) (s_0) (kr0) : (zar s_0 kr0).bind F = zar s_0 (fun a0 => (kr0 a0).bind F) := by
  simp only [zar, z8, z6, zd, z7, ze, zc]
def Q252 (s_0 : Zt13) : Option Bool :=
  zar s_0 (fun a0 => some a0)
def zb8 {R : Type} (l_0 : Zt14) (from_1 : Zt13) (to_2 : Zt13) (kr0 : Int → Option R) (go0 : Zt14 → Int → Int → Zt13 → Zt13 → Option R) : Option R :=
  ((Q22 l_0).bind fun r1 => (bif (!(decide (r1.1 = (0 : Int)))) then (kr0 (15 : Int)) else (bif (decide (((List.length l_0) : Int) = (0 : Int))) then (kr0 (15 : Int)) else (go0 l_0 ((List.length l_0) : Int) (0 : Int) from_1 to_2))))
theorem zm8 {R S : Type} (F : R → Option S) (l_0) (from_1) (to_2) (kr0) (go0) : (zb8 l_0 from_1 to_2 kr0 go0).bind F = zb8 l_0 from_1 to_2 (fun a0 => (kr0 a0).bind F) (fun a0 a1 a2 a3 a4 => (go0 a0 a1 a2 a3 a4).bind F) := by
  simp only [zb8, z8, z6, zd, z7, ze, zc]
def zh0 {R : Type} (t25 : Zt14) (t26 : Int) (t27 : Int) (bt4 : Zt13) (bt5 : Zt13) (ex0_0 : Int → Option R) (nx0 : Zt14 → Int → Int → Zt13 → Zt13 → Option R) (ex0_1 : Option R) : Option R :=
  (bif (decide (t27 < t26)) then (zj t27 (List.length t25) ((Q266 bt4 (List.getD t25 (t27).toNat ((bs []), (bs []), ())).1).bind fun r2 => (bif (!(decide (r2 = (0 : Int)))) then (ex0_0 r2) else ((Q266 bt5 (List.getD t25 (t27).toNat ((bs []), (bs []), ())).2.1).bind fun r3 => (bif (!(decide (r3 = (0 : Int)))) then (ex0_0 r3) else (nx0 t25 t26 (IntKind.i64.wrap (t27 + (1 : Int))) bt4 bt5)))))) else (ex0_1))
theorem zmo {R S : Type} (F : R → Option S) (t25) (t26) (t27) (bt4) (bt5) (ex0_0) (nx0) (ex0_1) : (zh0 t25 t26 t27 bt4 bt5 ex0_0 nx0 ex0_1).bind F = zh0 t25 t26 t27 bt4 bt5 (fun a0 => (ex0_0 a0).bind F) (fun a0 a1 a2 a3 a4 => (nx0 a0 a1 a2 a3 a4).bind F) ((ex0_1).bind F) := by
  simp only [zh0, z8, z6, zd, z7, ze, zc]
def zgk {R : Type} (t6 : Int) (kr0 : Int → Option R) : Option R :=
  (kr0 t6)
theorem zlg {R S : Type} (F : R → Option S) (t6) (kr0) : (zgk t6 kr0).bind F = zgk t6 (fun a0 => (kr0 a0).bind F) := by
  simp only [zgk, z8, z6, zd, z7, ze, zc]
def zj3 {R : Type}  (kr0 : Int → Option R) : Option R :=
  (kr0 (0 : Int))
theorem zpu {R S : Type} (F : R → Option S)  (kr0 : Int → Option R) : (zj3 kr0).bind F = zj3 (fun a0 => (kr0 a0).bind F) := by
  simp only [zj3, z8, z6, zd, z7, ze, zc]
def zid : Nat → Zt14 → Int → Int → Zt13 → Zt13 → Option (Sum Int Unit)
  | 0, _, _, _, _, _ => none
  | k + 1, v0, v1, v2, v3, v4 => zh0 v0 v1 v2 v3 v4 (fun a0 => some (.inl a0)) (fun a0 a1 a2 a3 a4 => zid k a0 a1 a2 a3 a4) (some (.inr ()))
def Q253 (l_0 : Zt14) (from_1 : Zt13) (to_2 : Zt13) : Option Int :=
  zb8 l_0 from_1 to_2 (fun a0 => some a0) (fun a0 a1 a2 a3 a4 => (zid FUEL a0 a1 a2 a3 a4).bind fun e => (Sum.elim (fun (we : Int) => zgk we (fun a0 => some a0)) (fun (we : Unit) => zj3 (fun a0 => some a0)) e))
def zbd {R : Type} (r_0 : Zt20) (a_1 : Zt18) (b_2 : Zt18) (kr0 : Int → Option R) : Option R :=
  (bif (decide (r_0.1 < (1 : Int))) then (kr0 (1 : Int)) else (bif (decide ((5 : Int) < r_0.1)) then (kr0 (1 : Int)) else ((Q251 r_0 a_1 b_2).bind fun r1 => (bif (!(decide (r1.2.2 = (0 : Int)))) then (kr0 r1.2.2) else (bif (!(decide (r_0.2.2.2.1 = (bs [])))) then (bif (!(decide (r_0.1 = (3 : Int)))) then (kr0 (3 : Int)) else (bif (decide ((0 : Int) < ((List.length r_0.2.2.2.2.1) : Int))) then (bif (!(decide (r_0.1 = (5 : Int)))) then (kr0 (3 : Int)) else (bif (decide (r_0.1 = (1 : Int))) then ((Q267 r1.2.1 r1.1).bind fun r2 => (bif (!r2) then (kr0 (6 : Int)) else (kr0 (0 : Int)))) else (bif (decide (r_0.1 = (3 : Int))) then ((Q266 r1.2.1 r_0.2.2.2.1).bind fun r3 => (kr0 r3)) else (bif (decide (r_0.1 = (4 : Int))) then ((Q252 r1.1).bind fun r4 => (bif (!r4) then (kr0 (6 : Int)) else ((Q252 r1.2.1).bind fun r5 => (bif (!r5) then (kr0 (6 : Int)) else (kr0 (0 : Int)))))) else (bif (decide (r_0.1 = (5 : Int))) then ((Q253 r_0.2.2.2.2.1 r1.1 r1.2.1).bind fun r6 => (kr0 r6)) else (kr0 (0 : Int))))))) else (bif (decide (r_0.1 = (1 : Int))) then ((Q267 r1.2.1 r1.1).bind fun r7 => (bif (!r7) then (kr0 (6 : Int)) else (kr0 (0 : Int)))) else (bif (decide (r_0.1 = (3 : Int))) then ((Q266 r1.2.1 r_0.2.2.2.1).bind fun r8 => (kr0 r8)) else (bif (decide (r_0.1 = (4 : Int))) then ((Q252 r1.1).bind fun r9 => (bif (!r9) then (kr0 (6 : Int)) else ((Q252 r1.2.1).bind fun r10 => (bif (!r10) then (kr0 (6 : Int)) else (kr0 (0 : Int)))))) else (bif (decide (r_0.1 = (5 : Int))) then ((Q253 r_0.2.2.2.2.1 r1.1 r1.2.1).bind fun r11 => (kr0 r11)) else (kr0 (0 : Int)))))))) else (bif (decide ((0 : Int) < ((List.length r_0.2.2.2.2.1) : Int))) then (bif (!(decide (r_0.1 = (5 : Int)))) then (kr0 (3 : Int)) else (bif (decide (r_0.1 = (1 : Int))) then ((Q267 r1.2.1 r1.1).bind fun r12 => (bif (!r12) then (kr0 (6 : Int)) else (kr0 (0 : Int)))) else (bif (decide (r_0.1 = (3 : Int))) then ((Q266 r1.2.1 r_0.2.2.2.1).bind fun r13 => (kr0 r13)) else (bif (decide (r_0.1 = (4 : Int))) then ((Q252 r1.1).bind fun r14 => (bif (!r14) then (kr0 (6 : Int)) else ((Q252 r1.2.1).bind fun r15 => (bif (!r15) then (kr0 (6 : Int)) else (kr0 (0 : Int)))))) else (bif (decide (r_0.1 = (5 : Int))) then ((Q253 r_0.2.2.2.2.1 r1.1 r1.2.1).bind fun r16 => (kr0 r16)) else (kr0 (0 : Int))))))) else (bif (decide (r_0.1 = (1 : Int))) then ((Q267 r1.2.1 r1.1).bind fun r17 => (bif (!r17) then (kr0 (6 : Int)) else (kr0 (0 : Int)))) else (bif (decide (r_0.1 = (3 : Int))) then ((Q266 r1.2.1 r_0.2.2.2.1).bind fun r18 => (kr0 r18)) else (bif (decide (r_0.1 = (4 : Int))) then ((Q252 r1.1).bind fun r19 => (bif (!r19) then (kr0 (6 : Int)) else ((Q252 r1.2.1).bind fun r20 => (bif (!r20) then (kr0 (6 : Int)) else (kr0 (0 : Int)))))) else (bif (decide (r_0.1 = (5 : Int))) then ((Q253 r_0.2.2.2.2.1 r1.1 r1.2.1).bind fun r21 => (kr0 r21)) else (kr0 (0 : Int))))))))))))
theorem z163 {R S : Type} (F : R → Option S) (r_0) (a_1) (b_2) (kr0) : (zbd r_0 a_1 b_2 kr0).bind F = zbd r_0 a_1 b_2 (fun a0 => (kr0 a0).bind F) := by
  simp only [zbd, z8, z6, zd, z7, ze, zc]
def Q250 (r_0 : Zt20) (a_1 : Zt18) (b_2 : Zt18) : Option Int :=
  zbd r_0 a_1 b_2 (fun a0 => some a0)
end Groat
namespace Groat
open Go Go.Ref
def z9t {R : Type} (m_0 : ByteArray) (kr0 : Bool → Option R) : Option R :=
  (bif (decide (((m_0).size : Int) = (4 : Int))) then ((Q103 m_0).bind fun r1 => (kr0 r1)) else (kr0 false))
theorem z16t {R S : Type} (F : R → Option S) (m_0) (kr0) : (z9t m_0 kr0).bind F = z9t m_0 (fun a0 => (kr0 a0).bind F) := by
  simp only [z9t, z8, z6, zd, z7, ze, zc]
def Q148 (m_0 : ByteArray) : Option Bool :=
  z9t m_0 (fun a0 => some a0)
def zaa {R : Type} (m_0 : ByteArray) (kr0 : Bool → Option R) : Option R :=
  ((Q105 m_0).bind fun r1 => (bif r1.2 then (bif (decide (((m_0).size : Int) = (4 : Int))) then (bif (decide ((Int.tmod (IntKind.i64.wrap (Int.tdiv r1.1 (10 : Int))) (10 : Int)) = (0 : Int))) then (kr0 true) else (kr0 (decide ((Int.tmod (IntKind.i64.wrap (Int.tdiv r1.1 (10 : Int))) (10 : Int)) = (2 : Int))))) else (kr0 false)) else (kr0 false)))
theorem z180 {R S : Type} (F : R → Option S) (m_0) (kr0) : (zaa m_0 kr0).bind F = zaa m_0 (fun a0 => (kr0 a0).bind F) := by
  simp only [zaa, z8, z6, zd, z7, ze, zc]
def Q146 (m_0 : ByteArray) : Option Bool :=
  zaa m_0 (fun a0 => some a0)
end Groat
namespace Groat
open Go Go.Ref
end Groat
namespace Groat
open Go Go.Ref
def zab {R : Type} (m_0 : Zt24) (kr0 : Bool → Option R) (go0 : Int → Zt24 → Option R) : Option R :=
  (bif (decide ((300 : Int) < ((List.length m_0.1) : Int))) then (kr0 true) else (bif (decide ((300 : Int) < ((List.length m_0.2.1) : Int))) then (kr0 true) else (go0 (0 : Int) m_0)))
theorem zcz {R S : Type} (F : R → Option S) (m_0) (kr0) (go0) : (zab m_0 kr0 go0).bind F = zab m_0 (fun a0 => (kr0 a0).bind F) (fun a0 a1 => (go0 a0 a1).bind F) := by
  simp only [zab, z8, z6, zd, z7, ze, zc]
def z7x {R : Type} (t3 : Int) (bt1 : Zt24) (ex0_0 : Bool → Zt24 → Option R) (nx0 : Int → Zt24 → Option R) (ex0_1 : Zt24 → Option R) : Option R :=
  (bif (decide (t3 < ((List.length bt1.1) : Int))) then (zj t3 (List.length bt1.1) (bif (decide ((100 : Int) < (((List.getD bt1.1 (t3).toNat ((bs []), (bs []), ())).1).size : Int))) then (ex0_0 true bt1) else (zj t3 (List.length bt1.1) (bif (decide ((100 : Int) < (((List.getD bt1.1 (t3).toNat ((bs []), (bs []), ())).2.1).size : Int))) then (ex0_0 true bt1) else (nx0 (IntKind.i64.wrap (t3 + (1 : Int))) bt1))))) else (ex0_1 bt1))
theorem zcy {R S : Type} (F : R → Option S) (t3) (bt1) (ex0_0) (nx0) (ex0_1) : (z7x t3 bt1 ex0_0 nx0 ex0_1).bind F = z7x t3 bt1 (fun a0 a1 => (ex0_0 a0 a1).bind F) (fun a0 a1 => (nx0 a0 a1).bind F) (fun a0 => (ex0_1 a0).bind F) := by
  simp only [z7x, z8, z6, zd, z7, ze, zc]
def zfz {R : Type} (t2 : Bool) (bt1 : Zt24) (kr0 : Bool → Option R) : Option R :=
  (kr0 t2)
theorem zc4 {R S : Type} (F : R → Option S) (t2) (bt1) (kr0) : (zfz t2 bt1 kr0).bind F = zfz t2 bt1 (fun a0 => (kr0 a0).bind F) := by
  simp only [zfz, z8, z6, zd, z7, ze, zc]
def zbr {R : Type} (bt1 : Zt24) (go1 : Int → Zt24 → Option R) : Option R :=
  (go1 (0 : Int) bt1)
theorem zd7 {R S : Type} (F : R → Option S) (bt1) (go1) : (zbr bt1 go1).bind F = zbr bt1 (fun a0 a1 => (go1 a0 a1).bind F) := by
  simp only [zbr, z8, z6, zd, z7, ze, zc]
def zfv {R : Type} (t4 : Int) (bt1 : Zt24) (ex1_0 : Bool → Option R) (nx1 : Int → Zt24 → Option R) (ex1_1 : Option R) : Option R :=
  (bif (decide (t4 < ((List.length bt1.2.1) : Int))) then (zj t4 (List.length bt1.2.1) ((Q168 (List.getD bt1.2.1 (t4).toNat ((0 : Int), (0 : Int), (0 : Int), (bs []), ([] : List Zt10), ()))).bind fun r1 => (bif r1 then (ex1_0 true) else (nx1 (IntKind.i64.wrap (t4 + (1 : Int))) bt1)))) else (ex1_1))
theorem zcf {R S : Type} (F : R → Option S) (t4) (bt1) (ex1_0) (nx1) (ex1_1) : (zfv t4 bt1 ex1_0 nx1 ex1_1).bind F = zfv t4 bt1 (fun a0 => (ex1_0 a0).bind F) (fun a0 a1 => (nx1 a0 a1).bind F) ((ex1_1).bind F) := by
  simp only [zfv, z8, z6, zd, z7, ze, zc]
def zfh {R : Type} (t2 : Bool) (kr0 : Bool → Option R) : Option R :=
  (kr0 t2)
theorem zdb {R S : Type} (F : R → Option S) (t2) (kr0) : (zfh t2 kr0).bind F = zfh t2 (fun a0 => (kr0 a0).bind F) := by
  simp only [zfh, z8, z6, zd, z7, ze, zc]
def zi1 {R : Type}  (kr0 : Bool → Option R) : Option R :=
  (kr0 false)
theorem zd1 {R S : Type} (F : R → Option S)  (kr0 : Bool → Option R) : (zi1 kr0).bind F = zi1 (fun a0 => (kr0 a0).bind F) := by
  simp only [zi1, z8, z6, zd, z7, ze, zc]
def z4k : Nat → Int → Zt24 → Option (Sum (Bool × Zt24) Zt24)
  | 0, _, _ => none
  | k + 1, v0, v1 => z7x v0 v1 (fun a0 a1 => some (.inl (a0, a1))) (fun a0 a1 => z4k k a0 a1) (fun a0 => some (.inr a0))
def zgw : Nat → Int → Zt24 → Option (Sum Bool Unit)
  | 0, _, _ => none
  | k + 1, v0, v1 => zfv v0 v1 (fun a0 => some (.inl a0)) (fun a0 a1 => zgw k a0 a1) (some (.inr ()))
def Q171 (m_0 : Zt24) : Option Bool :=
  zab m_0 (fun a0 => some a0) (fun a0 a1 => (z4k FUEL a0 a1).bind fun e => (Sum.elim (fun (we : (Bool × Zt24)) => zfz we.1 we.2 (fun a0 => some a0)) (fun (we : Zt24) => zbr we (fun a0 a1 => (zgw FUEL a0 a1).bind fun e => (Sum.elim (fun (we : Bool) => zfh we (fun a0 => some a0)) (fun (we : Unit) => zi1 (fun a0 => some a0)) e))) e))
def zb4 {R : Type} (m_0 : Zt24) (go0 : Int → Zt24 → Zt24 → Zt24 → Option R) : Option R :=
  ((Q161 m_0.1).bind fun r1 => (go0 (0 : Int) m_0 (([] : List Zt10), ([] : List Zt20), ()) (r1, ([] : List Zt20), ())))
theorem znt {R S : Type} (F : R → Option S) (m_0) (go0) : (zb4 m_0 go0).bind F = zb4 m_0 (fun a0 a1 a2 a3 => (go0 a0 a1 a2 a3).bind F) := by
  simp only [zb4, z8, z6, zd, z7, ze, zc]
def zjc {R : Type} (t4 : Int) (bt1 : Zt24) (bt2 : Zt24) (bt3 : Zt24) (nx0 : Int → Zt24 → Zt24 → Zt24 → Option R) (ex0_0 : Zt24 → Zt24 → Option R) : Option R :=
  (bif (decide (t4 < ((List.length bt1.2.1) : Int))) then (zj t4 (List.length bt1.2.1) ((Q167 (List.getD bt1.2.1 (t4).toNat ((0 : Int), (0 : Int), (0 : Int), (bs []), ([] : List Zt10), ()))).bind fun r2 => (bif (decide (((List.length bt3.2.1) + (List.length ([r2] : List Zt20))) * 64 ≤ 140737488355328)) then (nx0 (IntKind.i64.wrap (t4 + (1 : Int))) bt1 bt2 (bt3.1, (bt3.2.1 ++ ([r2] : List Zt20)), ())) else none))) else (ex0_0 bt2 bt3))
theorem zpt {R S : Type} (F : R → Option S) (t4) (bt1) (bt2) (bt3) (nx0) (ex0_0) : (zjc t4 bt1 bt2 bt3 nx0 ex0_0).bind F = zjc t4 bt1 bt2 bt3 (fun a0 a1 a2 a3 => (nx0 a0 a1 a2 a3).bind F) (fun a0 a1 => (ex0_0 a0 a1).bind F) := by
  simp only [zjc, z8, z6, zd, z7, ze, zc]
def zho {R : Type} (bt2 : Zt24) (bt3 : Zt24) (kr0 : Zt24 → Option R) : Option R :=
  (kr0 bt3)
theorem zok {R S : Type} (F : R → Option S) (bt2) (bt3) (kr0) : (zho bt2 bt3 kr0).bind F = zho bt2 bt3 (fun a0 => (kr0 a0).bind F) := by
  simp only [zho, z8, z6, zd, z7, ze, zc]
def zer : Nat → Int → Zt24 → Zt24 → Zt24 → Option (Zt24 × Zt24)
  | 0, _, _, _, _ => none
  | k + 1, v0, v1, v2, v3 => zjc v0 v1 v2 v3 (fun a0 a1 a2 a3 => zer k a0 a1 a2 a3) (fun a0 a1 => some (a0, a1))
def Q170 (m_0 : Zt24) : Option Zt24 :=
  zb4 m_0 (fun a0 a1 a2 a3 => (zer FUEL a0 a1 a2 a3).bind fun e => zho e.1 e.2 (fun a0 => some a0))
def za6 {R : Type} (m_0 : ByteArray) (v_1 : Int) (kr0 : Bool → Option R) : Option R :=
  ((Q148 m_0).bind fun r1 => (bif r1 then (zj (0 : Int) (m_0).size (kr0 (decide ((IntKind.i64.wrap ((IntKind.i64.wrap (zn m_0 ((0 : Int)).toNat)) - (48 : Int))) = v_1)))) else (kr0 false)))
theorem z1a7 {R S : Type} (F : R → Option S) (m_0) (v_1) (kr0) : (za6 m_0 v_1 kr0).bind F = za6 m_0 v_1 (fun a0 => (kr0 a0).bind F) := by
  simp only [za6, z8, z6, zd, z7, ze, zc]
def Q176 (m_0 : ByteArray) (v_1 : Int) : Option Bool :=
  za6 m_0 v_1 (fun a0 => some a0)
def zbb {R : Type} (a_0 : Zt20) (b_1 : Zt20) (kr0 : Bool → Option R) : Option R :=
  (bif (!(decide (a_0.2.1 = (0 : Int)))) then (bif (decide (a_0.2.1 = b_1.2.1)) then (kr0 true) else (bif (!(decide (a_0.2.2.1 = (0 : Int)))) then (kr0 (decide (a_0.2.2.1 = b_1.2.2.1))) else (kr0 false))) else (bif (!(decide (a_0.2.2.1 = (0 : Int)))) then (kr0 (decide (a_0.2.2.1 = b_1.2.2.1))) else (kr0 false)))
theorem z19z {R S : Type} (F : R → Option S) (a_0) (b_1) (kr0) : (zbb a_0 b_1 kr0).bind F = zbb a_0 b_1 (fun a0 => (kr0 a0).bind F) := by
  simp only [zbb, z8, z6, zd, z7, ze, zc]
def Q175 (a_0 : Zt20) (b_1 : Zt20) : Option Bool :=
  zbb a_0 b_1 (fun a0 => some a0)
def z9j {R : Type} (m_0 : Zt24) (a_1 : Zt18) (b_2 : Zt18) (kr0 : Int → Int → Int → Option R) (go0 : Int → Zt24 → Zt18 → Zt18 → Option R) : Option R :=
  ((Q141 a_1).bind fun r1 => (bif (!r1) then (kr0 (1 : Int) (1 : Int) (0 : Int)) else ((Q141 b_2).bind fun r2 => (bif (!r2) then (kr0 (1 : Int) (1 : Int) (1 : Int)) else (bif (decide ((256 : Int) < ((List.length m_0.1) : Int))) then (kr0 (5 : Int) (2 : Int) (256 : Int)) else (go0 (0 : Int) m_0 a_1 b_2))))))
theorem z6f {R S : Type} (F : R → Option S) (m_0) (a_1) (b_2) (kr0) (go0) : (z9j m_0 a_1 b_2 kr0 go0).bind F = z9j m_0 a_1 b_2 (fun a0 a1 a2 => (kr0 a0 a1 a2).bind F) (fun a0 a1 a2 a3 => (go0 a0 a1 a2 a3).bind F) := by
  simp only [z9j, z8, z6, zd, z7, ze, zc]
def z8x {R : Type} (t9 : Int) (bt3 : Zt24) (bt4 : Zt18) (bt5 : Zt18) (ex0_0 : Int → Int → Int → Zt24 → Zt18 → Zt18 → Option R) (nx0 : Int → Zt24 → Zt18 → Zt18 → Option R) (ex0_1 : Zt24 → Zt18 → Zt18 → Option R) : Option R :=
  (bif (decide (t9 < ((List.length bt3.1) : Int))) then (zj t9 (List.length bt3.1) ((Q176 (List.getD bt3.1 (t9).toNat ((bs []), (bs []), ())).1 bt4.2.1).bind fun r3 => (bif (!r3) then (ex0_0 (7 : Int) (2 : Int) t9 bt3 bt4 bt5) else ((Q176 (List.getD bt3.1 (t9).toNat ((bs []), (bs []), ())).2.1 bt5.2.1).bind fun r4 => (bif (!r4) then (ex0_0 (7 : Int) (2 : Int) t9 bt3 bt4 bt5) else ((Q146 (List.getD bt3.1 (t9).toNat ((bs []), (bs []), ())).1).bind fun r5 => ((Q146 (List.getD bt3.1 (t9).toNat ((bs []), (bs []), ())).2.1).bind fun r6 => (bif (!(r5 == r6)) then (ex0_0 (7 : Int) (2 : Int) t9 bt3 bt4 bt5) else (bif (decide ((0 : Int) ≤ t9)) then (bif (decide (t9 ≤ (((List.length bt3.1) : Nat) : Int))) then ((Q158 (List.drop 0 (List.take (t9).toNat bt3.1)) (List.getD bt3.1 (t9).toNat ((bs []), (bs []), ())).1).bind fun r7 => (bif r7.2 then (ex0_0 (10 : Int) (2 : Int) t9 bt3 bt4 bt5) else (nx0 (IntKind.i64.wrap (t9 + (1 : Int))) bt3 bt4 bt5))) else none) else none))))))))) else (ex0_1 bt3 bt4 bt5))
theorem z73 {R S : Type} (F : R → Option S) (t9) (bt3) (bt4) (bt5) (ex0_0) (nx0) (ex0_1) : (z8x t9 bt3 bt4 bt5 ex0_0 nx0 ex0_1).bind F = z8x t9 bt3 bt4 bt5 (fun a0 a1 a2 a3 a4 a5 => (ex0_0 a0 a1 a2 a3 a4 a5).bind F) (fun a0 a1 a2 a3 => (nx0 a0 a1 a2 a3).bind F) (fun a0 a1 a2 => (ex0_1 a0 a1 a2).bind F) := by
  simp only [z8x, z8, z6, zd, z7, ze, zc]
def zin {R : Type} (t6 : Int) (t7 : Int) (t8 : Int) (bt3 : Zt24) (bt4 : Zt18) (bt5 : Zt18) (kr0 : Int → Int → Int → Option R) : Option R :=
  (kr0 t6 t7 t8)
theorem z7h {R S : Type} (F : R → Option S) (t6) (t7) (t8) (bt3) (bt4) (bt5) (kr0) : (zin t6 t7 t8 bt3 bt4 bt5 kr0).bind F = zin t6 t7 t8 bt3 bt4 bt5 (fun a0 a1 a2 => (kr0 a0 a1 a2).bind F) := by
  simp only [zin, z8, z6, zd, z7, ze, zc]
def zbc {R : Type} (bt3 : Zt24) (bt4 : Zt18) (bt5 : Zt18) (kr0 : Int → Int → Int → Option R) (go1 : Int → Zt24 → Zt18 → Zt18 → Option R) : Option R :=
  (bif (decide ((256 : Int) < ((List.length bt3.2.1) : Int))) then (kr0 (5 : Int) (3 : Int) (256 : Int)) else (go1 (0 : Int) bt3 bt4 bt5))
theorem z6q {R S : Type} (F : R → Option S) (bt3) (bt4) (bt5) (kr0) (go1) : (zbc bt3 bt4 bt5 kr0 go1).bind F = zbc bt3 bt4 bt5 (fun a0 a1 a2 => (kr0 a0 a1 a2).bind F) (fun a0 a1 a2 a3 => (go1 a0 a1 a2 a3).bind F) := by
  simp only [zbc, z8, z6, zd, z7, ze, zc]
def z7s {R : Type} (t13 : Int) (bt3 : Zt24) (bt4 : Zt18) (bt5 : Zt18) (ex1_0 : Int → Int → Int → Option R) (go2 : Int → Int → Zt24 → Zt18 → Zt18 → Option R) (ex1_1 : Option R) : Option R :=
  (bif (decide (t13 < ((List.length bt3.2.1) : Int))) then (zj t13 (List.length bt3.2.1) ((Q166 (List.getD bt3.2.1 (t13).toNat ((0 : Int), (0 : Int), (0 : Int), (bs []), ([] : List Zt10), ())) bt4 bt5).bind fun r8 => (bif (!(decide (r8 = (0 : Int)))) then (ex1_0 r8 (3 : Int) t13) else (go2 t13 (0 : Int) bt3 bt4 bt5)))) else (ex1_1))
theorem z6r {R S : Type} (F : R → Option S) (t13) (bt3) (bt4) (bt5) (ex1_0) (go2) (ex1_1) : (z7s t13 bt3 bt4 bt5 ex1_0 go2 ex1_1).bind F = z7s t13 bt3 bt4 bt5 (fun a0 a1 a2 => (ex1_0 a0 a1 a2).bind F) (fun a0 a1 a2 a3 a4 => (go2 a0 a1 a2 a3 a4).bind F) ((ex1_1).bind F) := by
  simp only [z7s, z8, z6, zd, z7, ze, zc]
def zej {R : Type} (t6 : Int) (t7 : Int) (t8 : Int) (kr0 : Int → Int → Int → Option R) : Option R :=
  (kr0 t6 t7 t8)
theorem z6l {R S : Type} (F : R → Option S) (t6) (t7) (t8) (kr0) : (zej t6 t7 t8 kr0).bind F = zej t6 t7 t8 (fun a0 a1 a2 => (kr0 a0 a1 a2).bind F) := by
  simp only [zej, z8, z6, zd, z7, ze, zc]
def zi5 {R : Type}  (kr0 : Int → Int → Int → Option R) : Option R :=
  (kr0 (0 : Int) (0 : Int) (0 : Int))
theorem z7d {R S : Type} (F : R → Option S)  (kr0 : Int → Int → Int → Option R) : (zi5 kr0).bind F = zi5 (fun a0 a1 a2 => (kr0 a0 a1 a2).bind F) := by
  simp only [zi5, z8, z6, zd, z7, ze, zc]
def z8s {R : Type} (t13 : Int) (t15 : Int) (bt3 : Zt24) (bt4 : Zt18) (bt5 : Zt18) (ex2_0 : Int → Int → Int → Int → Zt24 → Zt18 → Zt18 → Option R) (nx2 : Int → Int → Zt24 → Zt18 → Zt18 → Option R) (ex2_1 : Int → Zt24 → Zt18 → Zt18 → Option R) : Option R :=
  (bif (decide (t15 < t13)) then (zj t15 (List.length bt3.2.1) (zj t13 (List.length bt3.2.1) ((Q175 (List.getD bt3.2.1 (t15).toNat ((0 : Int), (0 : Int), (0 : Int), (bs []), ([] : List Zt10), ())) (List.getD bt3.2.1 (t13).toNat ((0 : Int), (0 : Int), (0 : Int), (bs []), ([] : List Zt10), ()))).bind fun r9 => (bif r9 then (ex2_0 (10 : Int) (3 : Int) t13 t13 bt3 bt4 bt5) else (nx2 t13 (IntKind.i64.wrap (t15 + (1 : Int))) bt3 bt4 bt5))))) else (ex2_1 t13 bt3 bt4 bt5))
theorem z6p {R S : Type} (F : R → Option S) (t13) (t15) (bt3) (bt4) (bt5) (ex2_0) (nx2) (ex2_1) : (z8s t13 t15 bt3 bt4 bt5 ex2_0 nx2 ex2_1).bind F = z8s t13 t15 bt3 bt4 bt5 (fun a0 a1 a2 a3 a4 a5 a6 => (ex2_0 a0 a1 a2 a3 a4 a5 a6).bind F) (fun a0 a1 a2 a3 a4 => (nx2 a0 a1 a2 a3 a4).bind F) (fun a0 a1 a2 a3 => (ex2_1 a0 a1 a2 a3).bind F) := by
  simp only [z8s, z8, z6, zd, z7, ze, zc]
def zh5 {R : Type} (t6 : Int) (t7 : Int) (t8 : Int) (t13 : Int) (bt3 : Zt24) (bt4 : Zt18) (bt5 : Zt18) (ex1_0 : Int → Int → Int → Option R) : Option R :=
  (ex1_0 t6 t7 t8)
theorem z7m {R S : Type} (F : R → Option S) (t6) (t7) (t8) (t13) (bt3) (bt4) (bt5) (ex1_0) : (zh5 t6 t7 t8 t13 bt3 bt4 bt5 ex1_0).bind F = zh5 t6 t7 t8 t13 bt3 bt4 bt5 (fun a0 a1 a2 => (ex1_0 a0 a1 a2).bind F) := by
  simp only [zh5, z8, z6, zd, z7, ze, zc]
def zaj {R : Type} (t13 : Int) (bt3 : Zt24) (bt4 : Zt18) (bt5 : Zt18) (nx1 : Int → Zt24 → Zt18 → Zt18 → Option R) : Option R :=
  (nx1 (IntKind.i64.wrap (t13 + (1 : Int))) bt3 bt4 bt5)
theorem z7e {R S : Type} (F : R → Option S) (t13) (bt3) (bt4) (bt5) (nx1) : (zaj t13 bt3 bt4 bt5 nx1).bind F = zaj t13 bt3 bt4 bt5 (fun a0 a1 a2 a3 => (nx1 a0 a1 a2 a3).bind F) := by
  simp only [zaj, z8, z6, zd, z7, ze, zc]
def z7v : Nat → Int → Zt24 → Zt18 → Zt18 → Option (Sum Zt30 Zt28)
  | 0, _, _, _, _ => none
  | k + 1, v0, v1, v2, v3 => z8x v0 v1 v2 v3 (fun a0 a1 a2 a3 a4 a5 => some (.inl (a0, a1, a2, a3, a4, a5))) (fun a0 a1 a2 a3 => z7v k a0 a1 a2 a3) (fun a0 a1 a2 => some (.inr (a0, a1, a2)))
def z8g : Nat → Int → Int → Zt24 → Zt18 → Zt18 → Option (Sum (Int × Int × Int × Int × Zt24 × Zt18 × Zt18) (Int × Zt24 × Zt18 × Zt18))
  | 0, _, _, _, _, _ => none
  | k + 1, v0, v1, v2, v3, v4 => z8s v0 v1 v2 v3 v4 (fun a0 a1 a2 a3 a4 a5 a6 => some (.inl (a0, a1, a2, a3, a4, a5, a6))) (fun a0 a1 a2 a3 a4 => z8g k a0 a1 a2 a3 a4) (fun a0 a1 a2 a3 => some (.inr (a0, a1, a2, a3)))
def z8b : Nat → Int → Zt24 → Zt18 → Zt18 → Option (Sum Zt1 Unit)
  | 0, _, _, _, _ => none
  | k + 1, v0, v1, v2, v3 => z7s v0 v1 v2 v3 (fun a0 a1 a2 => some (.inl (a0, a1, a2))) (fun a0 a1 a2 a3 a4 => (z8g FUEL a0 a1 a2 a3 a4).bind fun e => (Sum.elim (fun (we : (Int × Int × Int × Int × Zt24 × Zt18 × Zt18)) => zh5 we.1 we.2.1 we.2.2.1 we.2.2.2.1 we.2.2.2.2.1 we.2.2.2.2.2.1 we.2.2.2.2.2.2 (fun a0 a1 a2 => some (.inl (a0, a1, a2)))) (fun (we : (Int × Zt24 × Zt18 × Zt18)) => zaj we.1 we.2.1 we.2.2.1 we.2.2.2 (fun a0 a1 a2 a3 => z8b k a0 a1 a2 a3)) e)) (some (.inr ()))
def Q169 (m_0 : Zt24) (a_1 : Zt18) (b_2 : Zt18) : Option Zt1 :=
  z9j m_0 a_1 b_2 (fun a0 a1 a2 => some (a0, a1, a2)) (fun a0 a1 a2 a3 => (z7v FUEL a0 a1 a2 a3).bind fun e => (Sum.elim (fun (we : Zt30) => zin we.1 we.2.1 we.2.2.1 we.2.2.2.1 we.2.2.2.2.1 we.2.2.2.2.2 (fun a0 a1 a2 => some (a0, a1, a2))) (fun (we : Zt28) => zbc we.1 we.2.1 we.2.2 (fun a0 a1 a2 => some (a0, a1, a2)) (fun a0 a1 a2 a3 => (z8b FUEL a0 a1 a2 a3).bind fun e => (Sum.elim (fun (we : Zt1) => zej we.1 we.2.1 we.2.2 (fun a0 a1 a2 => some (a0, a1, a2))) (fun (we : Unit) => zi5 (fun a0 a1 a2 => some (a0, a1, a2))) e))) e))
end Groat
namespace Groat
open Go Go.Ref
def zaz {R : Type} (m_0 : ByteArray) (kr0 : Bool → Option R) : Option R :=
  (bif (decide (((m_0).size : Int) = (4 : Int))) then ((Q28 m_0).bind fun r1 => (kr0 r1)) else (kr0 false))
theorem z1bx {R S : Type} (F : R → Option S) (m_0) (kr0) : (zaz m_0 kr0).bind F = zaz m_0 (fun a0 => (kr0 a0).bind F) := by
  simp only [zaz, z8, z6, zd, z7, ze, zc]
def Q224 (m_0 : ByteArray) : Option Bool :=
  zaz m_0 (fun a0 => some a0)
def zbt {R : Type} (m_0 : ByteArray) (kr0 : Int → Bool → Option R) : Option R :=
  ((Q224 m_0).bind fun r1 => (bif (!r1) then (kr0 (0 : Int) false) else (zj (0 : Int) (m_0).size (kr0 (IntKind.i64.wrap (IntKind.u8.wrap ((zn m_0 ((0 : Int)).toNat) - (48 : Int)))) true))))
theorem z19f {R S : Type} (F : R → Option S) (m_0) (kr0) : (zbt m_0 kr0).bind F = zbt m_0 (fun a0 a1 => (kr0 a0 a1).bind F) := by
  simp only [zbt, z8, z6, zd, z7, ze, zc]
def Q225 (m_0 : ByteArray) : Option (Int × Bool) :=
  zbt m_0 (fun a0 a1 => some (a0, a1))
def zan {R : Type} (m_0 : ByteArray) (kr0 : Bool → Option R) : Option R :=
  ((Q224 m_0).bind fun r1 => (bif r1 then (zj (2 : Int) (m_0).size (bif (decide ((zn m_0 ((2 : Int)).toNat) = (48 : Int))) then (kr0 true) else (zj (2 : Int) (m_0).size (kr0 (decide ((zn m_0 ((2 : Int)).toNat) = (50 : Int))))))) else (kr0 false)))
theorem z170 {R S : Type} (F : R → Option S) (m_0) (kr0) : (zan m_0 kr0).bind F = zan m_0 (fun a0 => (kr0 a0).bind F) := by
  simp only [zan, z8, z6, zd, z7, ze, zc]
def Q222 (m_0 : ByteArray) : Option Bool :=
  zan m_0 (fun a0 => some a0)
def zfs {R : Type} (m_0 : ByteArray) (kr0 : ByteArray → Bool → Option R) : Option R :=
  ((Q222 m_0).bind fun r1 => (bif (!r1) then (kr0 (bs []) false) else (bif (decide ((2 : Int) ≤ (((m_0).size : Nat) : Int))) then (zj (2 : Int) (m_0).size (bif decide ((((m_0).extract 0 ((2 : Int)).toNat)).size + ((strOf ([(IntKind.u8.wrap ((zn m_0 ((2 : Int)).toNat) + (1 : Int)))] : List Int))).size ≤ 9223372036854775807) then (bif (decide ((3 : Int) ≤ (((m_0).size : Nat) : Int))) then (bif decide (((((m_0).extract 0 ((2 : Int)).toNat) ++ (strOf ([(IntKind.u8.wrap ((zn m_0 ((2 : Int)).toNat) + (1 : Int)))] : List Int)))).size + (((m_0).extract ((3 : Int)).toNat (m_0).size)).size ≤ 9223372036854775807) then (kr0 ((((m_0).extract 0 ((2 : Int)).toNat) ++ (strOf ([(IntKind.u8.wrap ((zn m_0 ((2 : Int)).toNat) + (1 : Int)))] : List Int))) ++ ((m_0).extract ((3 : Int)).toNat (m_0).size)) true) else none) else none) else none)) else none)))
theorem z1b7 {R S : Type} (F : R → Option S) (m_0) (kr0) : (zfs m_0 kr0).bind F = zfs m_0 (fun a0 a1 => (kr0 a0 a1).bind F) := by
  simp only [zfs, z8, z6, zd, z7, ze, zc]
def Q223 (m_0 : ByteArray) : Option Zt4 :=
  zfs m_0 (fun a0 a1 => some (a0, a1))
end Groat
namespace Groat
open Go Go.Ref
def zia {R : Type} (s_0 : Zt18) (m_1 : Zt17) (kr0 : Zt5 → Option R) (go0 : Int → Zt11 → Int → Int → Zt18 → Zt5 → Option R) : Option R :=
  ((Q254 s_0).bind fun r1 => (bif (!(decide (r1.1 = (0 : Int)))) then (kr0 ((1 : Int), (-1 : Int), ())) else ((Q225 m_1.1).bind fun r2 => (bif (!r2.2) then (kr0 ((7 : Int), (0 : Int), ())) else (bif (!(decide (r2.1 = s_0.2.1))) then (kr0 ((7 : Int), (0 : Int), ())) else (go0 (0 : Int) m_1.2.1 ((List.length m_1.2.1) : Int) (0 : Int) s_0 ((0 : Int), (0 : Int), ())))))))
theorem zq6 {R S : Type} (F : R → Option S) (s_0) (m_1) (kr0) (go0) : (zia s_0 m_1 kr0 go0).bind F = zia s_0 m_1 (fun a0 => (kr0 a0).bind F) (fun a0 a1 a2 a3 a4 a5 => (go0 a0 a1 a2 a3 a4 a5).bind F) := by
  simp only [zia, z8, z6, zd, z7, ze, zc]
def zjm {R : Type} (t9 : Int) (t39 : Zt11) (t40 : Int) (t41 : Int) (bt2 : Zt18) (bt4 : Zt5) (ex0_0 : Zt5 → Option R) (nx0 : Int → Zt11 → Int → Int → Zt18 → Zt5 → Option R) (ex0_1 : Zt5 → Option R) : Option R :=
  (bif (decide (t41 < t40)) then (zj t41 (List.length t39) (bif (decide ((List.getD t39 (t41).toNat ((0 : Int), (bs []), ())).1 ≤ t9)) then (ex0_0 ((11 : Int), (List.getD t39 (t41).toNat ((0 : Int), (bs []), ())).1, ())) else ((Q255 bt2 (List.getD t39 (t41).toNat ((0 : Int), (bs []), ())).1).bind fun r3 => (bif (!r3.2) then (ex0_0 ((9 : Int), (List.getD t39 (t41).toNat ((0 : Int), (bs []), ())).1, ())) else ((Q266 r3.1 (List.getD t39 (t41).toNat ((0 : Int), (bs []), ())).2.1).bind fun r4 => (bif (!(decide (r4 = (0 : Int)))) then (ex0_0 (r4, (List.getD t39 (t41).toNat ((0 : Int), (bs []), ())).1, ())) else (nx0 (List.getD t39 (t41).toNat ((0 : Int), (bs []), ())).1 t39 t40 (IntKind.i64.wrap (t41 + (1 : Int))) bt2 bt4))))))) else (ex0_1 bt4))
theorem zpf {R S : Type} (F : R → Option S) (t9) (t39) (t40) (t41) (bt2) (bt4) (ex0_0) (nx0) (ex0_1) : (zjm t9 t39 t40 t41 bt2 bt4 ex0_0 nx0 ex0_1).bind F = zjm t9 t39 t40 t41 bt2 bt4 (fun a0 => (ex0_0 a0).bind F) (fun a0 a1 a2 a3 a4 a5 => (nx0 a0 a1 a2 a3 a4 a5).bind F) (fun a0 => (ex0_1 a0).bind F) := by
  simp only [zjm, z8, z6, zd, z7, ze, zc]
def zef {R : Type} (bt4 : Zt5) (kr0 : Zt5 → Option R) : Option R :=
  (kr0 bt4)
theorem zsr {R S : Type} (F : R → Option S) (bt4) (kr0) : (zef bt4 kr0).bind F = zef bt4 (fun a0 => (kr0 a0).bind F) := by
  simp only [zef, z8, z6, zd, z7, ze, zc]
def zez {R : Type} (bt4 : Zt5) (kr0 : Zt5 → Option R) : Option R :=
  (kr0 ((0 : Int), (0 : Int), ()))
theorem zn2 {R S : Type} (F : R → Option S) (bt4) (kr0) : (zez bt4 kr0).bind F = zez bt4 (fun a0 => (kr0 a0).bind F) := by
  simp only [zez, z8, z6, zd, z7, ze, zc]
def zuy : Nat → Int → Zt11 → Int → Int → Zt18 → Zt5 → Option (Sum Zt5 Zt5)
  | 0, _, _, _, _, _, _ => none
  | k + 1, v0, v1, v2, v3, v4, v5 => zjm v0 v1 v2 v3 v4 v5 (fun a0 => some (.inl a0)) (fun a0 a1 a2 a3 a4 a5 => zuy k a0 a1 a2 a3 a4 a5) (fun a0 => some (.inr a0))
def Q216 (s_0 : Zt18) (m_1 : Zt17) : Option Zt5 :=
  zia s_0 m_1 (fun a0 => some a0) (fun a0 a1 a2 a3 a4 a5 => (zuy FUEL a0 a1 a2 a3 a4 a5).bind fun e => (Sum.elim (fun (we : Zt5) => zef we (fun a0 => some a0)) (fun (we : Zt5) => zez we (fun a0 => some a0)) e))
def zhs {R : Type} (m_0 : Zt17) (no_1 : Int) (go0 : Int → Zt11 → Int → Int → Zt17 → Zt17 → Option R) : Option R :=
  (go0 no_1 m_0.2.1 ((List.length m_0.2.1) : Int) (0 : Int) ((bs []), ([] : List Zt8), ()) (m_0.1, ([] : List Zt8), ()))
theorem zlt {R S : Type} (F : R → Option S) (m_0) (no_1) (go0) : (zhs m_0 no_1 go0).bind F = zhs m_0 no_1 (fun a0 a1 a2 a3 a4 a5 => (go0 a0 a1 a2 a3 a4 a5).bind F) := by
  simp only [zhs, z8, z6, zd, z7, ze, zc]
def ze5 {R : Type} (no_1 : Int) (t12 : Zt11) (t13 : Int) (t14 : Int) (bt4 : Zt17) (bt5 : Zt17) (nx0 : Int → Zt11 → Int → Int → Zt17 → Zt17 → Option R) (ex0_0 : Zt17 → Zt17 → Option R) : Option R :=
  (bif (decide (t14 < t13)) then (zj t14 (List.length t12) (bif (!(decide ((List.getD t12 (t14).toNat ((0 : Int), (bs []), ())).1 = no_1))) then (bif (decide (((List.length bt5.2.1) + (List.length ([(List.getD t12 (t14).toNat ((0 : Int), (bs []), ()))] : List Zt8))) * 24 ≤ 140737488355328)) then (nx0 no_1 t12 t13 (IntKind.i64.wrap (t14 + (1 : Int))) bt4 (bt5.1, (bt5.2.1 ++ ([(List.getD t12 (t14).toNat ((0 : Int), (bs []), ()))] : List Zt8)), ())) else none) else (nx0 no_1 t12 t13 (IntKind.i64.wrap (t14 + (1 : Int))) bt4 bt5))) else (ex0_0 bt4 bt5))
theorem zs3 {R S : Type} (F : R → Option S) (no_1) (t12) (t13) (t14) (bt4) (bt5) (nx0) (ex0_0) : (ze5 no_1 t12 t13 t14 bt4 bt5 nx0 ex0_0).bind F = ze5 no_1 t12 t13 t14 bt4 bt5 (fun a0 a1 a2 a3 a4 a5 => (nx0 a0 a1 a2 a3 a4 a5).bind F) (fun a0 a1 => (ex0_0 a0 a1).bind F) := by
  simp only [ze5, z8, z6, zd, z7, ze, zc]
def zj8 {R : Type} (bt4 : Zt17) (bt5 : Zt17) (kr0 : Zt17 → Option R) : Option R :=
  (kr0 bt5)
theorem zqa {R S : Type} (F : R → Option S) (bt4) (bt5) (kr0) : (zj8 bt4 bt5 kr0).bind F = zj8 bt4 bt5 (fun a0 => (kr0 a0).bind F) := by
  simp only [zj8, z8, z6, zd, z7, ze, zc]
def zv2 : Nat → Int → Zt11 → Int → Int → Zt17 → Zt17 → Option (Zt17 × Zt17)
  | 0, _, _, _, _, _, _ => none
  | k + 1, v0, v1, v2, v3, v4, v5 => ze5 v0 v1 v2 v3 v4 v5 (fun a0 a1 a2 a3 a4 a5 => zv2 k a0 a1 a2 a3 a4 a5) (fun a0 a1 => some (a0, a1))
def Q221 (m_0 : Zt17) (no_1 : Int) : Option Zt17 :=
  zhs m_0 no_1 (fun a0 a1 a2 a3 a4 a5 => (zv2 FUEL a0 a1 a2 a3 a4 a5).bind fun e => zj8 e.1 e.2 (fun a0 => some a0))
def ziy {R : Type} (x_0 : Zt8) (free_1 : Int) (kr0 : Bool → Int → Option R) : Option R :=
  (kr0 (decide (free_1 < x_0.1)) free_1)
theorem z1d9 {R S : Type} (F : R → Option S) (x_0) (free_1) (kr0) : (ziy x_0 free_1 kr0).bind F = ziy x_0 free_1 (fun a0 a1 => (kr0 a0 a1).bind F) := by
  simp only [ziy, z8, z6, zd, z7, ze, zc]
def Q220 (x_0 : Zt8) (free_1 : Int) : Option (Bool × Int) :=
  ziy x_0 free_1 (fun a0 a1 => some (a0, a1))
def ziu {R : Type} (a_0 : Zt11) (a_1 : Int) (go0 : Zt11 → Int → Int → Int → Option R) : Option R :=
  (go0 a_0 ((List.length a_0) : Int) (0 : Int) a_1)
theorem zlh {R S : Type} (F : R → Option S) (a_0) (a_1) (go0) : (ziu a_0 a_1 go0).bind F = ziu a_0 a_1 (fun a0 a1 a2 a3 => (go0 a0 a1 a2 a3).bind F) := by
  simp only [ziu, z8, z6, zd, z7, ze, zc]
def zit {R : Type} (a_0 : Zt11) (t7 : Int) (t8 : Int) (recv : Int) (ex0_0 : Int → Int → Option R) (nx0 : Zt11 → Int → Int → Int → Option R) (ex0_1 : Int → Option R) : Option R :=
  (bif (decide (t8 < t7)) then (zj t8 (List.length a_0) ((Q220 (List.getD a_0 (t8).toNat ((0 : Int), (bs []), ())) recv).bind fun r1 => (bif r1.1 then (ex0_0 t8 r1.2) else (nx0 a_0 t7 (IntKind.i64.wrap (t8 + (1 : Int))) r1.2)))) else (ex0_1 recv))
theorem zrm {R S : Type} (F : R → Option S) (a_0) (t7) (t8) (recv) (ex0_0) (nx0) (ex0_1) : (zit a_0 t7 t8 recv ex0_0 nx0 ex0_1).bind F = zit a_0 t7 t8 recv (fun a0 a1 => (ex0_0 a0 a1).bind F) (fun a0 a1 a2 a3 => (nx0 a0 a1 a2 a3).bind F) (fun a0 => (ex0_1 a0).bind F) := by
  simp only [zit, z8, z6, zd, z7, ze, zc]
def zgj {R : Type} (t4 : Int) (recv : Int) (kr0 : Int → Int → Option R) : Option R :=
  (kr0 t4 recv)
theorem zkq {R S : Type} (F : R → Option S) (t4) (recv) (kr0) : (zgj t4 recv kr0).bind F = zgj t4 recv (fun a0 a1 => (kr0 a0 a1).bind F) := by
  simp only [zgj, z8, z6, zd, z7, ze, zc]
def zgc {R : Type} (recv : Int) (kr0 : Int → Int → Option R) : Option R :=
  (kr0 (-1 : Int) recv)
theorem ztj {R S : Type} (F : R → Option S) (recv) (kr0) : (zgc recv kr0).bind F = zgc recv (fun a0 a1 => (kr0 a0 a1).bind F) := by
  simp only [zgc, z8, z6, zd, z7, ze, zc]
def zuk : Nat → Zt11 → Int → Int → Int → Option (Sum (Int × Int) Int)
  | 0, _, _, _, _ => none
  | k + 1, v0, v1, v2, v3 => zit v0 v1 v2 v3 (fun a0 a1 => some (.inl (a0, a1))) (fun a0 a1 a2 a3 => zuk k a0 a1 a2 a3) (fun a0 => some (.inr a0))
def Q263 (a_0 : Zt11) (a_1 : Int) : Option (Int × Int) :=
  ziu a_0 a_1 (fun a0 a1 a2 a3 => (zuk FUEL a0 a1 a2 a3).bind fun e => (Sum.elim (fun (we : (Int × Int)) => zgj we.1 we.2 (fun a0 a1 => some (a0, a1))) (fun (we : Int) => zgc we (fun a0 a1 => some (a0, a1))) e))
def zfj {R : Type} (m_0 : Zt17) (no_1 : Int) (text_2 : ByteArray) (kr0 : Zt17 → Option R) : Option R :=
  ((Q221 m_0 no_1).bind fun r1 => ((Q263 r1.2.1 no_1).bind fun r2 => (bif (decide (r2.1 < (0 : Int))) then (bif (decide ((IntKind.i64.wrap (((List.length r1.2.1) : Int) + (1 : Int))) = (IntKind.i64.wrap (((List.length r1.2.1) : Int) + (1 : Int))))) then (bif (decide ((0 : Int) ≤ (IntKind.i64.wrap (((List.length r1.2.1) : Int) + (1 : Int))))) then (bif (decide ((IntKind.i64.wrap (((List.length r1.2.1) : Int) + (1 : Int))) * 24 ≤ 140737488355328)) then (bif (decide ((0 : Int) ≤ ((List.length r1.2.1) : Int))) then (bif (decide (((List.length r1.2.1) : Int) ≤ (((List.length r1.2.1) : Nat) : Int))) then (bif (Nat.beq ((IntKind.i64.wrap (((List.length r1.2.1) : Int) + (1 : Int)))).toNat (List.length (List.replicate ((IntKind.i64.wrap (((List.length r1.2.1) : Int) + (1 : Int)))).toNat ((0 : Int), (bs []), ())))) then (zj ((List.length r1.2.1) : Int) ((IntKind.i64.wrap (((List.length r1.2.1) : Int) + (1 : Int)))).toNat (bif (Nat.ble ((((List.length r1.2.1) : Int)).toNat + 1) (List.length (putL (List.replicate ((IntKind.i64.wrap (((List.length r1.2.1) : Int) + (1 : Int)))).toNat ((0 : Int), (bs []), ())) (List.take ((IntKind.i64.wrap (((List.length r1.2.1) : Int) + (1 : Int)))).toNat (List.drop 0 (List.take (((List.length r1.2.1) : Int)).toNat r1.2.1))) 0))) then (bif (decide ((0 : Int) ≤ (IntKind.i64.wrap (((List.length r1.2.1) : Int) + (1 : Int))))) then (bif (decide ((IntKind.i64.wrap (((List.length r1.2.1) : Int) + (1 : Int))) ≤ ((((IntKind.i64.wrap (((List.length r1.2.1) : Int) + (1 : Int)))).toNat : Nat) : Int))) then (bif (decide ((0 : Int) ≤ ((List.length r1.2.1) : Int))) then (bif (decide (((List.length r1.2.1) : Int) ≤ (((List.length r1.2.1) : Nat) : Int))) then (bif (Nat.beq ((IntKind.i64.wrap (((List.length r1.2.1) : Int) + (1 : Int)))).toNat (List.length (List.set (putL (List.replicate ((IntKind.i64.wrap (((List.length r1.2.1) : Int) + (1 : Int)))).toNat ((0 : Int), (bs []), ())) (List.take ((IntKind.i64.wrap (((List.length r1.2.1) : Int) + (1 : Int)))).toNat (List.drop 0 (List.take (((List.length r1.2.1) : Int)).toNat r1.2.1))) 0) (((List.length r1.2.1) : Int)).toNat (r2.2, text_2, ())))) then (bif (Nat.ble ((IntKind.i64.wrap (((List.length r1.2.1) : Int) + (1 : Int)))).toNat ((IntKind.i64.wrap (((List.length r1.2.1) : Int) + (1 : Int)))).toNat) then (bif (Nat.beq ((IntKind.i64.wrap (((List.length r1.2.1) : Int) + (1 : Int)))).toNat (List.length (putL (List.set (putL (List.replicate ((IntKind.i64.wrap (((List.length r1.2.1) : Int) + (1 : Int)))).toNat ((0 : Int), (bs []), ())) (List.take ((IntKind.i64.wrap (((List.length r1.2.1) : Int) + (1 : Int)))).toNat (List.drop 0 (List.take (((List.length r1.2.1) : Int)).toNat r1.2.1))) 0) (((List.length r1.2.1) : Int)).toNat (r2.2, text_2, ())) (List.take (((IntKind.i64.wrap (((List.length r1.2.1) : Int) + (1 : Int)))).toNat - ((IntKind.i64.wrap (((List.length r1.2.1) : Int) + (1 : Int)))).toNat) (List.drop (((List.length r1.2.1) : Int)).toNat (List.take (List.length r1.2.1) r1.2.1))) ((IntKind.i64.wrap (((List.length r1.2.1) : Int) + (1 : Int)))).toNat))) then (kr0 (m_0.1, (putL (List.set (putL (List.replicate ((IntKind.i64.wrap (((List.length r1.2.1) : Int) + (1 : Int)))).toNat ((0 : Int), (bs []), ())) (List.take ((IntKind.i64.wrap (((List.length r1.2.1) : Int) + (1 : Int)))).toNat (List.drop 0 (List.take (((List.length r1.2.1) : Int)).toNat r1.2.1))) 0) (((List.length r1.2.1) : Int)).toNat (r2.2, text_2, ())) (List.take (((IntKind.i64.wrap (((List.length r1.2.1) : Int) + (1 : Int)))).toNat - ((IntKind.i64.wrap (((List.length r1.2.1) : Int) + (1 : Int)))).toNat) (List.drop (((List.length r1.2.1) : Int)).toNat (List.take (List.length r1.2.1) r1.2.1))) ((IntKind.i64.wrap (((List.length r1.2.1) : Int) + (1 : Int)))).toNat), ())) else none) else none) else none) else none) else none) else none) else none) else none)) else none) else none) else none) else none) else none) else none) else (bif (decide ((IntKind.i64.wrap (((List.length r1.2.1) : Int) + (1 : Int))) = (IntKind.i64.wrap (((List.length r1.2.1) : Int) + (1 : Int))))) then (bif (decide ((0 : Int) ≤ (IntKind.i64.wrap (((List.length r1.2.1) : Int) + (1 : Int))))) then (bif (decide ((IntKind.i64.wrap (((List.length r1.2.1) : Int) + (1 : Int))) * 24 ≤ 140737488355328)) then (bif (decide ((0 : Int) ≤ r2.1)) then (bif (decide (r2.1 ≤ (((List.length r1.2.1) : Nat) : Int))) then (bif (Nat.beq ((IntKind.i64.wrap (((List.length r1.2.1) : Int) + (1 : Int)))).toNat (List.length (List.replicate ((IntKind.i64.wrap (((List.length r1.2.1) : Int) + (1 : Int)))).toNat ((0 : Int), (bs []), ())))) then (zj r2.1 ((IntKind.i64.wrap (((List.length r1.2.1) : Int) + (1 : Int)))).toNat (bif (Nat.ble ((r2.1).toNat + 1) (List.length (putL (List.replicate ((IntKind.i64.wrap (((List.length r1.2.1) : Int) + (1 : Int)))).toNat ((0 : Int), (bs []), ())) (List.take ((IntKind.i64.wrap (((List.length r1.2.1) : Int) + (1 : Int)))).toNat (List.drop 0 (List.take (r2.1).toNat r1.2.1))) 0))) then (bif (decide ((0 : Int) ≤ (IntKind.i64.wrap (r2.1 + (1 : Int))))) then (bif (decide ((IntKind.i64.wrap (r2.1 + (1 : Int))) ≤ ((((IntKind.i64.wrap (((List.length r1.2.1) : Int) + (1 : Int)))).toNat : Nat) : Int))) then (bif (decide ((0 : Int) ≤ r2.1)) then (bif (decide (r2.1 ≤ (((List.length r1.2.1) : Nat) : Int))) then (bif (Nat.beq ((IntKind.i64.wrap (((List.length r1.2.1) : Int) + (1 : Int)))).toNat (List.length (List.set (putL (List.replicate ((IntKind.i64.wrap (((List.length r1.2.1) : Int) + (1 : Int)))).toNat ((0 : Int), (bs []), ())) (List.take ((IntKind.i64.wrap (((List.length r1.2.1) : Int) + (1 : Int)))).toNat (List.drop 0 (List.take (r2.1).toNat r1.2.1))) 0) (r2.1).toNat (r2.2, text_2, ())))) then (bif (Nat.ble ((IntKind.i64.wrap (r2.1 + (1 : Int)))).toNat ((IntKind.i64.wrap (((List.length r1.2.1) : Int) + (1 : Int)))).toNat) then (bif (Nat.beq ((IntKind.i64.wrap (((List.length r1.2.1) : Int) + (1 : Int)))).toNat (List.length (putL (List.set (putL (List.replicate ((IntKind.i64.wrap (((List.length r1.2.1) : Int) + (1 : Int)))).toNat ((0 : Int), (bs []), ())) (List.take ((IntKind.i64.wrap (((List.length r1.2.1) : Int) + (1 : Int)))).toNat (List.drop 0 (List.take (r2.1).toNat r1.2.1))) 0) (r2.1).toNat (r2.2, text_2, ())) (List.take (((IntKind.i64.wrap (((List.length r1.2.1) : Int) + (1 : Int)))).toNat - ((IntKind.i64.wrap (r2.1 + (1 : Int)))).toNat) (List.drop (r2.1).toNat (List.take (List.length r1.2.1) r1.2.1))) ((IntKind.i64.wrap (r2.1 + (1 : Int)))).toNat))) then (kr0 (m_0.1, (putL (List.set (putL (List.replicate ((IntKind.i64.wrap (((List.length r1.2.1) : Int) + (1 : Int)))).toNat ((0 : Int), (bs []), ())) (List.take ((IntKind.i64.wrap (((List.length r1.2.1) : Int) + (1 : Int)))).toNat (List.drop 0 (List.take (r2.1).toNat r1.2.1))) 0) (r2.1).toNat (r2.2, text_2, ())) (List.take (((IntKind.i64.wrap (((List.length r1.2.1) : Int) + (1 : Int)))).toNat - ((IntKind.i64.wrap (r2.1 + (1 : Int)))).toNat) (List.drop (r2.1).toNat (List.take (List.length r1.2.1) r1.2.1))) ((IntKind.i64.wrap (r2.1 + (1 : Int)))).toNat), ())) else none) else none) else none) else none) else none) else none) else none) else none)) else none) else none) else none) else none) else none) else none))))
theorem z1au {R S : Type} (F : R → Option S) (m_0) (no_1) (text_2) (kr0) : (zfj m_0 no_1 text_2 kr0).bind F = zfj m_0 no_1 text_2 (fun a0 => (kr0 a0).bind F) := by
  simp only [zfj, z8, z6, zd, z7, ze, zc]
def Q219 (m_0 : Zt17) (no_1 : Int) (text_2 : ByteArray) : Option Zt17 :=
  zfj m_0 no_1 text_2 (fun a0 => some a0)
def zi3 {R : Type} (m_0 : Zt17) (no_1 : Int) (go0 : Int → Zt11 → Int → Int → Option R) : Option R :=
  (go0 no_1 m_0.2.1 ((List.length m_0.2.1) : Int) (0 : Int))
theorem zsw {R S : Type} (F : R → Option S) (m_0) (no_1) (go0) : (zi3 m_0 no_1 go0).bind F = zi3 m_0 no_1 (fun a0 a1 a2 a3 => (go0 a0 a1 a2 a3).bind F) := by
  simp only [zi3, z8, z6, zd, z7, ze, zc]
def zee {R : Type} (no_1 : Int) (t9 : Zt11) (t10 : Int) (t11 : Int) (ex0_0 : ByteArray → Bool → Option R) (nx0 : Int → Zt11 → Int → Int → Option R) (ex0_1 : Option R) : Option R :=
  (bif (decide (t11 < t10)) then (zj t11 (List.length t9) (bif (decide ((List.getD t9 (t11).toNat ((0 : Int), (bs []), ())).1 = no_1)) then (ex0_0 (List.getD t9 (t11).toNat ((0 : Int), (bs []), ())).2.1 true) else (nx0 no_1 t9 t10 (IntKind.i64.wrap (t11 + (1 : Int)))))) else (ex0_1))
theorem zn0 {R S : Type} (F : R → Option S) (no_1) (t9) (t10) (t11) (ex0_0) (nx0) (ex0_1) : (zee no_1 t9 t10 t11 ex0_0 nx0 ex0_1).bind F = zee no_1 t9 t10 t11 (fun a0 a1 => (ex0_0 a0 a1).bind F) (fun a0 a1 a2 a3 => (nx0 a0 a1 a2 a3).bind F) ((ex0_1).bind F) := by
  simp only [zee, z8, z6, zd, z7, ze, zc]
def zif {R : Type} (t4 : ByteArray) (t5 : Bool) (kr0 : ByteArray → Bool → Option R) : Option R :=
  (kr0 t4 t5)
theorem zku {R S : Type} (F : R → Option S) (t4) (t5) (kr0) : (zif t4 t5 kr0).bind F = zif t4 t5 (fun a0 a1 => (kr0 a0 a1).bind F) := by
  simp only [zif, z8, z6, zd, z7, ze, zc]
def zj6 {R : Type}  (kr0 : ByteArray → Bool → Option R) : Option R :=
  (kr0 (bs []) false)
theorem zn6 {R S : Type} (F : R → Option S)  (kr0 : ByteArray → Bool → Option R) : (zj6 kr0).bind F = zj6 (fun a0 a1 => (kr0 a0 a1).bind F) := by
  simp only [zj6, z8, z6, zd, z7, ze, zc]
def zuu : Nat → Int → Zt11 → Int → Int → Option (Sum Zt4 Unit)
  | 0, _, _, _, _ => none
  | k + 1, v0, v1, v2, v3 => zee v0 v1 v2 v3 (fun a0 a1 => some (.inl (a0, a1))) (fun a0 a1 a2 a3 => zuu k a0 a1 a2 a3) (some (.inr ()))
def Q217 (m_0 : Zt17) (no_1 : Int) : Option Zt4 :=
  zi3 m_0 no_1 (fun a0 a1 a2 a3 => (zuu FUEL a0 a1 a2 a3).bind fun e => (Sum.elim (fun (we : Zt4) => zif we.1 we.2 (fun a0 a1 => some (a0, a1))) (fun (we : Unit) => zj6 (fun a0 a1 => some (a0, a1))) e))
def zdy {R : Type} (m_0 : Zt17) (go0 : Zt11 → Int → Int → Zt5 → Zt5 → Option R) : Option R :=
  (go0 m_0.2.1 ((List.length m_0.2.1) : Int) (0 : Int) ((0 : Int), (0 : Int), ()) ((0 : Int), (0 : Int), ()))
theorem zqr {R S : Type} (F : R → Option S) (m_0) (go0) : (zdy m_0 go0).bind F = zdy m_0 (fun a0 a1 a2 a3 a4 => (go0 a0 a1 a2 a3 a4).bind F) := by
  simp only [zdy, z8, z6, zd, z7, ze, zc]
def zh7 {R : Type} (t7 : Zt11) (t8 : Int) (t9 : Int) (bt2 : Zt5) (bt3 : Zt5) (nx0 : Zt11 → Int → Int → Zt5 → Zt5 → Option R) (ex0_0 : Zt5 → Zt5 → Option R) : Option R :=
  (bif (decide (t9 < t8)) then (zj t9 (List.length t7) ((Q40 bt3 (List.getD t7 (t9).toNat ((0 : Int), (bs []), ())).1).bind fun r1 => (nx0 t7 t8 (IntKind.i64.wrap (t9 + (1 : Int))) bt2 r1))) else (ex0_0 bt2 bt3))
theorem zll {R S : Type} (F : R → Option S) (t7) (t8) (t9) (bt2) (bt3) (nx0) (ex0_0) : (zh7 t7 t8 t9 bt2 bt3 nx0 ex0_0).bind F = zh7 t7 t8 t9 bt2 bt3 (fun a0 a1 a2 a3 a4 => (nx0 a0 a1 a2 a3 a4).bind F) (fun a0 a1 => (ex0_0 a0 a1).bind F) := by
  simp only [zh7, z8, z6, zd, z7, ze, zc]
def zf7 {R : Type} (bt2 : Zt5) (bt3 : Zt5) (kr0 : Zt5 → Option R) : Option R :=
  (kr0 bt3)
theorem zpr {R S : Type} (F : R → Option S) (bt2) (bt3) (kr0) : (zf7 bt2 bt3 kr0).bind F = zf7 bt2 bt3 (fun a0 => (kr0 a0).bind F) := by
  simp only [zf7, z8, z6, zd, z7, ze, zc]
def zvj : Nat → Zt11 → Int → Int → Zt5 → Zt5 → Option (Zt5 × Zt5)
  | 0, _, _, _, _, _ => none
  | k + 1, v0, v1, v2, v3, v4 => zh7 v0 v1 v2 v3 v4 (fun a0 a1 a2 a3 a4 => zvj k a0 a1 a2 a3 a4) (fun a0 a1 => some (a0, a1))
def Q218 (m_0 : Zt17) : Option Zt5 :=
  zdy m_0 (fun a0 a1 a2 a3 a4 => (zvj FUEL a0 a1 a2 a3 a4).bind fun e => zf7 e.1 e.2 (fun a0 => some a0))
end Groat
namespace Groat
open Go Go.Ref
def z9r {R : Type} (p_0 : Zt10) (a_1 : Zt18) (b_2 : Zt18) (kr0 : Bool → Option R) : Option R :=
  ((Q225 p_0.1).bind fun r1 => ((Q225 p_0.2.1).bind fun r2 => (bif r1.2 then (bif r2.2 then (bif (decide (r1.1 = a_1.2.1)) then (bif (decide (r2.1 = b_2.2.1)) then ((Q222 p_0.1).bind fun r3 => ((Q222 p_0.2.1).bind fun r4 => (kr0 (r3 == r4)))) else (kr0 false)) else (kr0 false)) else (kr0 false)) else (kr0 false))))
theorem z1a0 {R S : Type} (F : R → Option S) (p_0) (a_1) (b_2) (kr0) : (z9r p_0 a_1 b_2 kr0).bind F = z9r p_0 a_1 b_2 (fun a0 => (kr0 a0).bind F) := by
  simp only [z9r, z8, z6, zd, z7, ze, zc]
def Q292 (p_0 : Zt10) (a_1 : Zt18) (b_2 : Zt18) : Option Bool :=
  z9r p_0 a_1 b_2 (fun a0 => some a0)
def z9u {R : Type} (m_0 : Zt24) (a_1 : Zt18) (b_2 : Zt18) (go0 : Zt19 → Int → Int → Zt24 → Zt18 → Zt18 → Option R) : Option R :=
  (go0 ([a_1, b_2] : List Zt18) ((List.length ([a_1, b_2] : List Zt18)) : Int) (0 : Int) m_0 a_1 b_2)
theorem z7f {R S : Type} (F : R → Option S) (m_0) (a_1) (b_2) (go0) : (z9u m_0 a_1 b_2 go0).bind F = z9u m_0 a_1 b_2 (fun a0 a1 a2 a3 a4 a5 => (go0 a0 a1 a2 a3 a4 a5).bind F) := by
  simp only [z9u, z8, z6, zd, z7, ze, zc]
def zbo {R : Type} (t26 : Zt19) (t27 : Int) (t28 : Int) (bt3 : Zt24) (bt4 : Zt18) (bt5 : Zt18) (ex0_0 : Int → Int → Int → Zt24 → Zt18 → Zt18 → Option R) (nx0 : Zt19 → Int → Int → Zt24 → Zt18 → Zt18 → Option R) (ex0_1 : Zt24 → Zt18 → Zt18 → Option R) : Option R :=
  (bif (decide (t28 < t27)) then (zj t28 (List.length t26) ((Q254 (List.getD t26 (t28).toNat ((0 : Int), (0 : Int), ([] : List Zt13), ()))).bind fun r1 => (bif (!(decide (r1.1 = (0 : Int)))) then (ex0_0 (1 : Int) (1 : Int) t28 bt3 bt4 bt5) else (nx0 t26 t27 (IntKind.i64.wrap (t28 + (1 : Int))) bt3 bt4 bt5)))) else (ex0_1 bt3 bt4 bt5))
theorem z7l {R S : Type} (F : R → Option S) (t26) (t27) (t28) (bt3) (bt4) (bt5) (ex0_0) (nx0) (ex0_1) : (zbo t26 t27 t28 bt3 bt4 bt5 ex0_0 nx0 ex0_1).bind F = zbo t26 t27 t28 bt3 bt4 bt5 (fun a0 a1 a2 a3 a4 a5 => (ex0_0 a0 a1 a2 a3 a4 a5).bind F) (fun a0 a1 a2 a3 a4 a5 => (nx0 a0 a1 a2 a3 a4 a5).bind F) (fun a0 a1 a2 => (ex0_1 a0 a1 a2).bind F) := by
  simp only [zbo, z8, z6, zd, z7, ze, zc]
def zgu {R : Type} (t6 : Int) (t7 : Int) (t8 : Int) (bt3 : Zt24) (bt4 : Zt18) (bt5 : Zt18) (kr0 : Int → Int → Int → Option R) : Option R :=
  (kr0 t6 t7 t8)
theorem z6k {R S : Type} (F : R → Option S) (t6) (t7) (t8) (bt3) (bt4) (bt5) (kr0) : (zgu t6 t7 t8 bt3 bt4 bt5 kr0).bind F = zgu t6 t7 t8 bt3 bt4 bt5 (fun a0 a1 a2 => (kr0 a0 a1 a2).bind F) := by
  simp only [zgu, z8, z6, zd, z7, ze, zc]
def zb3 {R : Type} (bt3 : Zt24) (bt4 : Zt18) (bt5 : Zt18) (kr0 : Int → Int → Int → Option R) (go1 : Zt14 → Int → Int → Zt24 → Zt18 → Zt18 → Zt9 → Option R) : Option R :=
  (bif (decide ((256 : Int) < ((List.length bt3.1) : Int))) then (kr0 (5 : Int) (2 : Int) (256 : Int)) else (go1 bt3.1 ((List.length bt3.1) : Int) (0 : Int) bt3 bt4 bt5 ([] : List Zt4)))
theorem z6n {R S : Type} (F : R → Option S) (bt3) (bt4) (bt5) (kr0) (go1) : (zb3 bt3 bt4 bt5 kr0 go1).bind F = zb3 bt3 bt4 bt5 (fun a0 a1 a2 => (kr0 a0 a1 a2).bind F) (fun a0 a1 a2 a3 a4 a5 a6 => (go1 a0 a1 a2 a3 a4 a5 a6).bind F) := by
  simp only [zb3, z8, z6, zd, z7, ze, zc]
def zhh {R : Type} (t48 : Zt14) (t49 : Int) (t50 : Int) (bt3 : Zt24) (bt4 : Zt18) (bt5 : Zt18) (bt13 : Zt9) (ex1_0 : Int → Int → Int → Zt24 → Zt18 → Zt18 → Option R) (nx1 : Zt14 → Int → Int → Zt24 → Zt18 → Zt18 → Zt9 → Option R) (ex1_1 : Zt24 → Zt18 → Zt18 → Option R) : Option R :=
  (bif (decide (t50 < t49)) then (zj t50 (List.length t48) ((Q292 (List.getD t48 (t50).toNat ((bs []), (bs []), ())) bt4 bt5).bind fun r2 => (bif (!r2) then (ex1_0 (7 : Int) (2 : Int) t50 bt3 bt4 bt5) else (bif (mget (eqK .str) false bt13 (List.getD t48 (t50).toNat ((bs []), (bs []), ())).1) then (ex1_0 (10 : Int) (2 : Int) t50 bt3 bt4 bt5) else (bif (mhas (eqK .str) bt13 (List.getD t48 (t50).toNat ((bs []), (bs []), ())).1) then none else (nx1 t48 t49 (IntKind.i64.wrap (t50 + (1 : Int))) bt3 bt4 bt5 (bt13 ++ [((List.getD t48 (t50).toNat ((bs []), (bs []), ())).1, true)]))))))) else (ex1_1 bt3 bt4 bt5))
theorem z6o {R S : Type} (F : R → Option S) (t48) (t49) (t50) (bt3) (bt4) (bt5) (bt13) (ex1_0) (nx1) (ex1_1) : (zhh t48 t49 t50 bt3 bt4 bt5 bt13 ex1_0 nx1 ex1_1).bind F = zhh t48 t49 t50 bt3 bt4 bt5 bt13 (fun a0 a1 a2 a3 a4 a5 => (ex1_0 a0 a1 a2 a3 a4 a5).bind F) (fun a0 a1 a2 a3 a4 a5 a6 => (nx1 a0 a1 a2 a3 a4 a5 a6).bind F) (fun a0 a1 a2 => (ex1_1 a0 a1 a2).bind F) := by
  simp only [zhh, z8, z6, zd, z7, ze, zc]
def zh4 {R : Type} (t6 : Int) (t7 : Int) (t8 : Int) (bt3 : Zt24) (bt4 : Zt18) (bt5 : Zt18) (kr0 : Int → Int → Int → Option R) : Option R :=
  (kr0 t6 t7 t8)
theorem z6e {R S : Type} (F : R → Option S) (t6) (t7) (t8) (bt3) (bt4) (bt5) (kr0) : (zh4 t6 t7 t8 bt3 bt4 bt5 kr0).bind F = zh4 t6 t7 t8 bt3 bt4 bt5 (fun a0 a1 a2 => (kr0 a0 a1 a2).bind F) := by
  simp only [zh4, z8, z6, zd, z7, ze, zc]
def za5 {R : Type} (bt3 : Zt24) (bt4 : Zt18) (bt5 : Zt18) (kr0 : Int → Int → Int → Option R) (go2 : Zt22 → Int → Int → Zt18 → Zt18 → Zt5 → Zt5 → Option R) : Option R :=
  (bif (decide ((256 : Int) < ((List.length bt3.2.1) : Int))) then (kr0 (5 : Int) (3 : Int) (256 : Int)) else (go2 bt3.2.1 ((List.length bt3.2.1) : Int) (0 : Int) bt4 bt5 ((0 : Int), (0 : Int), ()) ((0 : Int), (0 : Int), ())))
theorem z6t {R S : Type} (F : R → Option S) (bt3) (bt4) (bt5) (kr0) (go2) : (za5 bt3 bt4 bt5 kr0 go2).bind F = za5 bt3 bt4 bt5 (fun a0 a1 a2 => (kr0 a0 a1 a2).bind F) (fun a0 a1 a2 a3 a4 a5 a6 => (go2 a0 a1 a2 a3 a4 a5 a6).bind F) := by
  simp only [za5, z8, z6, zd, z7, ze, zc]
def zil {R : Type} (t77 : Zt22) (t78 : Int) (t79 : Int) (bt4 : Zt18) (bt5 : Zt18) (bt16 : Zt5) (bt17 : Zt5) (ex2_0 : Int → Int → Int → Option R) (nx2 : Zt22 → Int → Int → Zt18 → Zt18 → Zt5 → Zt5 → Option R) (ex2_1 : Option R) : Option R :=
  (bif (decide (t79 < t78)) then (zj t79 (List.length t77) ((Q250 (List.getD t77 (t79).toNat ((0 : Int), (0 : Int), (0 : Int), (bs []), ([] : List Zt10), ())) bt4 bt5).bind fun r3 => (bif (!(decide (r3 = (0 : Int)))) then (ex2_0 r3 (3 : Int) t79) else ((Q33 ([(List.getD t77 (t79).toNat ((0 : Int), (0 : Int), (0 : Int), (bs []), ([] : List Zt10), ())).2.1] : List Int)).bind fun r4 => ((Q33 ([(List.getD t77 (t79).toNat ((0 : Int), (0 : Int), (0 : Int), (bs []), ([] : List Zt10), ())).2.2.1] : List Int)).bind fun r5 => ((Q34 bt16 r4).bind fun r6 => (bif (!((decide (r6.1 = (0 : Int))) && ((decide (r6.2.1 = (0 : Int))) && true))) then (ex2_0 (10 : Int) (3 : Int) t79) else ((Q34 bt17 r5).bind fun r7 => (bif (!((decide (r7.1 = (0 : Int))) && ((decide (r7.2.1 = (0 : Int))) && true))) then (ex2_0 (10 : Int) (3 : Int) t79) else ((Q35 bt16 r4).bind fun r8 => ((Q35 bt17 r5).bind fun r9 => (nx2 t77 t78 (IntKind.i64.wrap (t79 + (1 : Int))) bt4 bt5 r8 r9)))))))))))) else (ex2_1))
theorem z6m {R S : Type} (F : R → Option S) (t77) (t78) (t79) (bt4) (bt5) (bt16) (bt17) (ex2_0) (nx2) (ex2_1) : (zil t77 t78 t79 bt4 bt5 bt16 bt17 ex2_0 nx2 ex2_1).bind F = zil t77 t78 t79 bt4 bt5 bt16 bt17 (fun a0 a1 a2 => (ex2_0 a0 a1 a2).bind F) (fun a0 a1 a2 a3 a4 a5 a6 => (nx2 a0 a1 a2 a3 a4 a5 a6).bind F) ((ex2_1).bind F) := by
  simp only [zil, z8, z6, zd, z7, ze, zc]
def zhv {R : Type} (t6 : Int) (t7 : Int) (t8 : Int) (kr0 : Int → Int → Int → Option R) : Option R :=
  (kr0 t6 t7 t8)
theorem z6u {R S : Type} (F : R → Option S) (t6) (t7) (t8) (kr0) : (zhv t6 t7 t8 kr0).bind F = zhv t6 t7 t8 (fun a0 a1 a2 => (kr0 a0 a1 a2).bind F) := by
  simp only [zhv, z8, z6, zd, z7, ze, zc]
def zg6 {R : Type}  (kr0 : Int → Int → Int → Option R) : Option R :=
  (kr0 (0 : Int) (0 : Int) (0 : Int))
theorem z6g {R S : Type} (F : R → Option S)  (kr0 : Int → Int → Int → Option R) : (zg6 kr0).bind F = zg6 (fun a0 a1 a2 => (kr0 a0 a1 a2).bind F) := by
  simp only [zg6, z8, z6, zd, z7, ze, zc]
def zae : Nat → Zt19 → Int → Int → Zt24 → Zt18 → Zt18 → Option (Sum Zt30 Zt28)
  | 0, _, _, _, _, _, _ => none
  | k + 1, v0, v1, v2, v3, v4, v5 => zbo v0 v1 v2 v3 v4 v5 (fun a0 a1 a2 a3 a4 a5 => some (.inl (a0, a1, a2, a3, a4, a5))) (fun a0 a1 a2 a3 a4 a5 => zae k a0 a1 a2 a3 a4 a5) (fun a0 a1 a2 => some (.inr (a0, a1, a2)))
def zb0 : Nat → Zt14 → Int → Int → Zt24 → Zt18 → Zt18 → Zt9 → Option (Sum Zt30 Zt28)
  | 0, _, _, _, _, _, _, _ => none
  | k + 1, v0, v1, v2, v3, v4, v5, v6 => zhh v0 v1 v2 v3 v4 v5 v6 (fun a0 a1 a2 a3 a4 a5 => some (.inl (a0, a1, a2, a3, a4, a5))) (fun a0 a1 a2 a3 a4 a5 a6 => zb0 k a0 a1 a2 a3 a4 a5 a6) (fun a0 a1 a2 => some (.inr (a0, a1, a2)))
def zi4 : Nat → Zt22 → Int → Int → Zt18 → Zt18 → Zt5 → Zt5 → Option (Sum Zt1 Unit)
  | 0, _, _, _, _, _, _, _ => none
  | k + 1, v0, v1, v2, v3, v4, v5, v6 => zil v0 v1 v2 v3 v4 v5 v6 (fun a0 a1 a2 => some (.inl (a0, a1, a2))) (fun a0 a1 a2 a3 a4 a5 a6 => zi4 k a0 a1 a2 a3 a4 a5 a6) (some (.inr ()))
def Q288 (m_0 : Zt24) (a_1 : Zt18) (b_2 : Zt18) : Option Zt1 :=
  z9u m_0 a_1 b_2 (fun a0 a1 a2 a3 a4 a5 => (zae FUEL a0 a1 a2 a3 a4 a5).bind fun e => (Sum.elim (fun (we : Zt30) => zgu we.1 we.2.1 we.2.2.1 we.2.2.2.1 we.2.2.2.2.1 we.2.2.2.2.2 (fun a0 a1 a2 => some (a0, a1, a2))) (fun (we : Zt28) => zb3 we.1 we.2.1 we.2.2 (fun a0 a1 a2 => some (a0, a1, a2)) (fun a0 a1 a2 a3 a4 a5 a6 => (zb0 FUEL a0 a1 a2 a3 a4 a5 a6).bind fun e => (Sum.elim (fun (we : Zt30) => zh4 we.1 we.2.1 we.2.2.1 we.2.2.2.1 we.2.2.2.2.1 we.2.2.2.2.2 (fun a0 a1 a2 => some (a0, a1, a2))) (fun (we : Zt28) => za5 we.1 we.2.1 we.2.2 (fun a0 a1 a2 => some (a0, a1, a2)) (fun a0 a1 a2 a3 a4 a5 a6 => (zi4 FUEL a0 a1 a2 a3 a4 a5 a6).bind fun e => (Sum.elim (fun (we : Zt1) => zhv we.1 we.2.1 we.2.2 (fun a0 a1 a2 => some (a0, a1, a2))) (fun (we : Unit) => zg6 (fun a0 a1 a2 => some (a0, a1, a2))) e))) e))) e))
def zji {R : Type} (m_0 : Zt24) (t_1 : ByteArray) (go0 : ByteArray → Zt14 → Int → Int → Option R) : Option R :=
  (go0 t_1 m_0.1 ((List.length m_0.1) : Int) (0 : Int))
theorem zn8 {R S : Type} (F : R → Option S) (m_0) (t_1) (go0) : (zji m_0 t_1 go0).bind F = zji m_0 t_1 (fun a0 a1 a2 a3 => (go0 a0 a1 a2 a3).bind F) := by
  simp only [zji, z8, z6, zd, z7, ze, zc]
def zhm {R : Type} (t_1 : ByteArray) (t9 : Zt14) (t10 : Int) (t11 : Int) (ex0_0 : ByteArray → Bool → Option R) (nx0 : ByteArray → Zt14 → Int → Int → Option R) (ex0_1 : Option R) : Option R :=
  (bif (decide (t11 < t10)) then (zj t11 (List.length t9) (bif (decide ((List.getD t9 (t11).toNat ((bs []), (bs []), ())).1 = t_1)) then (ex0_0 (List.getD t9 (t11).toNat ((bs []), (bs []), ())).2.1 true) else (nx0 t_1 t9 t10 (IntKind.i64.wrap (t11 + (1 : Int)))))) else (ex0_1))
theorem zng {R S : Type} (F : R → Option S) (t_1) (t9) (t10) (t11) (ex0_0) (nx0) (ex0_1) : (zhm t_1 t9 t10 t11 ex0_0 nx0 ex0_1).bind F = zhm t_1 t9 t10 t11 (fun a0 a1 => (ex0_0 a0 a1).bind F) (fun a0 a1 a2 a3 => (nx0 a0 a1 a2 a3).bind F) ((ex0_1).bind F) := by
  simp only [zhm, z8, z6, zd, z7, ze, zc]
def zfd {R : Type} (t4 : ByteArray) (t5 : Bool) (kr0 : ByteArray → Bool → Option R) : Option R :=
  (kr0 t4 t5)
theorem zou {R S : Type} (F : R → Option S) (t4) (t5) (kr0) : (zfd t4 t5 kr0).bind F = zfd t4 t5 (fun a0 a1 => (kr0 a0 a1).bind F) := by
  simp only [zfd, z8, z6, zd, z7, ze, zc]
def zis {R : Type}  (kr0 : ByteArray → Bool → Option R) : Option R :=
  (kr0 (bs []) false)
theorem ztq {R S : Type} (F : R → Option S)  (kr0 : ByteArray → Bool → Option R) : (zis kr0).bind F = zis (fun a0 a1 => (kr0 a0 a1).bind F) := by
  simp only [zis, z8, z6, zd, z7, ze, zc]
def zu0 : Nat → ByteArray → Zt14 → Int → Int → Option (Sum Zt4 Unit)
  | 0, _, _, _, _ => none
  | k + 1, v0, v1, v2, v3 => zhm v0 v1 v2 v3 (fun a0 a1 => some (.inl (a0, a1))) (fun a0 a1 a2 a3 => zu0 k a0 a1 a2 a3) (some (.inr ()))
def Q291 (m_0 : Zt24) (t_1 : ByteArray) : Option Zt4 :=
  zji m_0 t_1 (fun a0 a1 a2 a3 => (zu0 FUEL a0 a1 a2 a3).bind fun e => (Sum.elim (fun (we : Zt4) => zfd we.1 we.2 (fun a0 a1 => some (a0, a1))) (fun (we : Unit) => zis (fun a0 a1 => some (a0, a1))) e))
def zgr {R : Type} (m_0 : Zt24) (no_1 : Int) (go0 : Int → Zt22 → Int → Int → Zt20 → Option R) : Option R :=
  (go0 no_1 m_0.2.1 ((List.length m_0.2.1) : Int) (0 : Int) ((0 : Int), (0 : Int), (0 : Int), (bs []), ([] : List Zt10), ()))
theorem zrf {R S : Type} (F : R → Option S) (m_0) (no_1) (go0) : (zgr m_0 no_1 go0).bind F = zgr m_0 no_1 (fun a0 a1 a2 a3 a4 => (go0 a0 a1 a2 a3 a4).bind F) := by
  simp only [zgr, z8, z6, zd, z7, ze, zc]
def zhc {R : Type} (no_1 : Int) (t9 : Zt22) (t10 : Int) (t11 : Int) (bt4 : Zt20) (ex0_0 : Bool → Zt20 → Option R) (nx0 : Int → Zt22 → Int → Int → Zt20 → Option R) (ex0_1 : Zt20 → Option R) : Option R :=
  (bif (decide (t11 < t10)) then (zj t11 (List.length t9) (bif (decide ((List.getD t9 (t11).toNat ((0 : Int), (0 : Int), (0 : Int), (bs []), ([] : List Zt10), ())).2.1 = no_1)) then (ex0_0 true (List.getD t9 (t11).toNat ((0 : Int), (0 : Int), (0 : Int), (bs []), ([] : List Zt10), ()))) else (nx0 no_1 t9 t10 (IntKind.i64.wrap (t11 + (1 : Int))) bt4))) else (ex0_1 bt4))
theorem zko {R S : Type} (F : R → Option S) (no_1) (t9) (t10) (t11) (bt4) (ex0_0) (nx0) (ex0_1) : (zhc no_1 t9 t10 t11 bt4 ex0_0 nx0 ex0_1).bind F = zhc no_1 t9 t10 t11 bt4 (fun a0 a1 => (ex0_0 a0 a1).bind F) (fun a0 a1 a2 a3 a4 => (nx0 a0 a1 a2 a3 a4).bind F) (fun a0 => (ex0_1 a0).bind F) := by
  simp only [zhc, z8, z6, zd, z7, ze, zc]
def ze1 {R : Type} (t5 : Bool) (bt4 : Zt20) (kr0 : Zt20 → Bool → Option R) : Option R :=
  (kr0 bt4 t5)
theorem zrj {R S : Type} (F : R → Option S) (t5) (bt4) (kr0) : (ze1 t5 bt4 kr0).bind F = ze1 t5 bt4 (fun a0 a1 => (kr0 a0 a1).bind F) := by
  simp only [ze1, z8, z6, zd, z7, ze, zc]
def ziw {R : Type} (bt4 : Zt20) (kr0 : Zt20 → Bool → Option R) : Option R :=
  (kr0 ((0 : Int), (0 : Int), (0 : Int), (bs []), ([] : List Zt10), ()) false)
theorem zt0 {R S : Type} (F : R → Option S) (bt4) (kr0) : (ziw bt4 kr0).bind F = ziw bt4 (fun a0 a1 => (kr0 a0 a1).bind F) := by
  simp only [ziw, z8, z6, zd, z7, ze, zc]
def zv1 : Nat → Int → Zt22 → Int → Int → Zt20 → Option (Sum (Bool × Zt20) Zt20)
  | 0, _, _, _, _, _ => none
  | k + 1, v0, v1, v2, v3, v4 => zhc v0 v1 v2 v3 v4 (fun a0 a1 => some (.inl (a0, a1))) (fun a0 a1 a2 a3 a4 => zv1 k a0 a1 a2 a3 a4) (fun a0 => some (.inr a0))
def Q290 (m_0 : Zt24) (no_1 : Int) : Option (Zt20 × Bool) :=
  zgr m_0 no_1 (fun a0 a1 a2 a3 a4 => (zv1 FUEL a0 a1 a2 a3 a4).bind fun e => (Sum.elim (fun (we : (Bool × Zt20)) => ze1 we.1 we.2 (fun a0 a1 => some (a0, a1))) (fun (we : Zt20) => ziw we (fun a0 a1 => some (a0, a1))) e))
def zf1 {R : Type} (m_0 : Zt24) (a_1 : Zt18) (b_2 : Zt18) (x_3 : Zt17) (kr0 : Zt17 → Zt5 → Option R) (go0 : Zt22 → Int → Int → Zt24 → Zt18 → Zt17 → Zt17 → Zt5 → Zt17 → Option R) : Option R :=
  ((Q288 m_0 a_1 b_2).bind fun r1 => (bif (!(decide (r1.1 = (0 : Int)))) then (kr0 ((bs []), ([] : List Zt8), ()) ((1 : Int), (-1 : Int), ())) else ((Q216 a_1 x_3).bind fun r2 => (bif (!(decide (r2.1 = (0 : Int)))) then (kr0 ((bs []), ([] : List Zt8), ()) r2) else ((Q291 m_0 x_3.1).bind fun r3 => (bif (!r3.2) then (kr0 ((bs []), ([] : List Zt8), ()) ((7 : Int), (0 : Int), ())) else (go0 m_0.2.1 ((List.length m_0.2.1) : Int) (0 : Int) m_0 b_2 x_3 ((bs []), ([] : List Zt8), ()) ((0 : Int), (0 : Int), ()) (r3.1, ([] : List Zt8), ()))))))))
theorem zbz {R S : Type} (F : R → Option S) (m_0) (a_1) (b_2) (x_3) (kr0) (go0) : (zf1 m_0 a_1 b_2 x_3 kr0 go0).bind F = zf1 m_0 a_1 b_2 x_3 (fun a0 a1 => (kr0 a0 a1).bind F) (fun a0 a1 a2 a3 a4 a5 a6 a7 a8 => (go0 a0 a1 a2 a3 a4 a5 a6 a7 a8).bind F) := by
  simp only [zf1, z8, z6, zd, z7, ze, zc]
def zh9 {R : Type} (t59 : Zt22) (t60 : Int) (t61 : Int) (bt4 : Zt24) (bt6 : Zt18) (bt7 : Zt17) (bt8 : Zt17) (bt9 : Zt5) (bt16 : Zt17) (nx0 : Zt22 → Int → Int → Zt24 → Zt18 → Zt17 → Zt17 → Zt5 → Zt17 → Option R) (ex0_0 : Zt24 → Zt18 → Zt17 → Zt17 → Zt5 → Zt17 → Option R) : Option R :=
  (bif (decide (t61 < t60)) then (zj t61 (List.length t59) (bif (decide ((List.getD t59 (t61).toNat ((0 : Int), (0 : Int), (0 : Int), (bs []), ([] : List Zt10), ())).1 = (3 : Int))) then ((Q219 bt16 (List.getD t59 (t61).toNat ((0 : Int), (0 : Int), (0 : Int), (bs []), ([] : List Zt10), ())).2.2.1 (List.getD t59 (t61).toNat ((0 : Int), (0 : Int), (0 : Int), (bs []), ([] : List Zt10), ())).2.2.2.1).bind fun r4 => (nx0 t59 t60 (IntKind.i64.wrap (t61 + (1 : Int))) bt4 bt6 bt7 bt8 bt9 r4)) else (nx0 t59 t60 (IntKind.i64.wrap (t61 + (1 : Int))) bt4 bt6 bt7 bt8 bt9 bt16))) else (ex0_0 bt4 bt6 bt7 bt8 bt9 bt16))
theorem zct {R S : Type} (F : R → Option S) (t59) (t60) (t61) (bt4) (bt6) (bt7) (bt8) (bt9) (bt16) (nx0) (ex0_0) : (zh9 t59 t60 t61 bt4 bt6 bt7 bt8 bt9 bt16 nx0 ex0_0).bind F = zh9 t59 t60 t61 bt4 bt6 bt7 bt8 bt9 bt16 (fun a0 a1 a2 a3 a4 a5 a6 a7 a8 => (nx0 a0 a1 a2 a3 a4 a5 a6 a7 a8).bind F) (fun a0 a1 a2 a3 a4 a5 => (ex0_0 a0 a1 a2 a3 a4 a5).bind F) := by
  simp only [zh9, z8, z6, zd, z7, ze, zc]
def zip {R : Type} (bt4 : Zt24) (bt6 : Zt18) (bt7 : Zt17) (bt8 : Zt17) (bt9 : Zt5) (bt16 : Zt17) (go1 : Zt11 → Int → Int → Zt24 → Zt18 → Zt17 → Zt5 → Zt17 → Option R) : Option R :=
  (go1 bt7.2.1 ((List.length bt7.2.1) : Int) (0 : Int) bt4 bt6 bt8 bt9 bt16)
theorem zde {R S : Type} (F : R → Option S) (bt4) (bt6) (bt7) (bt8) (bt9) (bt16) (go1) : (zip bt4 bt6 bt7 bt8 bt9 bt16 go1).bind F = zip bt4 bt6 bt7 bt8 bt9 bt16 (fun a0 a1 a2 a3 a4 a5 a6 a7 => (go1 a0 a1 a2 a3 a4 a5 a6 a7).bind F) := by
  simp only [zip, z8, z6, zd, z7, ze, zc]
def zgl {R : Type} (t76 : Zt11) (t77 : Int) (t78 : Int) (bt4 : Zt24) (bt6 : Zt18) (bt8 : Zt17) (bt9 : Zt5) (bt16 : Zt17) (ex1_0 : Zt17 → Zt5 → Zt17 → Option R) (nx1 : Zt11 → Int → Int → Zt24 → Zt18 → Zt17 → Zt5 → Zt17 → Option R) (ex1_1 : Zt17 → Zt5 → Zt17 → Option R) : Option R :=
  (bif (decide (t78 < t77)) then (zj t78 (List.length t76) ((Q290 bt4 (List.getD t76 (t78).toNat ((0 : Int), (bs []), ())).1).bind fun r5 => (bif (!r5.2) then (ex1_0 ((bs []), ([] : List Zt8), ()) ((9 : Int), (List.getD t76 (t78).toNat ((0 : Int), (bs []), ())).1, ()) bt16) else ((Q249 r5.1 bt6 (List.getD t76 (t78).toNat ((0 : Int), (bs []), ())).2.1).bind fun r6 => (bif (!(decide (r6.2 = (0 : Int)))) then (ex1_0 ((bs []), ([] : List Zt8), ()) (r6.2, (List.getD t76 (t78).toNat ((0 : Int), (bs []), ())).1, ()) bt16) else (bif (!(decide (r6.1.1 = (0 : Int)))) then ((Q219 bt16 r6.1.1 r6.1.2.1).bind fun r7 => (nx1 t76 t77 (IntKind.i64.wrap (t78 + (1 : Int))) bt4 bt6 bt8 bt9 r7)) else (nx1 t76 t77 (IntKind.i64.wrap (t78 + (1 : Int))) bt4 bt6 bt8 bt9 bt16))))))) else (ex1_1 bt8 bt9 bt16))
theorem zd2 {R S : Type} (F : R → Option S) (t76) (t77) (t78) (bt4) (bt6) (bt8) (bt9) (bt16) (ex1_0) (nx1) (ex1_1) : (zgl t76 t77 t78 bt4 bt6 bt8 bt9 bt16 ex1_0 nx1 ex1_1).bind F = zgl t76 t77 t78 bt4 bt6 bt8 bt9 bt16 (fun a0 a1 a2 => (ex1_0 a0 a1 a2).bind F) (fun a0 a1 a2 a3 a4 a5 a6 a7 => (nx1 a0 a1 a2 a3 a4 a5 a6 a7).bind F) (fun a0 a1 a2 => (ex1_1 a0 a1 a2).bind F) := by
  simp only [zgl, z8, z6, zd, z7, ze, zc]
def zgz {R : Type} (bt8 : Zt17) (bt9 : Zt5) (bt16 : Zt17) (kr0 : Zt17 → Zt5 → Option R) : Option R :=
  (kr0 bt8 bt9)
theorem zca {R S : Type} (F : R → Option S) (bt8) (bt9) (bt16) (kr0) : (zgz bt8 bt9 bt16 kr0).bind F = zgz bt8 bt9 bt16 (fun a0 a1 => (kr0 a0 a1).bind F) := by
  simp only [zgz, z8, z6, zd, z7, ze, zc]
def zgn {R : Type} (bt8 : Zt17) (bt9 : Zt5) (bt16 : Zt17) (kr0 : Zt17 → Zt5 → Option R) : Option R :=
  (kr0 bt16 ((0 : Int), (0 : Int), ()))
theorem zcn {R S : Type} (F : R → Option S) (bt8) (bt9) (bt16) (kr0) : (zgn bt8 bt9 bt16 kr0).bind F = zgn bt8 bt9 bt16 (fun a0 a1 => (kr0 a0 a1).bind F) := by
  simp only [zgn, z8, z6, zd, z7, ze, zc]
def zvn : Nat → Zt22 → Int → Int → Zt24 → Zt18 → Zt17 → Zt17 → Zt5 → Zt17 → Option (Zt24 × Zt18 × Zt17 × Zt17 × Zt5 × Zt17)
  | 0, _, _, _, _, _, _, _, _, _ => none
  | k + 1, v0, v1, v2, v3, v4, v5, v6, v7, v8 => zh9 v0 v1 v2 v3 v4 v5 v6 v7 v8 (fun a0 a1 a2 a3 a4 a5 a6 a7 a8 => zvn k a0 a1 a2 a3 a4 a5 a6 a7 a8) (fun a0 a1 a2 a3 a4 a5 => some (a0, a1, a2, a3, a4, a5))
def zu4 : Nat → Zt11 → Int → Int → Zt24 → Zt18 → Zt17 → Zt5 → Zt17 → Option (Sum Zt23 Zt23)
  | 0, _, _, _, _, _, _, _, _ => none
  | k + 1, v0, v1, v2, v3, v4, v5, v6, v7 => zgl v0 v1 v2 v3 v4 v5 v6 v7 (fun a0 a1 a2 => some (.inl (a0, a1, a2))) (fun a0 a1 a2 a3 a4 a5 a6 a7 => zu4 k a0 a1 a2 a3 a4 a5 a6 a7) (fun a0 a1 a2 => some (.inr (a0, a1, a2)))
def Q289 (m_0 : Zt24) (a_1 : Zt18) (b_2 : Zt18) (x_3 : Zt17) : Option (Zt17 × Zt5) :=
  zf1 m_0 a_1 b_2 x_3 (fun a0 a1 => some (a0, a1)) (fun a0 a1 a2 a3 a4 a5 a6 a7 a8 => (zvn FUEL a0 a1 a2 a3 a4 a5 a6 a7 a8).bind fun e => zip e.1 e.2.1 e.2.2.1 e.2.2.2.1 e.2.2.2.2.1 e.2.2.2.2.2 (fun a0 a1 a2 a3 a4 a5 a6 a7 => (zu4 FUEL a0 a1 a2 a3 a4 a5 a6 a7).bind fun e => (Sum.elim (fun (we : Zt23) => zgz we.1 we.2.1 we.2.2 (fun a0 a1 => some (a0, a1))) (fun (we : Zt23) => zgn we.1 we.2.1 we.2.2 (fun a0 a1 => some (a0, a1))) e)))
end Groat
namespace Groat
open Go Go.Ref
def z9x {R : Type} (s_0 : Zt26) (kr0 : Bool → Option R) (go0 : Int → Zt26 → Option R) : Option R :=
  (bif (decide ((200 : Int) < ((List.length s_0.1.2.2.1) : Int))) then (kr0 true) else (bif (decide ((300 : Int) < ((List.length s_0.2.2.1) : Int))) then (kr0 true) else (bif (decide ((300 : Int) < ((List.length s_0.2.2.2.1) : Int))) then (kr0 true) else (go0 (0 : Int) s_0))))
theorem zlm {R S : Type} (F : R → Option S) (s_0) (kr0) (go0) : (z9x s_0 kr0 go0).bind F = z9x s_0 (fun a0 => (kr0 a0).bind F) (fun a0 a1 => (go0 a0 a1).bind F) := by
  simp only [z9x, z8, z6, zd, z7, ze, zc]
def zey {R : Type} (t3 : Int) (bt1 : Zt26) (ex0_0 : Bool → Option R) (nx0 : Int → Zt26 → Option R) (ex0_1 : Option R) : Option R :=
  (bif (decide (t3 < ((List.length bt1.2.2.2.1) : Int))) then (zj t3 (List.length bt1.2.2.2.1) (bif (decide ((1200 : Int) < (((List.getD bt1.2.2.2.1 (t3).toNat ((0 : Int), (bs []), ())).2.1).size : Int))) then (ex0_0 true) else (nx0 (IntKind.i64.wrap (t3 + (1 : Int))) bt1))) else (ex0_1))
theorem zpm {R S : Type} (F : R → Option S) (t3) (bt1) (ex0_0) (nx0) (ex0_1) : (zey t3 bt1 ex0_0 nx0 ex0_1).bind F = zey t3 bt1 (fun a0 => (ex0_0 a0).bind F) (fun a0 a1 => (nx0 a0 a1).bind F) ((ex0_1).bind F) := by
  simp only [zey, z8, z6, zd, z7, ze, zc]
def zfy {R : Type} (t2 : Bool) (kr0 : Bool → Option R) : Option R :=
  (kr0 t2)
theorem zsy {R S : Type} (F : R → Option S) (t2) (kr0) : (zfy t2 kr0).bind F = zfy t2 (fun a0 => (kr0 a0).bind F) := by
  simp only [zfy, z8, z6, zd, z7, ze, zc]
def zfe {R : Type}  (kr0 : Bool → Option R) : Option R :=
  (kr0 false)
theorem zna {R S : Type} (F : R → Option S)  (kr0 : Bool → Option R) : (zfe kr0).bind F = zfe (fun a0 => (kr0 a0).bind F) := by
  simp only [zfe, z8, z6, zd, z7, ze, zc]
def zet : Nat → Int → Zt26 → Option (Sum Bool Unit)
  | 0, _, _ => none
  | k + 1, v0, v1 => zey v0 v1 (fun a0 => some (.inl a0)) (fun a0 a1 => zet k a0 a1) (some (.inr ()))
def Q184 (s_0 : Zt26) : Option Bool :=
  z9x s_0 (fun a0 => some a0) (fun a0 a1 => (zet FUEL a0 a1).bind fun e => (Sum.elim (fun (we : Bool) => zfy we (fun a0 => some a0)) (fun (we : Unit) => zfe (fun a0 => some a0)) e))
def zbu {R : Type} (s_0 : Zt26) (kr0 : Zt26 → Option R) : Option R :=
  ((Q138 s_0.1).bind fun r1 => (bif (decide (((List.length ([] : List Int)) + (List.length s_0.2.2.1)) * 8 ≤ 140737488355328)) then (bif (decide (((List.length ([] : List Zt8)) + (List.length s_0.2.2.2.1)) * 24 ≤ 140737488355328)) then (kr0 (r1, s_0.2.1, (([] : List Int) ++ s_0.2.2.1), (([] : List Zt8) ++ s_0.2.2.2.1), ())) else none) else none))
theorem z1a9 {R S : Type} (F : R → Option S) (s_0) (kr0) : (zbu s_0 kr0).bind F = zbu s_0 (fun a0 => (kr0 a0).bind F) := by
  simp only [zbu, z8, z6, zd, z7, ze, zc]
def Q183 (s_0 : Zt26) : Option Zt26 :=
  zbu s_0 (fun a0 => some a0)
def zbv {R : Type} (l_0 : Zt11) (n_1 : Int) (e_2 : Int) (go0 : Zt11 → Int → Int → Int → Option R) : Option R :=
  (go0 l_0 n_1 e_2 (0 : Int))
theorem zmz {R S : Type} (F : R → Option S) (l_0) (n_1) (e_2) (go0) : (zbv l_0 n_1 e_2 go0).bind F = zbv l_0 n_1 e_2 (fun a0 a1 a2 a3 => (go0 a0 a1 a2 a3).bind F) := by
  simp only [zbv, z8, z6, zd, z7, ze, zc]
def z8p {R : Type} (l_0 : Zt11) (n_1 : Int) (e_2 : Int) (t7 : Int) (ex0_0 : Int → Option R) (nx0 : Zt11 → Int → Int → Int → Option R) (ex0_1 : Option R) : Option R :=
  (bif (decide (t7 < n_1)) then (zj t7 (List.length l_0) (bif (decide ((List.getD l_0 (t7).toNat ((0 : Int), (bs []), ())).1 = e_2)) then (ex0_0 t7) else (nx0 l_0 n_1 e_2 (IntKind.i64.wrap (t7 + (1 : Int)))))) else (ex0_1))
theorem znp {R S : Type} (F : R → Option S) (l_0) (n_1) (e_2) (t7) (ex0_0) (nx0) (ex0_1) : (z8p l_0 n_1 e_2 t7 ex0_0 nx0 ex0_1).bind F = z8p l_0 n_1 e_2 t7 (fun a0 => (ex0_0 a0).bind F) (fun a0 a1 a2 a3 => (nx0 a0 a1 a2 a3).bind F) ((ex0_1).bind F) := by
  simp only [z8p, z8, z6, zd, z7, ze, zc]
def zhi {R : Type} (t6 : Int) (kr0 : Int → Option R) : Option R :=
  (kr0 t6)
theorem zl1 {R S : Type} (F : R → Option S) (t6) (kr0) : (zhi t6 kr0).bind F = zhi t6 (fun a0 => (kr0 a0).bind F) := by
  simp only [zhi, z8, z6, zd, z7, ze, zc]
def zgf {R : Type}  (kr0 : Int → Option R) : Option R :=
  (kr0 (-1 : Int))
theorem zrk {R S : Type} (F : R → Option S)  (kr0 : Int → Option R) : (zgf kr0).bind F = zgf (fun a0 => (kr0 a0).bind F) := by
  simp only [zgf, z8, z6, zd, z7, ze, zc]
def z8u : Nat → Zt11 → Int → Int → Int → Option (Sum Int Unit)
  | 0, _, _, _, _ => none
  | k + 1, v0, v1, v2, v3 => z8p v0 v1 v2 v3 (fun a0 => some (.inl a0)) (fun a0 a1 a2 a3 => z8u k a0 a1 a2 a3) (some (.inr ()))
def Q185 (l_0 : Zt11) (n_1 : Int) (e_2 : Int) : Option Int :=
  zbv l_0 n_1 e_2 (fun a0 a1 a2 a3 => (z8u FUEL a0 a1 a2 a3).bind fun e => (Sum.elim (fun (we : Int) => zhi we (fun a0 => some a0)) (fun (we : Unit) => zgf (fun a0 => some a0)) e))
def zbm {R : Type} (s_0 : Zt26) (kr0 : Int → Int → Int → Option R) (go0 : Int → Int → Zt26 → Option R) : Option R :=
  ((Q141 s_0.1).bind fun r1 => (bif (!r1) then (kr0 (1 : Int) (1 : Int) (0 : Int)) else ((Q139 s_0.1 (39 : Int)).bind fun r2 => (bif (decide (r2 < (0 : Int))) then (kr0 (9 : Int) (1 : Int) (1 : Int)) else (go0 r2 (0 : Int) s_0)))))
theorem zd9 {R S : Type} (F : R → Option S) (s_0) (kr0) (go0) : (zbm s_0 kr0 go0).bind F = zbm s_0 (fun a0 a1 a2 => (kr0 a0 a1 a2).bind F) (fun a0 a1 a2 => (go0 a0 a1 a2).bind F) := by
  simp only [zbm, z8, z6, zd, z7, ze, zc]
def z7q {R : Type} (t5 : Int) (t6 : Int) (bt1 : Zt26) (ex0_0 : Int → Int → Int → Int → Zt26 → Option R) (nx0 : Int → Int → Zt26 → Option R) (ex0_1 : Int → Zt26 → Option R) : Option R :=
  (bif (decide (t6 < ((List.length bt1.2.2.1) : Int))) then (zj t6 (List.length bt1.2.2.1) ((Q139 bt1.1 (List.getD bt1.2.2.1 (t6).toNat (0 : Int))).bind fun r3 => (bif (decide (r3 < (0 : Int))) then (ex0_0 (9 : Int) (2 : Int) t6 t5 bt1) else (zj t6 (List.length bt1.2.2.1) (bif (decide ((List.getD bt1.2.2.1 (t6).toNat (0 : Int)) = (39 : Int))) then (ex0_0 (1 : Int) (2 : Int) t6 t5 bt1) else (bif (decide ((0 : Int) ≤ t6)) then (bif (decide (t6 ≤ (((List.length bt1.2.2.1) : Nat) : Int))) then (zj t6 (List.length bt1.2.2.1) ((Q118 (List.drop 0 (List.take (t6).toNat bt1.2.2.1)) (List.getD bt1.2.2.1 (t6).toNat (0 : Int))).bind fun r4 => (bif r4 then (ex0_0 (10 : Int) (2 : Int) t6 t5 bt1) else (nx0 t5 (IntKind.i64.wrap (t6 + (1 : Int))) bt1)))) else none) else none)))))) else (ex0_1 t5 bt1))
theorem zcj {R S : Type} (F : R → Option S) (t5) (t6) (bt1) (ex0_0) (nx0) (ex0_1) : (z7q t5 t6 bt1 ex0_0 nx0 ex0_1).bind F = z7q t5 t6 bt1 (fun a0 a1 a2 a3 a4 => (ex0_0 a0 a1 a2 a3 a4).bind F) (fun a0 a1 a2 => (nx0 a0 a1 a2).bind F) (fun a0 a1 => (ex0_1 a0 a1).bind F) := by
  simp only [z7q, z8, z6, zd, z7, ze, zc]
def zep {R : Type} (t2 : Int) (t3 : Int) (t4 : Int) (t5 : Int) (bt1 : Zt26) (kr0 : Int → Int → Int → Option R) : Option R :=
  (kr0 t2 t3 t4)
theorem zdd {R S : Type} (F : R → Option S) (t2) (t3) (t4) (t5) (bt1) (kr0) : (zep t2 t3 t4 t5 bt1 kr0).bind F = zep t2 t3 t4 t5 bt1 (fun a0 a1 a2 => (kr0 a0 a1 a2).bind F) := by
  simp only [zep, z8, z6, zd, z7, ze, zc]
def zb5 {R : Type} (t5 : Int) (bt1 : Zt26) (go1 : Int → Int → Zt26 → Option R) : Option R :=
  (go1 t5 (0 : Int) bt1)
theorem zcp {R S : Type} (F : R → Option S) (t5) (bt1) (go1) : (zb5 t5 bt1 go1).bind F = zb5 t5 bt1 (fun a0 a1 a2 => (go1 a0 a1 a2).bind F) := by
  simp only [zb5, z8, z6, zd, z7, ze, zc]
def z85 {R : Type} (t5 : Int) (t7 : Int) (bt1 : Zt26) (ex1_0 : Int → Int → Int → Zt26 → Option R) (nx1 : Int → Int → Zt26 → Option R) (ex1_1 : Zt26 → Option R) : Option R :=
  (bif (decide (t7 < ((List.length bt1.2.2.2.1) : Int))) then (zj t7 (List.length bt1.2.2.2.1) (bif (decide ((List.getD bt1.2.2.2.1 (t7).toNat ((0 : Int), (bs []), ())).1 < (0 : Int))) then (ex1_0 (1 : Int) (3 : Int) t7 bt1) else (zj t7 (List.length bt1.2.2.2.1) (bif (decide ((16 : Int) < (List.getD bt1.2.2.2.1 (t7).toNat ((0 : Int), (bs []), ())).1)) then (ex1_0 (1 : Int) (3 : Int) t7 bt1) else (zj t7 (List.length bt1.2.2.2.1) ((Q185 bt1.2.2.2.1 t7 (List.getD bt1.2.2.2.1 (t7).toNat ((0 : Int), (bs []), ())).1).bind fun r5 => (bif (decide ((0 : Int) ≤ r5)) then (ex1_0 (10 : Int) (3 : Int) t7 bt1) else (zj t5 (List.length bt1.1.2.2.1) (zj t7 (List.length bt1.2.2.2.1) ((Q134 (List.getD bt1.1.2.2.1 (t5).toNat ((0 : Int), (0 : Int), (0 : Int), (0 : Int), (0 : Int), ())) (List.getD bt1.2.2.2.1 (t7).toNat ((0 : Int), (bs []), ())).2.1).bind fun r6 => (bif (!(decide (r6 = (0 : Int)))) then (ex1_0 r6 (3 : Int) t7 bt1) else (nx1 t5 (IntKind.i64.wrap (t7 + (1 : Int))) bt1)))))))))))) else (ex1_1 bt1))
theorem zda {R S : Type} (F : R → Option S) (t5) (t7) (bt1) (ex1_0) (nx1) (ex1_1) : (z85 t5 t7 bt1 ex1_0 nx1 ex1_1).bind F = z85 t5 t7 bt1 (fun a0 a1 a2 a3 => (ex1_0 a0 a1 a2 a3).bind F) (fun a0 a1 a2 => (nx1 a0 a1 a2).bind F) (fun a0 => (ex1_1 a0).bind F) := by
  simp only [z85, z8, z6, zd, z7, ze, zc]
def zes {R : Type} (t2 : Int) (t3 : Int) (t4 : Int) (bt1 : Zt26) (kr0 : Int → Int → Int → Option R) : Option R :=
  (kr0 t2 t3 t4)
theorem zci {R S : Type} (F : R → Option S) (t2) (t3) (t4) (bt1) (kr0) : (zes t2 t3 t4 bt1 kr0).bind F = zes t2 t3 t4 bt1 (fun a0 a1 a2 => (kr0 a0 a1 a2).bind F) := by
  simp only [zes, z8, z6, zd, z7, ze, zc]
def zat {R : Type} (bt1 : Zt26) (kr0 : Int → Int → Int → Option R) : Option R :=
  ((Q185 bt1.2.2.2.1 ((List.length bt1.2.2.2.1) : Int) (0 : Int)).bind fun r7 => (bif (decide (r7 < (0 : Int))) then (kr0 (15 : Int) (3 : Int) ((List.length bt1.2.2.2.1) : Int)) else (kr0 (0 : Int) (0 : Int) (0 : Int))))
theorem zd4 {R S : Type} (F : R → Option S) (bt1) (kr0) : (zat bt1 kr0).bind F = zat bt1 (fun a0 a1 a2 => (kr0 a0 a1 a2).bind F) := by
  simp only [zat, z8, z6, zd, z7, ze, zc]
def z8d : Nat → Int → Int → Zt26 → Option (Sum (Int × Int × Int × Int × Zt26) (Int × Zt26))
  | 0, _, _, _ => none
  | k + 1, v0, v1, v2 => z7q v0 v1 v2 (fun a0 a1 a2 a3 a4 => some (.inl (a0, a1, a2, a3, a4))) (fun a0 a1 a2 => z8d k a0 a1 a2) (fun a0 a1 => some (.inr (a0, a1)))
def z90 : Nat → Int → Int → Zt26 → Option (Sum (Int × Int × Int × Zt26) Zt26)
  | 0, _, _, _ => none
  | k + 1, v0, v1, v2 => z85 v0 v1 v2 (fun a0 a1 a2 a3 => some (.inl (a0, a1, a2, a3))) (fun a0 a1 a2 => z90 k a0 a1 a2) (fun a0 => some (.inr a0))
def Q181 (s_0 : Zt26) : Option Zt1 :=
  zbm s_0 (fun a0 a1 a2 => some (a0, a1, a2)) (fun a0 a1 a2 => (z8d FUEL a0 a1 a2).bind fun e => (Sum.elim (fun (we : (Int × Int × Int × Int × Zt26)) => zep we.1 we.2.1 we.2.2.1 we.2.2.2.1 we.2.2.2.2 (fun a0 a1 a2 => some (a0, a1, a2))) (fun (we : (Int × Zt26)) => zb5 we.1 we.2 (fun a0 a1 a2 => (z90 FUEL a0 a1 a2).bind fun e => (Sum.elim (fun (we : (Int × Int × Int × Zt26)) => zes we.1 we.2.1 we.2.2.1 we.2.2.2 (fun a0 a1 a2 => some (a0, a1, a2))) (fun (we : Zt26) => zat we (fun a0 a1 a2 => some (a0, a1, a2))) e))) e))
end Groat
namespace Groat
open Go Go.Ref
end Groat
namespace Groat
open Go Go.Ref
end Groat
namespace Groat
open Go Go.Ref
end Groat
namespace Groat
open Go Go.Ref
end Groat
namespace Groat
open Go Go.Ref
end Groat
namespace Groat
open Go Go.Ref
end Groat
namespace Groat
open Go Go.Ref
end Groat
namespace Groat
open Go Go.Ref
def zea {R : Type} (l_0 : (List ByteArray)) (go0 : (List ByteArray) → Zt14 → Int → Option R) : Option R :=
  (go0 l_0 ([] : List Zt10) (0 : Int))
theorem zqm {R S : Type} (F : R → Option S) (l_0) (go0) : (zea l_0 go0).bind F = zea l_0 (fun a0 a1 a2 => (go0 a0 a1 a2).bind F) := by
  simp only [zea, z8, z6, zd, z7, ze, zc]
def zfl {R : Type} (l_0 : (List ByteArray)) (t3 : Zt14) (t4 : Int) (nx0 : (List ByteArray) → Zt14 → Int → Option R) (ex0_0 : Zt14 → Option R) : Option R :=
  (bif (decide (t4 < ((List.length l_0) : Int))) then (zj t4 (List.length l_0) (zj (IntKind.i64.wrap (t4 + (1 : Int))) (List.length l_0) (bif (decide (((List.length t3) + (List.length ([((List.getD l_0 (t4).toNat (bs [])), (List.getD l_0 ((IntKind.i64.wrap (t4 + (1 : Int)))).toNat (bs [])), ())] : List Zt10))) * 32 ≤ 140737488355328)) then (nx0 l_0 (t3 ++ ([((List.getD l_0 (t4).toNat (bs [])), (List.getD l_0 ((IntKind.i64.wrap (t4 + (1 : Int)))).toNat (bs [])), ())] : List Zt10)) (IntKind.i64.wrap (t4 + (2 : Int)))) else none))) else (ex0_0 t3))
theorem ztc {R S : Type} (F : R → Option S) (l_0) (t3) (t4) (nx0) (ex0_0) : (zfl l_0 t3 t4 nx0 ex0_0).bind F = zfl l_0 t3 t4 (fun a0 a1 a2 => (nx0 a0 a1 a2).bind F) (fun a0 => (ex0_0 a0).bind F) := by
  simp only [zfl, z8, z6, zd, z7, ze, zc]
def zg0 {R : Type} (t3 : Zt14) (kr0 : Zt14 → Option R) : Option R :=
  (kr0 t3)
theorem zsq {R S : Type} (F : R → Option S) (t3) (kr0) : (zg0 t3 kr0).bind F = zg0 t3 (fun a0 => (kr0 a0).bind F) := by
  simp only [zg0, z8, z6, zd, z7, ze, zc]
def zux : Nat → (List ByteArray) → Zt14 → Int → Option Zt14
  | 0, _, _, _ => none
  | k + 1, v0, v1, v2 => zfl v0 v1 v2 (fun a0 a1 a2 => zux k a0 a1 a2) (fun a0 => some a0)
def Q196 (l_0 : (List ByteArray)) : Option Zt14 :=
  zea l_0 (fun a0 a1 a2 => (zux FUEL a0 a1 a2).bind fun e => zg0 e (fun a0 => some a0))
def zfw {R : Type}  (go0 : Zt22 → (List Int) → Int → Option R) : Option R :=
  ((Q143).bind fun r1 => (go0 ([] : List Zt20) r1 (0 : Int)))
theorem zpn {R S : Type} (F : R → Option S)  (go0 : Zt22 → (List Int) → Int → Option R) : (zfw go0).bind F = zfw (fun a0 a1 a2 => (go0 a0 a1 a2).bind F) := by
  simp only [zfw, z8, z6, zd, z7, ze, zc]
def zh8 {R : Type} (t1 : Zt22) (t2 : (List Int)) (t3 : Int) (nx0 : Zt22 → (List Int) → Int → Option R) (ex0_0 : Zt22 → Option R) : Option R :=
  (bif (decide (t3 < ((List.length t2) : Int))) then (zj t3 (List.length t2) (bif (decide ((List.getD t2 (t3).toNat (0 : Int)) = (12 : Int))) then (zj t3 (List.length t2) (zj t3 (List.length t2) (bif (decide (((List.length t1) + (List.length ([((4 : Int), (List.getD t2 (t3).toNat (0 : Int)), (List.getD t2 (t3).toNat (0 : Int)), (bs []), ([] : List Zt10), ())] : List Zt20))) * 64 ≤ 140737488355328)) then (nx0 (t1 ++ ([((4 : Int), (List.getD t2 (t3).toNat (0 : Int)), (List.getD t2 (t3).toNat (0 : Int)), (bs []), ([] : List Zt10), ())] : List Zt20)) t2 (IntKind.i64.wrap (t3 + (1 : Int)))) else none))) else (zj t3 (List.length t2) (zj t3 (List.length t2) (bif (decide (((List.length t1) + (List.length ([((1 : Int), (List.getD t2 (t3).toNat (0 : Int)), (List.getD t2 (t3).toNat (0 : Int)), (bs []), ([] : List Zt10), ())] : List Zt20))) * 64 ≤ 140737488355328)) then (nx0 (t1 ++ ([((1 : Int), (List.getD t2 (t3).toNat (0 : Int)), (List.getD t2 (t3).toNat (0 : Int)), (bs []), ([] : List Zt10), ())] : List Zt20)) t2 (IntKind.i64.wrap (t3 + (1 : Int)))) else none))))) else (ex0_0 t1))
theorem zni {R S : Type} (F : R → Option S) (t1) (t2) (t3) (nx0) (ex0_0) : (zh8 t1 t2 t3 nx0 ex0_0).bind F = zh8 t1 t2 t3 (fun a0 a1 a2 => (nx0 a0 a1 a2).bind F) (fun a0 => (ex0_0 a0).bind F) := by
  simp only [zh8, z8, z6, zd, z7, ze, zc]
def zek {R : Type} (t1 : Zt22) (kr0 : Zt22 → Option R) : Option R :=
  (kr0 t1)
theorem zny {R S : Type} (F : R → Option S) (t1) (kr0) : (zek t1 kr0).bind F = zek t1 (fun a0 => (kr0 a0).bind F) := by
  simp only [zek, z8, z6, zd, z7, ze, zc]
def zup : Nat → Zt22 → (List Int) → Int → Option Zt22
  | 0, _, _, _ => none
  | k + 1, v0, v1, v2 => zh8 v0 v1 v2 (fun a0 a1 a2 => zup k a0 a1 a2) (fun a0 => some a0)
def Q195  : Option Zt22 :=
  zfw (fun a0 a1 a2 => (zup FUEL a0 a1 a2).bind fun e => zek e (fun a0 => some a0))
def zf3 {R : Type} (other_0 : ByteArray) (form_1 : ByteArray) (table_2 : ByteArray) (kr0 : Zt11 → Option R) : Option R :=
  (kr0 ([((0 : Int), other_0, ()), ((2 : Int), form_1, ()), ((3 : Int), form_1, ()), ((12 : Int), form_1, ()), ((9 : Int), form_1, ()), ((15 : Int), table_2, ())] : List Zt8))
theorem z1da {R S : Type} (F : R → Option S) (other_0) (form_1) (table_2) (kr0) : (zf3 other_0 form_1 table_2 kr0).bind F = zf3 other_0 form_1 table_2 (fun a0 => (kr0 a0).bind F) := by
  simp only [zf3, z8, z6, zd, z7, ze, zc]
def Q194 (other_0 : ByteArray) (form_1 : ByteArray) (table_2 : ByteArray) : Option Zt11 :=
  zf3 other_0 form_1 table_2 (fun a0 => some a0)
def zhg {R : Type}  (kr0 : Zt29 → Option R) : Option R :=
  ((Q196 ([(bs [48, 49, 48, 48]), (bs [49, 49, 48, 48]), (bs [48, 49, 49, 48]), (bs [49, 49, 49, 48]), (bs [48, 50, 48, 48]), (bs [49, 50, 48, 48]), (bs [48, 50, 49, 48]), (bs [49, 50, 49, 48]), (bs [48, 50, 50, 48]), (bs [49, 50, 50, 48]), (bs [48, 50, 51, 48]), (bs [49, 50, 51, 48]), (bs [48, 52, 48, 48]), (bs [49, 52, 48, 48]), (bs [48, 52, 49, 48]), (bs [49, 52, 49, 48]), (bs [48, 52, 50, 48]), (bs [49, 52, 50, 48]), (bs [48, 52, 51, 48]), (bs [49, 52, 51, 48]), (bs [48, 56, 48, 48]), (bs [49, 56, 48, 52]), (bs [48, 56, 49, 48]), (bs [49, 56, 49, 52])] : List ByteArray)).bind fun r1 => ((Q196 ([(bs [48, 53, 49]), (bs [53, 49, 48, 49, 48, 49, 53, 49, 49, 51, 52, 52]), (bs [48, 50, 49]), (bs [50, 49, 48, 49, 48, 49, 50, 49, 49, 51, 52, 52]), (bs [48, 49, 50]), (bs [49, 48, 48, 49, 52, 48, 49, 48, 48, 49, 49, 48])] : List ByteArray)).bind fun r2 => ((Q196 ([(bs [48, 48]), (bs [48, 48, 48]), (bs [48, 53]), (bs [49, 48, 48]), (bs [49, 52]), (bs [49, 49, 49]), (bs [53, 49]), (bs [49, 49, 54]), (bs [53, 52]), (bs [49, 48, 49]), (bs [57, 49]), (bs [57, 48, 55]), (bs [57, 54]), (bs [57, 48, 57])] : List ByteArray)).bind fun r3 => ((Q195).bind fun r4 => (bif (decide (((List.length r4) + (List.length ([((2 : Int), (13 : Int), (0 : Int), (bs []), ([] : List Zt10), ()), ((2 : Int), (18 : Int), (0 : Int), (bs []), ([] : List Zt10), ()), ((2 : Int), (90 : Int), (0 : Int), (bs []), ([] : List Zt10), ()), ((5 : Int), (22 : Int), (22 : Int), (bs []), r2, ()), ((5 : Int), (39 : Int), (39 : Int), (bs []), r3, ()), ((1 : Int), (43 : Int), (43 : Int), (bs []), ([] : List Zt10), ()), ((1 : Int), (48 : Int), (48 : Int), (bs []), ([] : List Zt10), ()), ((3 : Int), (0 : Int), (26 : Int), (bs [53, 57, 57, 57]), ([] : List Zt10), ())] : List Zt20))) * 64 ≤ 140737488355328)) then ((Q195).bind fun r5 => ((Q163 r2).bind fun r6 => ((Q163 r3).bind fun r7 => (bif (decide (((List.length r5) + (List.length ([((2 : Int), (26 : Int), (0 : Int), (bs []), ([] : List Zt10), ()), ((2 : Int), (43 : Int), (0 : Int), (bs []), ([] : List Zt10), ()), ((5 : Int), (22 : Int), (22 : Int), (bs []), r6, ()), ((5 : Int), (39 : Int), (39 : Int), (bs []), r7, ()), ((1 : Int), (48 : Int), (48 : Int), (bs []), ([] : List Zt10), ())] : List Zt20))) * 64 ≤ 140737488355328)) then ((Q144 (0 : Int)).bind fun r8 => ((Q194 (bs [57, 54]) (bs [51, 48]) (bs [49, 50])).bind fun r9 => (zj (0 : Int) 2 ((Q144 (1 : Int)).bind fun r10 => ((Q163 r1).bind fun r11 => (bif (decide (((List.length ([] : List Int)) + (List.length ([(2 : Int), (3 : Int), (4 : Int), (7 : Int), (11 : Int), (12 : Int), (32 : Int), (37 : Int), (41 : Int), (42 : Int), (70 : Int)] : List Int))) * 8 ≤ 140737488355328)) then ((Q194 (bs [57, 48, 57]) (bs [57, 48, 52]) (bs [57, 48, 50])).bind fun r12 => (zj (1 : Int) 2 (kr0 ((List.set (List.set (List.replicate 2 (((0 : Int), (0 : Int), ([] : List Zt13), ()), (([] : List Zt10), ([] : List Zt20), ()), ([] : List Int), ([] : List Zt8), ())) ((0 : Int)).toNat (r8, (r1, (r4 ++ ([((2 : Int), (13 : Int), (0 : Int), (bs []), ([] : List Zt10), ()), ((2 : Int), (18 : Int), (0 : Int), (bs []), ([] : List Zt10), ()), ((2 : Int), (90 : Int), (0 : Int), (bs []), ([] : List Zt10), ()), ((5 : Int), (22 : Int), (22 : Int), (bs []), r2, ()), ((5 : Int), (39 : Int), (39 : Int), (bs []), r3, ()), ((1 : Int), (43 : Int), (43 : Int), (bs []), ([] : List Zt10), ()), ((1 : Int), (48 : Int), (48 : Int), (bs []), ([] : List Zt10), ()), ((3 : Int), (0 : Int), (26 : Int), (bs [53, 57, 57, 57]), ([] : List Zt10), ())] : List Zt20)), ()), ([(2 : Int), (3 : Int), (4 : Int), (7 : Int), (11 : Int), (12 : Int), (32 : Int), (37 : Int), (41 : Int), (42 : Int), (70 : Int)] : List Int), r9, ())) ((1 : Int)).toNat (r10, (r11, (r5 ++ ([((2 : Int), (26 : Int), (0 : Int), (bs []), ([] : List Zt10), ()), ((2 : Int), (43 : Int), (0 : Int), (bs []), ([] : List Zt10), ()), ((5 : Int), (22 : Int), (22 : Int), (bs []), r6, ()), ((5 : Int), (39 : Int), (39 : Int), (bs []), r7, ()), ((1 : Int), (48 : Int), (48 : Int), (bs []), ([] : List Zt10), ())] : List Zt20)), ()), (([] : List Int) ++ ([(2 : Int), (3 : Int), (4 : Int), (7 : Int), (11 : Int), (12 : Int), (32 : Int), (37 : Int), (41 : Int), (42 : Int), (70 : Int)] : List Int)), r12, ())), (4096 : Int), ())))) else none)))))) else none)))) else none)))))
theorem z1dj {R S : Type} (F : R → Option S)  (kr0 : Zt29 → Option R) : (zhg kr0).bind F = zhg (fun a0 => (kr0 a0).bind F) := by
  simp only [zhg, z8, z6, zd, z7, ze, zc]
def Q186  : Option Zt29 :=
  zhg (fun a0 => some a0)
def zbf {R : Type} (c_0 : Zt29) (kr0 : Bool → Option R) : Option R :=
  (zj (0 : Int) 2 ((Q184 (List.getD c_0.1 ((0 : Int)).toNat (((0 : Int), (0 : Int), ([] : List Zt13), ()), (([] : List Zt10), ([] : List Zt20), ()), ([] : List Int), ([] : List Zt8), ()))).bind fun r1 => (bif r1 then (kr0 true) else (zj (1 : Int) 2 ((Q184 (List.getD c_0.1 ((1 : Int)).toNat (((0 : Int), (0 : Int), ([] : List Zt13), ()), (([] : List Zt10), ([] : List Zt20), ()), ([] : List Int), ([] : List Zt8), ()))).bind fun r2 => (bif r2 then (kr0 true) else (zj (0 : Int) 2 ((Q171 (List.getD c_0.1 ((0 : Int)).toNat (((0 : Int), (0 : Int), ([] : List Zt13), ()), (([] : List Zt10), ([] : List Zt20), ()), ([] : List Int), ([] : List Zt8), ())).2.1).bind fun r3 => (bif r3 then (kr0 true) else (zj (1 : Int) 2 ((Q171 (List.getD c_0.1 ((1 : Int)).toNat (((0 : Int), (0 : Int), ([] : List Zt13), ()), (([] : List Zt10), ([] : List Zt20), ()), ([] : List Int), ([] : List Zt8), ())).2.1).bind fun r4 => (kr0 r4))))))))))))
theorem z17n {R S : Type} (F : R → Option S) (c_0) (kr0) : (zbf c_0 kr0).bind F = zbf c_0 (fun a0 => (kr0 a0).bind F) := by
  simp only [zbf, z8, z6, zd, z7, ze, zc]
def Q189 (c_0 : Zt29) : Option Bool :=
  zbf c_0 (fun a0 => some a0)
def zao {R : Type} (c_0 : Zt29) (go0 : Int → Zt29 → Zt29 → Option R) : Option R :=
  (go0 (0 : Int) c_0 ((List.replicate 2 (((0 : Int), (0 : Int), ([] : List Zt13), ()), (([] : List Zt10), ([] : List Zt20), ()), ([] : List Int), ([] : List Zt8), ())), (0 : Int), ()))
theorem zlq {R S : Type} (F : R → Option S) (c_0) (go0) : (zao c_0 go0).bind F = zao c_0 (fun a0 a1 a2 => (go0 a0 a1 a2).bind F) := by
  simp only [zao, z8, z6, zd, z7, ze, zc]
def z68 {R : Type} (t3 : Int) (bt1 : Zt29) (bt2 : Zt29) (nx0 : Int → Zt29 → Zt29 → Option R) (ex0_0 : Zt29 → Zt29 → Option R) : Option R :=
  (bif (decide (t3 < (2 : Int))) then (zj t3 2 ((Q170 (List.getD bt1.1 (t3).toNat (((0 : Int), (0 : Int), ([] : List Zt13), ()), (([] : List Zt10), ([] : List Zt20), ()), ([] : List Int), ([] : List Zt8), ())).2.1).bind fun r1 => (zj t3 2 ((Q183 (List.getD bt1.1 (t3).toNat (((0 : Int), (0 : Int), ([] : List Zt13), ()), (([] : List Zt10), ([] : List Zt20), ()), ([] : List Int), ([] : List Zt8), ()))).bind fun r2 => (zj t3 2 (zj t3 2 (nx0 (IntKind.i64.wrap (t3 + (1 : Int))) ((List.set (List.set bt1.1 (t3).toNat r2) (t3).toNat ((List.getD (List.set bt1.1 (t3).toNat r2) (t3).toNat (((0 : Int), (0 : Int), ([] : List Zt13), ()), (([] : List Zt10), ([] : List Zt20), ()), ([] : List Int), ([] : List Zt8), ())).1, r1, (List.getD (List.set bt1.1 (t3).toNat r2) (t3).toNat (((0 : Int), (0 : Int), ([] : List Zt13), ()), (([] : List Zt10), ([] : List Zt20), ()), ([] : List Int), ([] : List Zt8), ())).2.2.1, (List.getD (List.set bt1.1 (t3).toNat r2) (t3).toNat (((0 : Int), (0 : Int), ([] : List Zt13), ()), (([] : List Zt10), ([] : List Zt20), ()), ([] : List Int), ([] : List Zt8), ())).2.2.2.1, ())), bt1.2.1, ()) bt2))))))) else (ex0_0 bt1 bt2))
theorem znn {R S : Type} (F : R → Option S) (t3) (bt1) (bt2) (nx0) (ex0_0) : (z68 t3 bt1 bt2 nx0 ex0_0).bind F = z68 t3 bt1 bt2 (fun a0 a1 a2 => (nx0 a0 a1 a2).bind F) (fun a0 a1 => (ex0_0 a0 a1).bind F) := by
  simp only [z68, z8, z6, zd, z7, ze, zc]
def zj9 {R : Type} (bt1 : Zt29) (bt2 : Zt29) (kr0 : Zt29 → Option R) : Option R :=
  (kr0 bt1)
theorem zmq {R S : Type} (F : R → Option S) (bt1) (bt2) (kr0) : (zj9 bt1 bt2 kr0).bind F = zj9 bt1 bt2 (fun a0 => (kr0 a0).bind F) := by
  simp only [zj9, z8, z6, zd, z7, ze, zc]
def z8o : Nat → Int → Zt29 → Zt29 → Option (Zt29 × Zt29)
  | 0, _, _, _ => none
  | k + 1, v0, v1, v2 => z68 v0 v1 v2 (fun a0 a1 a2 => z8o k a0 a1 a2) (fun a0 a1 => some (a0, a1))
def Q188 (c_0 : Zt29) : Option Zt29 :=
  zao c_0 (fun a0 a1 a2 => (z8o FUEL a0 a1 a2).bind fun e => zj9 e.1 e.2 (fun a0 => some a0))
def za4 {R : Type} (c_0 : Zt29) (kr0 : Int → Int → Int → Option R) (go0 : Int → Zt29 → Option R) : Option R :=
  (bif (decide (c_0.2.1 < (1 : Int))) then (kr0 (5 : Int) (2 : Int) (0 : Int)) else (bif (decide ((65535 : Int) < c_0.2.1)) then (kr0 (5 : Int) (2 : Int) (0 : Int)) else (go0 (0 : Int) c_0)))
theorem zln {R S : Type} (F : R → Option S) (c_0) (kr0) (go0) : (za4 c_0 kr0 go0).bind F = za4 c_0 (fun a0 a1 a2 => (kr0 a0 a1 a2).bind F) (fun a0 a1 => (go0 a0 a1).bind F) := by
  simp only [za4, z8, z6, zd, z7, ze, zc]
def z61 {R : Type} (t5 : Int) (bt1 : Zt29) (ex0_0 : Int → Int → Int → Option R) (nx0 : Int → Zt29 → Option R) (ex0_1 : Option R) : Option R :=
  (bif (decide (t5 < (2 : Int))) then (zj t5 2 ((Q181 (List.getD bt1.1 (t5).toNat (((0 : Int), (0 : Int), ([] : List Zt13), ()), (([] : List Zt10), ([] : List Zt20), ()), ([] : List Int), ([] : List Zt8), ()))).bind fun r1 => (bif (!(decide (r1.1 = (0 : Int)))) then (ex0_0 r1.1 t5 (1 : Int)) else (zj t5 2 (zj t5 2 (zj (IntKind.i64.wrap ((1 : Int) - t5)) 2 ((Q169 (List.getD bt1.1 (t5).toNat (((0 : Int), (0 : Int), ([] : List Zt13), ()), (([] : List Zt10), ([] : List Zt20), ()), ([] : List Int), ([] : List Zt8), ())).2.1 (List.getD bt1.1 (t5).toNat (((0 : Int), (0 : Int), ([] : List Zt13), ()), (([] : List Zt10), ([] : List Zt20), ()), ([] : List Int), ([] : List Zt8), ())).1 (List.getD bt1.1 ((IntKind.i64.wrap ((1 : Int) - t5))).toNat (((0 : Int), (0 : Int), ([] : List Zt13), ()), (([] : List Zt10), ([] : List Zt20), ()), ([] : List Int), ([] : List Zt8), ())).1).bind fun r2 => (bif (!(decide (r2.1 = (0 : Int)))) then (ex0_0 r2.1 t5 (2 : Int)) else (nx0 (IntKind.i64.wrap (t5 + (1 : Int))) bt1))))))))) else (ex0_1))
theorem zm2 {R S : Type} (F : R → Option S) (t5) (bt1) (ex0_0) (nx0) (ex0_1) : (z61 t5 bt1 ex0_0 nx0 ex0_1).bind F = z61 t5 bt1 (fun a0 a1 a2 => (ex0_0 a0 a1 a2).bind F) (fun a0 a1 => (nx0 a0 a1).bind F) ((ex0_1).bind F) := by
  simp only [z61, z8, z6, zd, z7, ze, zc]
def ziq {R : Type} (t2 : Int) (t3 : Int) (t4 : Int) (kr0 : Int → Int → Int → Option R) : Option R :=
  (kr0 t2 t3 t4)
theorem zr3 {R S : Type} (F : R → Option S) (t2) (t3) (t4) (kr0) : (ziq t2 t3 t4 kr0).bind F = ziq t2 t3 t4 (fun a0 a1 a2 => (kr0 a0 a1 a2).bind F) := by
  simp only [ziq, z8, z6, zd, z7, ze, zc]
def zeh {R : Type}  (kr0 : Int → Int → Int → Option R) : Option R :=
  (kr0 (0 : Int) (0 : Int) (0 : Int))
theorem zqu {R S : Type} (F : R → Option S)  (kr0 : Int → Int → Int → Option R) : (zeh kr0).bind F = zeh (fun a0 a1 a2 => (kr0 a0 a1 a2).bind F) := by
  simp only [zeh, z8, z6, zd, z7, ze, zc]
def z8j : Nat → Int → Zt29 → Option (Sum Zt1 Unit)
  | 0, _, _ => none
  | k + 1, v0, v1 => z61 v0 v1 (fun a0 a1 a2 => some (.inl (a0, a1, a2))) (fun a0 a1 => z8j k a0 a1) (some (.inr ()))
def Q187 (c_0 : Zt29) : Option Zt1 :=
  za4 c_0 (fun a0 a1 a2 => some (a0, a1, a2)) (fun a0 a1 => (z8j FUEL a0 a1).bind fun e => (Sum.elim (fun (we : Zt1) => ziq we.1 we.2.1 we.2.2 (fun a0 a1 a2 => some (a0, a1, a2))) (fun (we : Unit) => zeh (fun a0 a1 a2 => some (a0, a1, a2))) e))
end Groat
namespace Groat
open Go Go.Ref
def z9g {R : Type} (s_0 : Zt26) (i_1 : Int) (kr0 : Int → Option R) : Option R :=
  (zj i_1 (List.length s_0.2.2.1) ((Q255 s_0.1 (List.getD s_0.2.2.1 (i_1).toNat (0 : Int))).bind fun r1 => (bif (!r1.2) then (kr0 (9 : Int)) else (bif (decide ((List.getD s_0.2.2.1 (i_1).toNat (0 : Int)) = (39 : Int))) then (kr0 (1 : Int)) else (bif (decide ((0 : Int) ≤ i_1)) then (bif (decide (i_1 ≤ (((List.length s_0.2.2.1) : Nat) : Int))) then ((Q260 (List.drop 0 (List.take (i_1).toNat s_0.2.2.1)) (List.getD s_0.2.2.1 (i_1).toNat (0 : Int))).bind fun r2 => (bif r2 then (kr0 (10 : Int)) else (kr0 (0 : Int)))) else none) else none)))))
theorem z16c {R S : Type} (F : R → Option S) (s_0) (i_1) (kr0) : (z9g s_0 i_1 kr0).bind F = z9g s_0 i_1 (fun a0 => (kr0 a0).bind F) := by
  simp only [z9g, z8, z6, zd, z7, ze, zc]
def Q236 (s_0 : Zt26) (i_1 : Int) : Option Int :=
  z9g s_0 i_1 (fun a0 => some a0)
def zax {R : Type} (x_0 : Zt8) (free_1 : Zt8) (kr0 : Bool → Zt8 → Option R) : Option R :=
  (kr0 (decide (x_0.1 = free_1.1)) free_1)
theorem z18o {R S : Type} (F : R → Option S) (x_0) (free_1) (kr0) : (zax x_0 free_1 kr0).bind F = zax x_0 free_1 (fun a0 a1 => (kr0 a0 a1).bind F) := by
  simp only [zax, z8, z6, zd, z7, ze, zc]
def Q235 (x_0 : Zt8) (free_1 : Zt8) : Option (Bool × Zt8) :=
  zax x_0 free_1 (fun a0 a1 => some (a0, a1))
def zbk {R : Type} (a_0 : Zt11) (a_1 : Zt8) (go0 : Zt11 → Int → Int → Zt8 → Option R) : Option R :=
  (go0 a_0 ((List.length a_0) : Int) (0 : Int) a_1)
theorem zly {R S : Type} (F : R → Option S) (a_0) (a_1) (go0) : (zbk a_0 a_1 go0).bind F = zbk a_0 a_1 (fun a0 a1 a2 a3 => (go0 a0 a1 a2 a3).bind F) := by
  simp only [zbk, z8, z6, zd, z7, ze, zc]
def zj2 {R : Type} (a_0 : Zt11) (t7 : Int) (t8 : Int) (recv : Zt8) (ex0_0 : Int → Zt8 → Option R) (nx0 : Zt11 → Int → Int → Zt8 → Option R) (ex0_1 : Zt8 → Option R) : Option R :=
  (bif (decide (t8 < t7)) then (zj t8 (List.length a_0) ((Q235 (List.getD a_0 (t8).toNat ((0 : Int), (bs []), ())) recv).bind fun r1 => (bif r1.1 then (ex0_0 t8 r1.2) else (nx0 a_0 t7 (IntKind.i64.wrap (t8 + (1 : Int))) r1.2)))) else (ex0_1 recv))
theorem ztt {R S : Type} (F : R → Option S) (a_0) (t7) (t8) (recv) (ex0_0) (nx0) (ex0_1) : (zj2 a_0 t7 t8 recv ex0_0 nx0 ex0_1).bind F = zj2 a_0 t7 t8 recv (fun a0 a1 => (ex0_0 a0 a1).bind F) (fun a0 a1 a2 a3 => (nx0 a0 a1 a2 a3).bind F) (fun a0 => (ex0_1 a0).bind F) := by
  simp only [zj2, z8, z6, zd, z7, ze, zc]
def zjn {R : Type} (t4 : Int) (recv : Zt8) (kr0 : Int → Zt8 → Option R) : Option R :=
  (kr0 t4 recv)
theorem zrg {R S : Type} (F : R → Option S) (t4) (recv) (kr0) : (zjn t4 recv kr0).bind F = zjn t4 recv (fun a0 a1 => (kr0 a0 a1).bind F) := by
  simp only [zjn, z8, z6, zd, z7, ze, zc]
def ze6 {R : Type} (recv : Zt8) (kr0 : Int → Zt8 → Option R) : Option R :=
  (kr0 (-1 : Int) recv)
theorem zre {R S : Type} (F : R → Option S) (recv) (kr0) : (ze6 recv kr0).bind F = ze6 recv (fun a0 a1 => (kr0 a0 a1).bind F) := by
  simp only [ze6, z8, z6, zd, z7, ze, zc]
def zjh : Nat → Zt11 → Int → Int → Zt8 → Option (Sum (Int × Zt8) Zt8)
  | 0, _, _, _, _ => none
  | k + 1, v0, v1, v2, v3 => zj2 v0 v1 v2 v3 (fun a0 a1 => some (.inl (a0, a1))) (fun a0 a1 a2 a3 => zjh k a0 a1 a2 a3) (fun a0 => some (.inr a0))
def Q262 (a_0 : Zt11) (a_1 : Zt8) : Option (Int × Zt8) :=
  zbk a_0 a_1 (fun a0 a1 a2 a3 => (zjh FUEL a0 a1 a2 a3).bind fun e => (Sum.elim (fun (we : (Int × Zt8)) => zjn we.1 we.2 (fun a0 a1 => some (a0, a1))) (fun (we : Zt8) => ze6 we (fun a0 a1 => some (a0, a1))) e))
def zal {R : Type} (a_0 : Zt11) (a_1 : Zt8) (kr0 : Bool → Zt8 → Option R) : Option R :=
  ((Q262 a_0 a_1).bind fun r1 => (kr0 (decide ((0 : Int) ≤ r1.1)) r1.2))
theorem z19q {R S : Type} (F : R → Option S) (a_0) (a_1) (kr0) : (zal a_0 a_1 kr0).bind F = zal a_0 a_1 (fun a0 a1 => (kr0 a0 a1).bind F) := by
  simp only [zal, z8, z6, zd, z7, ze, zc]
def Q259 (a_0 : Zt11) (a_1 : Zt8) : Option (Bool × Zt8) :=
  zal a_0 a_1 (fun a0 a1 => some (a0, a1))
def zb9 {R : Type} (s_0 : Zt26) (i_1 : Int) (action_2 : Zt13) (kr0 : Int → Option R) : Option R :=
  (zj i_1 (List.length s_0.2.2.2.1) (bif (decide ((List.getD s_0.2.2.2.1 (i_1).toNat ((0 : Int), (bs []), ())).1 < (0 : Int))) then (kr0 (1 : Int)) else (bif (decide ((16 : Int) < (List.getD s_0.2.2.2.1 (i_1).toNat ((0 : Int), (bs []), ())).1)) then (kr0 (1 : Int)) else (bif (decide ((0 : Int) ≤ i_1)) then (bif (decide (i_1 ≤ (((List.length s_0.2.2.2.1) : Nat) : Int))) then ((Q259 (List.drop 0 (List.take (i_1).toNat s_0.2.2.2.1)) (List.getD s_0.2.2.2.1 (i_1).toNat ((0 : Int), (bs []), ()))).bind fun r1 => (bif r1.1 then (kr0 (10 : Int)) else ((Q266 action_2 r1.2.2.1).bind fun r2 => (kr0 r2)))) else none) else none))))
theorem z16j {R S : Type} (F : R → Option S) (s_0) (i_1) (action_2) (kr0) : (zb9 s_0 i_1 action_2 kr0).bind F = zb9 s_0 i_1 action_2 (fun a0 => (kr0 a0).bind F) := by
  simp only [zb9, z8, z6, zd, z7, ze, zc]
def Q234 (s_0 : Zt26) (i_1 : Int) (action_2 : Zt13) : Option Int :=
  zb9 s_0 i_1 action_2 (fun a0 => some a0)
def zbw {R : Type} (s_0 : Zt26) (kr0 : Int → Int → Int → Option R) (go0 : Int → Int → Zt26 → Zt13 → Option R) : Option R :=
  ((Q254 s_0.1).bind fun r1 => (bif (!(decide (r1.1 = (0 : Int)))) then (kr0 (1 : Int) (1 : Int) (0 : Int)) else ((Q255 s_0.1 (39 : Int)).bind fun r2 => (bif (!r2.2) then (kr0 (9 : Int) (1 : Int) (1 : Int)) else (go0 ((List.length s_0.2.2.1) : Int) (0 : Int) s_0 r2.1)))))
theorem zc5 {R S : Type} (F : R → Option S) (s_0) (kr0) (go0) : (zbw s_0 kr0 go0).bind F = zbw s_0 (fun a0 a1 a2 => (kr0 a0 a1 a2).bind F) (fun a0 a1 a2 a3 => (go0 a0 a1 a2 a3).bind F) := by
  simp only [zbw, z8, z6, zd, z7, ze, zc]
def z7z {R : Type} (t33 : Int) (t34 : Int) (bt1 : Zt26) (bt7 : Zt13) (ex0_0 : Int → Int → Int → Zt26 → Zt13 → Option R) (nx0 : Int → Int → Zt26 → Zt13 → Option R) (ex0_1 : Zt26 → Zt13 → Option R) : Option R :=
  (bif (decide (t34 < t33)) then ((Q236 bt1 t34).bind fun r3 => (bif (!(decide (r3 = (0 : Int)))) then (ex0_0 r3 (2 : Int) t34 bt1 bt7) else (nx0 t33 (IntKind.i64.wrap (t34 + (1 : Int))) bt1 bt7))) else (ex0_1 bt1 bt7))
theorem zdc {R S : Type} (F : R → Option S) (t33) (t34) (bt1) (bt7) (ex0_0) (nx0) (ex0_1) : (z7z t33 t34 bt1 bt7 ex0_0 nx0 ex0_1).bind F = z7z t33 t34 bt1 bt7 (fun a0 a1 a2 a3 a4 => (ex0_0 a0 a1 a2 a3 a4).bind F) (fun a0 a1 a2 a3 => (nx0 a0 a1 a2 a3).bind F) (fun a0 a1 => (ex0_1 a0 a1).bind F) := by
  simp only [z7z, z8, z6, zd, z7, ze, zc]
def zj5 {R : Type} (t2 : Int) (t3 : Int) (t4 : Int) (bt1 : Zt26) (bt7 : Zt13) (kr0 : Int → Int → Int → Option R) : Option R :=
  (kr0 t2 t3 t4)
theorem zcg {R S : Type} (F : R → Option S) (t2) (t3) (t4) (bt1) (bt7) (kr0) : (zj5 t2 t3 t4 bt1 bt7 kr0).bind F = zj5 t2 t3 t4 bt1 bt7 (fun a0 a1 a2 => (kr0 a0 a1 a2).bind F) := by
  simp only [zj5, z8, z6, zd, z7, ze, zc]
def zby {R : Type} (bt1 : Zt26) (bt7 : Zt13) (go1 : Bool → Zt11 → Int → Int → Zt26 → Zt13 → Option R) : Option R :=
  (go1 false bt1.2.2.2.1 ((List.length bt1.2.2.2.1) : Int) (0 : Int) bt1 bt7)
theorem zc2 {R S : Type} (F : R → Option S) (bt1) (bt7) (go1) : (zby bt1 bt7 go1).bind F = zby bt1 bt7 (fun a0 a1 a2 a3 a4 a5 => (go1 a0 a1 a2 a3 a4 a5).bind F) := by
  simp only [zby, z8, z6, zd, z7, ze, zc]
def z8q {R : Type} (t11 : Bool) (t46 : Zt11) (t47 : Int) (t48 : Int) (bt1 : Zt26) (bt7 : Zt13) (ex1_0 : Int → Int → Int → Bool → Zt26 → Option R) (nx1 : Bool → Zt11 → Int → Int → Zt26 → Zt13 → Option R) (ex1_1 : Bool → Zt26 → Option R) : Option R :=
  (bif (decide (t48 < t47)) then (zj t48 (List.length t46) ((Q234 bt1 t48 bt7).bind fun r4 => (bif (!(decide (r4 = (0 : Int)))) then (ex1_0 r4 (3 : Int) t48 t11 bt1) else (bif t11 then (nx1 true t46 t47 (IntKind.i64.wrap (t48 + (1 : Int))) bt1 bt7) else (nx1 (decide ((List.getD t46 (t48).toNat ((0 : Int), (bs []), ())).1 = (0 : Int))) t46 t47 (IntKind.i64.wrap (t48 + (1 : Int))) bt1 bt7))))) else (ex1_1 t11 bt1))
theorem zd8 {R S : Type} (F : R → Option S) (t11) (t46) (t47) (t48) (bt1) (bt7) (ex1_0) (nx1) (ex1_1) : (z8q t11 t46 t47 t48 bt1 bt7 ex1_0 nx1 ex1_1).bind F = z8q t11 t46 t47 t48 bt1 bt7 (fun a0 a1 a2 a3 a4 => (ex1_0 a0 a1 a2 a3 a4).bind F) (fun a0 a1 a2 a3 a4 a5 => (nx1 a0 a1 a2 a3 a4 a5).bind F) (fun a0 a1 => (ex1_1 a0 a1).bind F) := by
  simp only [z8q, z8, z6, zd, z7, ze, zc]
def zi0 {R : Type} (t2 : Int) (t3 : Int) (t4 : Int) (t11 : Bool) (bt1 : Zt26) (kr0 : Int → Int → Int → Option R) : Option R :=
  (kr0 t2 t3 t4)
theorem zc8 {R S : Type} (F : R → Option S) (t2) (t3) (t4) (t11) (bt1) (kr0) : (zi0 t2 t3 t4 t11 bt1 kr0).bind F = zi0 t2 t3 t4 t11 bt1 (fun a0 a1 a2 => (kr0 a0 a1 a2).bind F) := by
  simp only [zi0, z8, z6, zd, z7, ze, zc]
def zb1 {R : Type} (t11 : Bool) (bt1 : Zt26) (kr0 : Int → Int → Int → Option R) : Option R :=
  (bif (!t11) then (kr0 (15 : Int) (3 : Int) ((List.length bt1.2.2.2.1) : Int)) else (kr0 (0 : Int) (0 : Int) (0 : Int)))
theorem zch {R S : Type} (F : R → Option S) (t11) (bt1) (kr0) : (zb1 t11 bt1 kr0).bind F = zb1 t11 bt1 (fun a0 a1 a2 => (kr0 a0 a1 a2).bind F) := by
  simp only [zb1, z8, z6, zd, z7, ze, zc]
def z8e : Nat → Int → Int → Zt26 → Zt13 → Option (Sum (Int × Int × Int × Zt26 × Zt13) (Zt26 × Zt13))
  | 0, _, _, _, _ => none
  | k + 1, v0, v1, v2, v3 => z7z v0 v1 v2 v3 (fun a0 a1 a2 a3 a4 => some (.inl (a0, a1, a2, a3, a4))) (fun a0 a1 a2 a3 => z8e k a0 a1 a2 a3) (fun a0 a1 => some (.inr (a0, a1)))
def z8w : Nat → Bool → Zt11 → Int → Int → Zt26 → Zt13 → Option (Sum (Int × Int × Int × Bool × Zt26) (Bool × Zt26))
  | 0, _, _, _, _, _, _ => none
  | k + 1, v0, v1, v2, v3, v4, v5 => z8q v0 v1 v2 v3 v4 v5 (fun a0 a1 a2 a3 a4 => some (.inl (a0, a1, a2, a3, a4))) (fun a0 a1 a2 a3 a4 a5 => z8w k a0 a1 a2 a3 a4 a5) (fun a0 a1 => some (.inr (a0, a1)))
def Q232 (s_0 : Zt26) : Option Zt1 :=
  zbw s_0 (fun a0 a1 a2 => some (a0, a1, a2)) (fun a0 a1 a2 a3 => (z8e FUEL a0 a1 a2 a3).bind fun e => (Sum.elim (fun (we : (Int × Int × Int × Zt26 × Zt13)) => zj5 we.1 we.2.1 we.2.2.1 we.2.2.2.1 we.2.2.2.2 (fun a0 a1 a2 => some (a0, a1, a2))) (fun (we : (Zt26 × Zt13)) => zby we.1 we.2 (fun a0 a1 a2 a3 a4 a5 => (z8w FUEL a0 a1 a2 a3 a4 a5).bind fun e => (Sum.elim (fun (we : (Int × Int × Int × Bool × Zt26)) => zi0 we.1 we.2.1 we.2.2.1 we.2.2.2.1 we.2.2.2.2 (fun a0 a1 a2 => some (a0, a1, a2))) (fun (we : (Bool × Zt26)) => zb1 we.1 we.2 (fun a0 a1 a2 => some (a0, a1, a2))) e))) e))
def zhe {R : Type} (s_0 : Zt26) (e_1 : Int) (go0 : (List Int) → Int → Int → Zt26 → Option R) : Option R :=
  (go0 ([e_1, (0 : Int)] : List Int) ((List.length ([e_1, (0 : Int)] : List Int)) : Int) (0 : Int) s_0)
theorem zcc {R S : Type} (F : R → Option S) (s_0) (e_1) (go0) : (zhe s_0 e_1 go0).bind F = zhe s_0 e_1 (fun a0 a1 a2 a3 => (go0 a0 a1 a2 a3).bind F) := by
  simp only [zhe, z8, z6, zd, z7, ze, zc]
def zg8 {R : Type} (t10 : (List Int)) (t11 : Int) (t12 : Int) (bt2 : Zt26) (go1 : Int → (List Int) → Int → Int → Zt11 → Int → Int → Zt26 → Option R) (ex0_0 : Option R) : Option R :=
  (bif (decide (t12 < t11)) then (zj t12 (List.length t10) (go1 (List.getD t10 (t12).toNat (0 : Int)) t10 t11 t12 bt2.2.2.2.1 ((List.length bt2.2.2.2.1) : Int) (0 : Int) bt2)) else (ex0_0))
theorem zcv {R S : Type} (F : R → Option S) (t10) (t11) (t12) (bt2) (go1) (ex0_0) : (zg8 t10 t11 t12 bt2 go1 ex0_0).bind F = zg8 t10 t11 t12 bt2 (fun a0 a1 a2 a3 a4 a5 a6 a7 => (go1 a0 a1 a2 a3 a4 a5 a6 a7).bind F) ((ex0_0).bind F) := by
  simp only [zg8, z8, z6, zd, z7, ze, zc]
def zi9 {R : Type}  (kr0 : ByteArray → Option R) : Option R :=
  (kr0 (bs []))
theorem zcr {R S : Type} (F : R → Option S)  (kr0 : ByteArray → Option R) : (zi9 kr0).bind F = zi9 (fun a0 => (kr0 a0).bind F) := by
  simp only [zi9, z8, z6, zd, z7, ze, zc]
def zir {R : Type} (t6 : Int) (t10 : (List Int)) (t11 : Int) (t12 : Int) (t17 : Zt11) (t18 : Int) (t19 : Int) (bt2 : Zt26) (ex1_0 : ByteArray → (List Int) → Int → Int → Zt26 → Option R) (nx1 : Int → (List Int) → Int → Int → Zt11 → Int → Int → Zt26 → Option R) (ex1_1 : (List Int) → Int → Int → Zt26 → Option R) : Option R :=
  (bif (decide (t19 < t18)) then (zj t19 (List.length t17) (bif (decide ((List.getD t17 (t19).toNat ((0 : Int), (bs []), ())).1 = t6)) then (ex1_0 (List.getD t17 (t19).toNat ((0 : Int), (bs []), ())).2.1 t10 t11 t12 bt2) else (nx1 t6 t10 t11 t12 t17 t18 (IntKind.i64.wrap (t19 + (1 : Int))) bt2))) else (ex1_1 t10 t11 t12 bt2))
theorem zd6 {R S : Type} (F : R → Option S) (t6) (t10) (t11) (t12) (t17) (t18) (t19) (bt2) (ex1_0) (nx1) (ex1_1) : (zir t6 t10 t11 t12 t17 t18 t19 bt2 ex1_0 nx1 ex1_1).bind F = zir t6 t10 t11 t12 t17 t18 t19 bt2 (fun a0 a1 a2 a3 a4 => (ex1_0 a0 a1 a2 a3 a4).bind F) (fun a0 a1 a2 a3 a4 a5 a6 a7 => (nx1 a0 a1 a2 a3 a4 a5 a6 a7).bind F) (fun a0 a1 a2 a3 => (ex1_1 a0 a1 a2 a3).bind F) := by
  simp only [zir, z8, z6, zd, z7, ze, zc]
def zha {R : Type} (t4 : ByteArray) (t10 : (List Int)) (t11 : Int) (t12 : Int) (bt2 : Zt26) (ex0_1 : ByteArray → Option R) : Option R :=
  (ex0_1 t4)
theorem zd5 {R S : Type} (F : R → Option S) (t4) (t10) (t11) (t12) (bt2) (ex0_1) : (zha t4 t10 t11 t12 bt2 ex0_1).bind F = zha t4 t10 t11 t12 bt2 (fun a0 => (ex0_1 a0).bind F) := by
  simp only [zha, z8, z6, zd, z7, ze, zc]
def zjo {R : Type} (t10 : (List Int)) (t11 : Int) (t12 : Int) (bt2 : Zt26) (nx0 : (List Int) → Int → Int → Zt26 → Option R) : Option R :=
  (nx0 t10 t11 (IntKind.i64.wrap (t12 + (1 : Int))) bt2)
theorem zc9 {R S : Type} (F : R → Option S) (t10) (t11) (t12) (bt2) (nx0) : (zjo t10 t11 t12 bt2 nx0).bind F = zjo t10 t11 t12 bt2 (fun a0 a1 a2 a3 => (nx0 a0 a1 a2 a3).bind F) := by
  simp only [zjo, z8, z6, zd, z7, ze, zc]
def zgq {R : Type} (t4 : ByteArray) (kr0 : ByteArray → Option R) : Option R :=
  (kr0 t4)
theorem zc0 {R S : Type} (F : R → Option S) (t4) (kr0) : (zgq t4 kr0).bind F = zgq t4 (fun a0 => (kr0 a0).bind F) := by
  simp only [zgq, z8, z6, zd, z7, ze, zc]
def zu7 : Nat → Int → (List Int) → Int → Int → Zt11 → Int → Int → Zt26 → Option (Sum (ByteArray × (List Int) × Int × Int × Zt26) ((List Int) × Int × Int × Zt26))
  | 0, _, _, _, _, _, _, _, _ => none
  | k + 1, v0, v1, v2, v3, v4, v5, v6, v7 => zir v0 v1 v2 v3 v4 v5 v6 v7 (fun a0 a1 a2 a3 a4 => some (.inl (a0, a1, a2, a3, a4))) (fun a0 a1 a2 a3 a4 a5 a6 a7 => zu7 k a0 a1 a2 a3 a4 a5 a6 a7) (fun a0 a1 a2 a3 => some (.inr (a0, a1, a2, a3)))
def zw5 : Nat → (List Int) → Int → Int → Zt26 → Option (Sum Unit ByteArray)
  | 0, _, _, _, _ => none
  | k + 1, v0, v1, v2, v3 => zg8 v0 v1 v2 v3 (fun a0 a1 a2 a3 a4 a5 a6 a7 => (zu7 FUEL a0 a1 a2 a3 a4 a5 a6 a7).bind fun e => (Sum.elim (fun (we : (ByteArray × (List Int) × Int × Int × Zt26)) => zha we.1 we.2.1 we.2.2.1 we.2.2.2.1 we.2.2.2.2 (fun a0 => some (.inr a0))) (fun (we : ((List Int) × Int × Int × Zt26)) => zjo we.1 we.2.1 we.2.2.1 we.2.2.2 (fun a0 a1 a2 a3 => zw5 k a0 a1 a2 a3)) e)) (some (.inl ()))
def Q233 (s_0 : Zt26) (e_1 : Int) : Option ByteArray :=
  zhe s_0 e_1 (fun a0 a1 a2 a3 => (zw5 FUEL a0 a1 a2 a3).bind fun e => (Sum.elim (fun (we : Unit) => zi9 (fun a0 => some a0)) (fun (we : ByteArray) => zgq we (fun a0 => some a0)) e))
def zj7 {R : Type} (s_0 : Zt26) (m_1 : Zt17) (f_2 : Zt5) (kr0 : Zt17 → Bool → Option R) (go0 : (List Int) → Int → Int → Zt26 → Zt17 → Zt5 → Zt17 → Zt17 → Option R) : Option R :=
  ((Q223 m_1.1).bind fun r1 => (bif (!r1.2) then (kr0 ((bs []), ([] : List Zt8), ()) false) else (go0 s_0.2.2.1 ((List.length s_0.2.2.1) : Int) (0 : Int) s_0 m_1 f_2 ((bs []), ([] : List Zt8), ()) (r1.1, ([] : List Zt8), ()))))
theorem zop {R S : Type} (F : R → Option S) (s_0) (m_1) (f_2) (kr0) (go0) : (zj7 s_0 m_1 f_2 kr0 go0).bind F = zj7 s_0 m_1 f_2 (fun a0 a1 => (kr0 a0 a1).bind F) (fun a0 a1 a2 a3 a4 a5 a6 a7 => (go0 a0 a1 a2 a3 a4 a5 a6 a7).bind F) := by
  simp only [zj7, z8, z6, zd, z7, ze, zc]
def zh1 {R : Type} (t27 : (List Int)) (t28 : Int) (t29 : Int) (bt3 : Zt26) (bt4 : Zt17) (bt5 : Zt5) (bt6 : Zt17) (bt10 : Zt17) (nx0 : (List Int) → Int → Int → Zt26 → Zt17 → Zt5 → Zt17 → Zt17 → Option R) (ex0_0 : Zt26 → Zt5 → Zt17 → Zt17 → Option R) : Option R :=
  (bif (decide (t29 < t28)) then (zj t29 (List.length t27) ((Q217 bt4 (List.getD t27 (t29).toNat (0 : Int))).bind fun r2 => (bif r2.2 then ((Q219 bt10 (List.getD t27 (t29).toNat (0 : Int)) r2.1).bind fun r3 => (nx0 t27 t28 (IntKind.i64.wrap (t29 + (1 : Int))) bt3 bt4 bt5 bt6 r3)) else (nx0 t27 t28 (IntKind.i64.wrap (t29 + (1 : Int))) bt3 bt4 bt5 bt6 bt10)))) else (ex0_0 bt3 bt5 bt6 bt10))
theorem zp3 {R S : Type} (F : R → Option S) (t27) (t28) (t29) (bt3) (bt4) (bt5) (bt6) (bt10) (nx0) (ex0_0) : (zh1 t27 t28 t29 bt3 bt4 bt5 bt6 bt10 nx0 ex0_0).bind F = zh1 t27 t28 t29 bt3 bt4 bt5 bt6 bt10 (fun a0 a1 a2 a3 a4 a5 a6 a7 => (nx0 a0 a1 a2 a3 a4 a5 a6 a7).bind F) (fun a0 a1 a2 a3 => (ex0_0 a0 a1 a2 a3).bind F) := by
  simp only [zh1, z8, z6, zd, z7, ze, zc]
def zdx {R : Type} (bt3 : Zt26) (bt5 : Zt5) (bt6 : Zt17) (bt10 : Zt17) (kr0 : Zt17 → Bool → Option R) : Option R :=
  ((Q233 bt3 bt5.1).bind fun r4 => ((Q219 bt10 (39 : Int) r4).bind fun r5 => (kr0 r5 true)))
theorem zno {R S : Type} (F : R → Option S) (bt3) (bt5) (bt6) (bt10) (kr0) : (zdx bt3 bt5 bt6 bt10 kr0).bind F = zdx bt3 bt5 bt6 bt10 (fun a0 a1 => (kr0 a0 a1).bind F) := by
  simp only [zdx, z8, z6, zd, z7, ze, zc]
def zvi : Nat → (List Int) → Int → Int → Zt26 → Zt17 → Zt5 → Zt17 → Zt17 → Option (Zt26 × Zt5 × Zt17 × Zt17)
  | 0, _, _, _, _, _, _, _, _ => none
  | k + 1, v0, v1, v2, v3, v4, v5, v6, v7 => zh1 v0 v1 v2 v3 v4 v5 v6 v7 (fun a0 a1 a2 a3 a4 a5 a6 a7 => zvi k a0 a1 a2 a3 a4 a5 a6 a7) (fun a0 a1 a2 a3 => some (a0, a1, a2, a3))
def Q231 (s_0 : Zt26) (m_1 : Zt17) (f_2 : Zt5) : Option (Zt17 × Bool) :=
  zj7 s_0 m_1 f_2 (fun a0 a1 => some (a0, a1)) (fun a0 a1 a2 a3 a4 a5 a6 a7 => (zvi FUEL a0 a1 a2 a3 a4 a5 a6 a7).bind fun e => zdx e.1 e.2.1 e.2.2.1 e.2.2.2 (fun a0 a1 => some (a0, a1)))
end Groat
