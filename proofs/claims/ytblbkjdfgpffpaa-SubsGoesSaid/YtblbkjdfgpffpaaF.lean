import Derived.Test.YtblbkjdfgpffpaaRows
import Derived.Test.YtblbkjdfgpffpaaQ5
import Derived.Test.YtblbkjdfgpffpaaQ7
import Derived.Test.YtblbkjdfgpffpaaQ4
import Derived.Test.YtblbkjdfgpffpaaB2
import Derived.Shelf.Abstract
set_option linter.unusedVariables false
namespace Go.Proofs.Ytblbkjdfgpffpaa
open Go Go.Abs
theorem Try.mixed : Try.prog.follows .mixedOrders = true := by kernel_rfl
theorem Try.c1 : cells? Try.prog 1 = some 1 := by kernel_rfl
theorem Try.g1 : agg? Try.prog 1 = some false := by kernel_rfl
theorem Try.z1 : zeros? Try.prog 1 = some [.nilFunc] := by kernel_rfl
theorem Try.c2 : cells? Try.prog 2 = some 1 := by kernel_rfl
theorem Try.g2 : agg? Try.prog 2 = some false := by kernel_rfl
theorem Try.z2 : zeros? Try.prog 2 = some [.int .i64 0] := by kernel_rfl
theorem Try.c3 : cells? Try.prog 3 = some 1 := by kernel_rfl
theorem Try.g3 : agg? Try.prog 3 = some false := by kernel_rfl
theorem Try.z3 : zeros? Try.prog 3 = some [.int .i64 0] := by kernel_rfl
theorem Try.c4 : cells? Try.prog 4 = some 1 := by kernel_rfl
theorem Try.g4 : agg? Try.prog 4 = some false := by kernel_rfl
theorem Try.z4 : zeros? Try.prog 4 = some [.bool false] := by kernel_rfl
theorem Try.c5 : cells? Try.prog 5 = some 1 := by kernel_rfl
theorem Try.g5 : agg? Try.prog 5 = some false := by kernel_rfl
theorem Try.z5 : zeros? Try.prog 5 = some [.int .u8 0] := by kernel_rfl
theorem Try.c6 : cells? Try.prog 6 = some 1 := by kernel_rfl
theorem Try.g6 : agg? Try.prog 6 = some false := by kernel_rfl
theorem Try.z6 : zeros? Try.prog 6 = some [.int .u8 0] := by kernel_rfl
theorem Try.c7 : cells? Try.prog 7 = some 4 := by kernel_rfl
theorem Try.g7 : agg? Try.prog 7 = some true := by kernel_rfl
theorem Try.fd7_0 : field? Try.prog 7 0 = some (0, 2) := by kernel_rfl
theorem Try.fd7_1 : field? Try.prog 7 1 = some (1, 3) := by kernel_rfl
theorem Try.fd7_2 : field? Try.prog 7 2 = some (2, 4) := by kernel_rfl
theorem Try.fd7_3 : field? Try.prog 7 3 = some (3, 6) := by kernel_rfl
theorem Try.pl7 : places? Try.prog 7 = some [(0, 1), (1, 1), (2, 1), (3, 1)] := by kernel_rfl
theorem Try.z7 : zeros? Try.prog 7 = some [.int .i64 0, .int .i64 0, .bool false, .int .u8 0] := by kernel_rfl
theorem Try.c8 : cells? Try.prog 8 = some 4 := by kernel_rfl
theorem Try.g8 : agg? Try.prog 8 = some true := by kernel_rfl
theorem Try.fd8_0 : field? Try.prog 8 0 = some (0, 2) := by kernel_rfl
theorem Try.fd8_1 : field? Try.prog 8 1 = some (1, 3) := by kernel_rfl
theorem Try.fd8_2 : field? Try.prog 8 2 = some (2, 4) := by kernel_rfl
theorem Try.fd8_3 : field? Try.prog 8 3 = some (3, 6) := by kernel_rfl
theorem Try.pl8 : places? Try.prog 8 = some [(0, 1), (1, 1), (2, 1), (3, 1)] := by kernel_rfl
theorem Try.z8 : zeros? Try.prog 8 = some [.int .i64 0, .int .i64 0, .bool false, .int .u8 0] := by kernel_rfl
theorem Try.c9 : cells? Try.prog 9 = some 1 := by kernel_rfl
theorem Try.g9 : agg? Try.prog 9 = some false := by kernel_rfl
theorem Try.z9 : zeros? Try.prog 9 = some [.string ⟨#[]⟩] := by kernel_rfl
theorem Try.c10 : cells? Try.prog 10 = some 1 := by kernel_rfl
theorem Try.g10 : agg? Try.prog 10 = some false := by kernel_rfl
theorem Try.z10 : zeros? Try.prog 10 = some [.string ⟨#[]⟩] := by kernel_rfl
theorem Try.c11 : cells? Try.prog 11 = some 1 := by kernel_rfl
theorem Try.g11 : agg? Try.prog 11 = some false := by kernel_rfl
theorem Try.z11 : zeros? Try.prog 11 = some [.string ⟨#[]⟩] := by kernel_rfl
theorem Try.c12 : cells? Try.prog 12 = some 1 := by kernel_rfl
theorem Try.g12 : agg? Try.prog 12 = some false := by kernel_rfl
theorem Try.z12 : zeros? Try.prog 12 = some [.int .u64 0] := by kernel_rfl
theorem Try.c13 : cells? Try.prog 13 = some 2 := by kernel_rfl
theorem Try.g13 : agg? Try.prog 13 = some true := by kernel_rfl
theorem Try.fd13_0 : field? Try.prog 13 0 = some (0, 9) := by kernel_rfl
theorem Try.fd13_1 : field? Try.prog 13 1 = some (1, 12) := by kernel_rfl
theorem Try.pl13 : places? Try.prog 13 = some [(0, 1), (1, 1)] := by kernel_rfl
theorem Try.z13 : zeros? Try.prog 13 = some [.string ⟨#[]⟩, .int .u64 0] := by kernel_rfl
theorem Try.c14 : cells? Try.prog 14 = some 2 := by kernel_rfl
theorem Try.g14 : agg? Try.prog 14 = some true := by kernel_rfl
theorem Try.fd14_0 : field? Try.prog 14 0 = some (0, 9) := by kernel_rfl
theorem Try.fd14_1 : field? Try.prog 14 1 = some (1, 12) := by kernel_rfl
theorem Try.pl14 : places? Try.prog 14 = some [(0, 1), (1, 1)] := by kernel_rfl
theorem Try.z14 : zeros? Try.prog 14 = some [.string ⟨#[]⟩, .int .u64 0] := by kernel_rfl
theorem Try.c15 : cells? Try.prog 15 = some 1 := by kernel_rfl
theorem Try.g15 : agg? Try.prog 15 = some false := by kernel_rfl
theorem Try.z15 : zeros? Try.prog 15 = some [.pointer none] := by kernel_rfl
theorem Try.c16 : cells? Try.prog 16 = some 1 := by kernel_rfl
theorem Try.g16 : agg? Try.prog 16 = some false := by kernel_rfl
theorem Try.z16 : zeros? Try.prog 16 = some [.pointer none] := by kernel_rfl
theorem Try.c17 : cells? Try.prog 17 = some 1 := by kernel_rfl
theorem Try.g17 : agg? Try.prog 17 = some false := by kernel_rfl
theorem Try.z17 : zeros? Try.prog 17 = some [.pointer none] := by kernel_rfl
theorem Try.c18 : cells? Try.prog 18 = some 1 := by kernel_rfl
theorem Try.g18 : agg? Try.prog 18 = some true := by kernel_rfl
theorem Try.fd18_0 : field? Try.prog 18 0 = some (0, 17) := by kernel_rfl
theorem Try.pl18 : places? Try.prog 18 = some [(0, 1)] := by kernel_rfl
theorem Try.z18 : zeros? Try.prog 18 = some [.pointer none] := by kernel_rfl
theorem Try.c19 : cells? Try.prog 19 = some 1 := by kernel_rfl
theorem Try.g19 : agg? Try.prog 19 = some true := by kernel_rfl
theorem Try.fd19_0 : field? Try.prog 19 0 = some (0, 17) := by kernel_rfl
theorem Try.pl19 : places? Try.prog 19 = some [(0, 1)] := by kernel_rfl
theorem Try.z19 : zeros? Try.prog 19 = some [.pointer none] := by kernel_rfl
theorem Try.c20 : cells? Try.prog 20 = some 1 := by kernel_rfl
theorem Try.g20 : agg? Try.prog 20 = some false := by kernel_rfl
theorem Try.z20 : zeros? Try.prog 20 = some [.nilIface] := by kernel_rfl
theorem Try.c21 : cells? Try.prog 21 = some 1 := by kernel_rfl
theorem Try.g21 : agg? Try.prog 21 = some false := by kernel_rfl
theorem Try.z21 : zeros? Try.prog 21 = some [.int .i32 0] := by kernel_rfl
theorem Try.c22 : cells? Try.prog 22 = some 1 := by kernel_rfl
theorem Try.g22 : agg? Try.prog 22 = some false := by kernel_rfl
theorem Try.e22 : elem? Try.prog 22 = some 57 := by kernel_rfl
theorem Try.ap22 : appT? Try.prog 22 = some (57, 4, 48) := by kernel_rfl
theorem Try.z22 : zeros? Try.prog 22 = some [.slice none 0 0] := by kernel_rfl
theorem Try.c23 : cells? Try.prog 23 = some 2 := by kernel_rfl
theorem Try.g23 : agg? Try.prog 23 = some true := by kernel_rfl
theorem Try.fd23_0 : field? Try.prog 23 0 = some (0, 9) := by kernel_rfl
theorem Try.fd23_1 : field? Try.prog 23 1 = some (1, 9) := by kernel_rfl
theorem Try.pl23 : places? Try.prog 23 = some [(0, 1), (1, 1)] := by kernel_rfl
theorem Try.z23 : zeros? Try.prog 23 = some [.string ⟨#[]⟩, .string ⟨#[]⟩] := by kernel_rfl
theorem Try.c24 : cells? Try.prog 24 = some 2 := by kernel_rfl
theorem Try.g24 : agg? Try.prog 24 = some true := by kernel_rfl
theorem Try.q24 : eqT? Try.prog 24 = some (.agg [.str, .str]) := by kernel_rfl
theorem Try.fd24_0 : field? Try.prog 24 0 = some (0, 9) := by kernel_rfl
theorem Try.fd24_1 : field? Try.prog 24 1 = some (1, 9) := by kernel_rfl
theorem Try.pl24 : places? Try.prog 24 = some [(0, 1), (1, 1)] := by kernel_rfl
theorem Try.z24 : zeros? Try.prog 24 = some [.string ⟨#[]⟩, .string ⟨#[]⟩] := by kernel_rfl
theorem Try.c25 : cells? Try.prog 25 = some 1 := by kernel_rfl
theorem Try.g25 : agg? Try.prog 25 = some false := by kernel_rfl
theorem Try.z25 : zeros? Try.prog 25 = some [.nilFunc] := by kernel_rfl
theorem Try.c26 : cells? Try.prog 26 = some 1 := by kernel_rfl
theorem Try.g26 : agg? Try.prog 26 = some false := by kernel_rfl
theorem Try.e26 : elem? Try.prog 26 = some 63 := by kernel_rfl
theorem Try.ap26 : appT? Try.prog 26 = some (63, 4, 48) := by kernel_rfl
theorem Try.z26 : zeros? Try.prog 26 = some [.slice none 0 0] := by kernel_rfl
theorem Try.c27 : cells? Try.prog 27 = some 1 := by kernel_rfl
theorem Try.g27 : agg? Try.prog 27 = some false := by kernel_rfl
theorem Try.z27 : zeros? Try.prog 27 = some [.nilFunc] := by kernel_rfl
theorem Try.c28 : cells? Try.prog 28 = some 1 := by kernel_rfl
theorem Try.g28 : agg? Try.prog 28 = some false := by kernel_rfl
theorem Try.z28 : zeros? Try.prog 28 = some [.int .i64 0] := by kernel_rfl
theorem Try.c30 : cells? Try.prog 30 = some 1 := by kernel_rfl
theorem Try.g30 : agg? Try.prog 30 = some false := by kernel_rfl
theorem Try.z30 : zeros? Try.prog 30 = some [.nilFunc] := by kernel_rfl
theorem Try.c31 : cells? Try.prog 31 = some 2 := by kernel_rfl
theorem Try.g31 : agg? Try.prog 31 = some true := by kernel_rfl
theorem Try.q31 : eqT? Try.prog 31 = some (.agg [.str, .str]) := by kernel_rfl
theorem Try.fd31_0 : field? Try.prog 31 0 = some (0, 9) := by kernel_rfl
theorem Try.fd31_1 : field? Try.prog 31 1 = some (1, 9) := by kernel_rfl
theorem Try.pl31 : places? Try.prog 31 = some [(0, 1), (1, 1)] := by kernel_rfl
theorem Try.z31 : zeros? Try.prog 31 = some [.string ⟨#[]⟩, .string ⟨#[]⟩] := by kernel_rfl
theorem Try.c33 : cells? Try.prog 33 = some 1 := by kernel_rfl
theorem Try.g33 : agg? Try.prog 33 = some false := by kernel_rfl
theorem Try.z33 : zeros? Try.prog 33 = some [.nilFunc] := by kernel_rfl
theorem Try.c34 : cells? Try.prog 34 = some 1 := by kernel_rfl
theorem Try.g34 : agg? Try.prog 34 = some false := by kernel_rfl
theorem Try.z34 : zeros? Try.prog 34 = some [.nilFunc] := by kernel_rfl
theorem Try.c35 : cells? Try.prog 35 = some 1 := by kernel_rfl
theorem Try.g35 : agg? Try.prog 35 = some false := by kernel_rfl
theorem Try.z35 : zeros? Try.prog 35 = some [.nilFunc] := by kernel_rfl
theorem Try.c36 : cells? Try.prog 36 = some 1 := by kernel_rfl
theorem Try.g36 : agg? Try.prog 36 = some false := by kernel_rfl
theorem Try.z36 : zeros? Try.prog 36 = some [.nilFunc] := by kernel_rfl
theorem Try.c37 : cells? Try.prog 37 = some 1 := by kernel_rfl
theorem Try.g37 : agg? Try.prog 37 = some false := by kernel_rfl
theorem Try.z37 : zeros? Try.prog 37 = some [.nilFunc] := by kernel_rfl
theorem Try.c38 : cells? Try.prog 38 = some 1 := by kernel_rfl
theorem Try.g38 : agg? Try.prog 38 = some false := by kernel_rfl
theorem Try.z38 : zeros? Try.prog 38 = some [.nilFunc] := by kernel_rfl
theorem Try.c39 : cells? Try.prog 39 = some 1 := by kernel_rfl
theorem Try.g39 : agg? Try.prog 39 = some false := by kernel_rfl
theorem Try.z39 : zeros? Try.prog 39 = some [.nilFunc] := by kernel_rfl
theorem Try.c40 : cells? Try.prog 40 = some 1 := by kernel_rfl
theorem Try.g40 : agg? Try.prog 40 = some false := by kernel_rfl
theorem Try.e40 : elem? Try.prog 40 = some 74 := by kernel_rfl
theorem Try.ap40 : appT? Try.prog 40 = some (74, 2, 16) := by kernel_rfl
theorem Try.z40 : zeros? Try.prog 40 = some [.slice none 0 0] := by kernel_rfl
theorem Try.c41 : cells? Try.prog 41 = some 1 := by kernel_rfl
theorem Try.g41 : agg? Try.prog 41 = some false := by kernel_rfl
theorem Try.z41 : zeros? Try.prog 41 = some [.nilFunc] := by kernel_rfl
theorem Try.c42 : cells? Try.prog 42 = some 1 := by kernel_rfl
theorem Try.g42 : agg? Try.prog 42 = some false := by kernel_rfl
theorem Try.e42 : elem? Try.prog 42 = some 60 := by kernel_rfl
theorem Try.ap42 : appT? Try.prog 42 = some (60, 2, 16) := by kernel_rfl
theorem Try.z42 : zeros? Try.prog 42 = some [.slice none 0 0] := by kernel_rfl
theorem Try.c43 : cells? Try.prog 43 = some 1 := by kernel_rfl
theorem Try.g43 : agg? Try.prog 43 = some false := by kernel_rfl
theorem Try.z43 : zeros? Try.prog 43 = some [.nilFunc] := by kernel_rfl
theorem Try.c44 : cells? Try.prog 44 = some 1 := by kernel_rfl
theorem Try.g44 : agg? Try.prog 44 = some false := by kernel_rfl
theorem Try.z44 : zeros? Try.prog 44 = some [.nilFunc] := by kernel_rfl
theorem Try.c45 : cells? Try.prog 45 = some 1 := by kernel_rfl
theorem Try.g45 : agg? Try.prog 45 = some false := by kernel_rfl
theorem Try.z45 : zeros? Try.prog 45 = some [.nilFunc] := by kernel_rfl
theorem Try.c46 : cells? Try.prog 46 = some 1 := by kernel_rfl
theorem Try.g46 : agg? Try.prog 46 = some false := by kernel_rfl
theorem Try.z46 : zeros? Try.prog 46 = some [.nilFunc] := by kernel_rfl
theorem Try.c47 : cells? Try.prog 47 = some 1 := by kernel_rfl
theorem Try.g47 : agg? Try.prog 47 = some false := by kernel_rfl
theorem Try.z47 : zeros? Try.prog 47 = some [.nilFunc] := by kernel_rfl
theorem Try.c48 : cells? Try.prog 48 = some 1 := by kernel_rfl
theorem Try.g48 : agg? Try.prog 48 = some false := by kernel_rfl
theorem Try.z48 : zeros? Try.prog 48 = some [.nilFunc] := by kernel_rfl
theorem Try.c49 : cells? Try.prog 49 = some 1 := by kernel_rfl
theorem Try.g49 : agg? Try.prog 49 = some false := by kernel_rfl
theorem Try.z49 : zeros? Try.prog 49 = some [.nilFunc] := by kernel_rfl
theorem Try.c50 : cells? Try.prog 50 = some 1 := by kernel_rfl
theorem Try.g50 : agg? Try.prog 50 = some false := by kernel_rfl
theorem Try.z50 : zeros? Try.prog 50 = some [.nilFunc] := by kernel_rfl
theorem Try.c51 : cells? Try.prog 51 = some 1 := by kernel_rfl
theorem Try.g51 : agg? Try.prog 51 = some false := by kernel_rfl
theorem Try.z51 : zeros? Try.prog 51 = some [.nilFunc] := by kernel_rfl
theorem Try.c52 : cells? Try.prog 52 = some 4 := by kernel_rfl
theorem Try.g52 : agg? Try.prog 52 = some true := by kernel_rfl
theorem Try.q52 : eqT? Try.prog 52 = some (.agg [.agg [.str, .str], .agg [.str, .str]]) := by kernel_rfl
theorem Try.ar52 : arr? Try.prog 52 = some (2, 24) := by kernel_rfl
theorem Try.z52 : zeros? Try.prog 52 = some [.string ⟨#[]⟩, .string ⟨#[]⟩, .string ⟨#[]⟩, .string ⟨#[]⟩] := by kernel_rfl
theorem Try.c53 : cells? Try.prog 53 = some 1 := by kernel_rfl
theorem Try.g53 : agg? Try.prog 53 = some false := by kernel_rfl
theorem Try.z53 : zeros? Try.prog 53 = some [.nilFunc] := by kernel_rfl
theorem Try.c54 : cells? Try.prog 54 = some 1 := by kernel_rfl
theorem Try.g54 : agg? Try.prog 54 = some false := by kernel_rfl
theorem Try.z54 : zeros? Try.prog 54 = some [.nilFunc] := by kernel_rfl
theorem Try.c55 : cells? Try.prog 55 = some 1 := by kernel_rfl
theorem Try.g55 : agg? Try.prog 55 = some false := by kernel_rfl
theorem Try.z55 : zeros? Try.prog 55 = some [.nilFunc] := by kernel_rfl
theorem Try.c56 : cells? Try.prog 56 = some 4 := by kernel_rfl
theorem Try.g56 : agg? Try.prog 56 = some true := by kernel_rfl
theorem Try.fd56_0 : field? Try.prog 56 0 = some (0, 9) := by kernel_rfl
theorem Try.fd56_1 : field? Try.prog 56 1 = some (1, 9) := by kernel_rfl
theorem Try.fd56_2 : field? Try.prog 56 2 = some (2, 3) := by kernel_rfl
theorem Try.fd56_3 : field? Try.prog 56 3 = some (3, 3) := by kernel_rfl
theorem Try.pl56 : places? Try.prog 56 = some [(0, 1), (1, 1), (2, 1), (3, 1)] := by kernel_rfl
theorem Try.z56 : zeros? Try.prog 56 = some [.string ⟨#[]⟩, .string ⟨#[]⟩, .int .i64 0, .int .i64 0] := by kernel_rfl
theorem Try.c57 : cells? Try.prog 57 = some 4 := by kernel_rfl
theorem Try.g57 : agg? Try.prog 57 = some true := by kernel_rfl
theorem Try.q57 : eqT? Try.prog 57 = some (.agg [.str, .str, .int .i64, .int .i64]) := by kernel_rfl
theorem Try.fd57_0 : field? Try.prog 57 0 = some (0, 9) := by kernel_rfl
theorem Try.fd57_1 : field? Try.prog 57 1 = some (1, 9) := by kernel_rfl
theorem Try.fd57_2 : field? Try.prog 57 2 = some (2, 3) := by kernel_rfl
theorem Try.fd57_3 : field? Try.prog 57 3 = some (3, 3) := by kernel_rfl
theorem Try.pl57 : places? Try.prog 57 = some [(0, 1), (1, 1), (2, 1), (3, 1)] := by kernel_rfl
theorem Try.z57 : zeros? Try.prog 57 = some [.string ⟨#[]⟩, .string ⟨#[]⟩, .int .i64 0, .int .i64 0] := by kernel_rfl
theorem Try.c58 : cells? Try.prog 58 = some 1 := by kernel_rfl
theorem Try.g58 : agg? Try.prog 58 = some false := by kernel_rfl
theorem Try.z58 : zeros? Try.prog 58 = some [.nilFunc] := by kernel_rfl
theorem Try.c59 : cells? Try.prog 59 = some 2 := by kernel_rfl
theorem Try.g59 : agg? Try.prog 59 = some true := by kernel_rfl
theorem Try.fd59_0 : field? Try.prog 59 0 = some (0, 3) := by kernel_rfl
theorem Try.fd59_1 : field? Try.prog 59 1 = some (1, 3) := by kernel_rfl
theorem Try.pl59 : places? Try.prog 59 = some [(0, 1), (1, 1)] := by kernel_rfl
theorem Try.z59 : zeros? Try.prog 59 = some [.int .i64 0, .int .i64 0] := by kernel_rfl
theorem Try.c60 : cells? Try.prog 60 = some 2 := by kernel_rfl
theorem Try.g60 : agg? Try.prog 60 = some true := by kernel_rfl
theorem Try.q60 : eqT? Try.prog 60 = some (.agg [.int .i64, .int .i64]) := by kernel_rfl
theorem Try.fd60_0 : field? Try.prog 60 0 = some (0, 3) := by kernel_rfl
theorem Try.fd60_1 : field? Try.prog 60 1 = some (1, 3) := by kernel_rfl
theorem Try.pl60 : places? Try.prog 60 = some [(0, 1), (1, 1)] := by kernel_rfl
theorem Try.z60 : zeros? Try.prog 60 = some [.int .i64 0, .int .i64 0] := by kernel_rfl
theorem Try.c61 : cells? Try.prog 61 = some 1 := by kernel_rfl
theorem Try.g61 : agg? Try.prog 61 = some false := by kernel_rfl
theorem Try.z61 : zeros? Try.prog 61 = some [.nilFunc] := by kernel_rfl
theorem Try.c62 : cells? Try.prog 62 = some 4 := by kernel_rfl
theorem Try.g62 : agg? Try.prog 62 = some true := by kernel_rfl
theorem Try.fd62_0 : field? Try.prog 62 0 = some (0, 31) := by kernel_rfl
theorem Try.fd62_1 : field? Try.prog 62 1 = some (2, 60) := by kernel_rfl
theorem Try.pl62 : places? Try.prog 62 = some [(0, 2), (2, 2)] := by kernel_rfl
theorem Try.z62 : zeros? Try.prog 62 = some [.string ⟨#[]⟩, .string ⟨#[]⟩, .int .i64 0, .int .i64 0] := by kernel_rfl
theorem Try.c63 : cells? Try.prog 63 = some 4 := by kernel_rfl
theorem Try.g63 : agg? Try.prog 63 = some true := by kernel_rfl
theorem Try.q63 : eqT? Try.prog 63 = some (.agg [.agg [.str, .str], .agg [.int .i64, .int .i64]]) := by kernel_rfl
theorem Try.fd63_0 : field? Try.prog 63 0 = some (0, 31) := by kernel_rfl
theorem Try.fd63_1 : field? Try.prog 63 1 = some (2, 60) := by kernel_rfl
theorem Try.pl63 : places? Try.prog 63 = some [(0, 2), (2, 2)] := by kernel_rfl
theorem Try.z63 : zeros? Try.prog 63 = some [.string ⟨#[]⟩, .string ⟨#[]⟩, .int .i64 0, .int .i64 0] := by kernel_rfl
theorem Try.c64 : cells? Try.prog 64 = some 1 := by kernel_rfl
theorem Try.g64 : agg? Try.prog 64 = some false := by kernel_rfl
theorem Try.z64 : zeros? Try.prog 64 = some [.nilFunc] := by kernel_rfl
theorem Try.c65 : cells? Try.prog 65 = some 1 := by kernel_rfl
theorem Try.g65 : agg? Try.prog 65 = some false := by kernel_rfl
theorem Try.z65 : zeros? Try.prog 65 = some [.nilFunc] := by kernel_rfl
theorem Try.c66 : cells? Try.prog 66 = some 1 := by kernel_rfl
theorem Try.g66 : agg? Try.prog 66 = some false := by kernel_rfl
theorem Try.z66 : zeros? Try.prog 66 = some [.nilFunc] := by kernel_rfl
theorem Try.c67 : cells? Try.prog 67 = some 1 := by kernel_rfl
theorem Try.g67 : agg? Try.prog 67 = some false := by kernel_rfl
theorem Try.z67 : zeros? Try.prog 67 = some [.nilFunc] := by kernel_rfl
theorem Try.c68 : cells? Try.prog 68 = some 1 := by kernel_rfl
theorem Try.g68 : agg? Try.prog 68 = some false := by kernel_rfl
theorem Try.z68 : zeros? Try.prog 68 = some [.nilFunc] := by kernel_rfl
theorem Try.c69 : cells? Try.prog 69 = some 1 := by kernel_rfl
theorem Try.g69 : agg? Try.prog 69 = some false := by kernel_rfl
theorem Try.z69 : zeros? Try.prog 69 = some [.nilFunc] := by kernel_rfl
theorem Try.c70 : cells? Try.prog 70 = some 1 := by kernel_rfl
theorem Try.g70 : agg? Try.prog 70 = some false := by kernel_rfl
theorem Try.z70 : zeros? Try.prog 70 = some [.nilFunc] := by kernel_rfl
theorem Try.c71 : cells? Try.prog 71 = some 1 := by kernel_rfl
theorem Try.g71 : agg? Try.prog 71 = some false := by kernel_rfl
theorem Try.z71 : zeros? Try.prog 71 = some [.nilFunc] := by kernel_rfl
theorem Try.c72 : cells? Try.prog 72 = some 1 := by kernel_rfl
theorem Try.g72 : agg? Try.prog 72 = some false := by kernel_rfl
theorem Try.z72 : zeros? Try.prog 72 = some [.nilFunc] := by kernel_rfl
theorem Try.c73 : cells? Try.prog 73 = some 1 := by kernel_rfl
theorem Try.g73 : agg? Try.prog 73 = some false := by kernel_rfl
theorem Try.z73 : zeros? Try.prog 73 = some [.nilFunc] := by kernel_rfl
theorem Try.c74 : cells? Try.prog 74 = some 2 := by kernel_rfl
theorem Try.g74 : agg? Try.prog 74 = some true := by kernel_rfl
theorem Try.q74 : eqT? Try.prog 74 = some (.agg [.int .i64, .int .i64]) := by kernel_rfl
theorem Try.fd74_0 : field? Try.prog 74 0 = some (0, 3) := by kernel_rfl
theorem Try.fd74_1 : field? Try.prog 74 1 = some (1, 3) := by kernel_rfl
theorem Try.pl74 : places? Try.prog 74 = some [(0, 1), (1, 1)] := by kernel_rfl
theorem Try.z74 : zeros? Try.prog 74 = some [.int .i64 0, .int .i64 0] := by kernel_rfl
theorem Try.c75 : cells? Try.prog 75 = some 1 := by kernel_rfl
theorem Try.g75 : agg? Try.prog 75 = some false := by kernel_rfl
theorem Try.z75 : zeros? Try.prog 75 = some [.nilFunc] := by kernel_rfl
theorem Try.c76 : cells? Try.prog 76 = some 1 := by kernel_rfl
theorem Try.g76 : agg? Try.prog 76 = some false := by kernel_rfl
theorem Try.z76 : zeros? Try.prog 76 = some [.nilFunc] := by kernel_rfl
theorem Try.c77 : cells? Try.prog 77 = some 1 := by kernel_rfl
theorem Try.g77 : agg? Try.prog 77 = some false := by kernel_rfl
theorem Try.z77 : zeros? Try.prog 77 = some [.nilFunc] := by kernel_rfl
theorem Try.c78 : cells? Try.prog 78 = some 1 := by kernel_rfl
theorem Try.g78 : agg? Try.prog 78 = some false := by kernel_rfl
theorem Try.z78 : zeros? Try.prog 78 = some [.nilFunc] := by kernel_rfl
theorem Try.c79 : cells? Try.prog 79 = some 1 := by kernel_rfl
theorem Try.g79 : agg? Try.prog 79 = some false := by kernel_rfl
theorem Try.z79 : zeros? Try.prog 79 = some [.nilFunc] := by kernel_rfl
theorem Try.c80 : cells? Try.prog 80 = some 1 := by kernel_rfl
theorem Try.g80 : agg? Try.prog 80 = some false := by kernel_rfl
theorem Try.e80 : elem? Try.prog 80 = some 42 := by kernel_rfl
theorem Try.ap80 : appT? Try.prog 80 = some (42, 1, 24) := by kernel_rfl
theorem Try.z80 : zeros? Try.prog 80 = some [.slice none 0 0] := by kernel_rfl
theorem Try.c81 : cells? Try.prog 81 = some 1 := by kernel_rfl
theorem Try.g81 : agg? Try.prog 81 = some false := by kernel_rfl
theorem Try.z81 : zeros? Try.prog 81 = some [.nilFunc] := by kernel_rfl
theorem Try.c82 : cells? Try.prog 82 = some 1 := by kernel_rfl
theorem Try.g82 : agg? Try.prog 82 = some false := by kernel_rfl
theorem Try.z82 : zeros? Try.prog 82 = some [.nilFunc] := by kernel_rfl
theorem Try.c83 : cells? Try.prog 83 = some 1 := by kernel_rfl
theorem Try.g83 : agg? Try.prog 83 = some false := by kernel_rfl
theorem Try.z83 : zeros? Try.prog 83 = some [.nilFunc] := by kernel_rfl
theorem Try.c84 : cells? Try.prog 84 = some 1 := by kernel_rfl
theorem Try.g84 : agg? Try.prog 84 = some false := by kernel_rfl
theorem Try.z84 : zeros? Try.prog 84 = some [.nilFunc] := by kernel_rfl
theorem Try.c85 : cells? Try.prog 85 = some 1 := by kernel_rfl
theorem Try.g85 : agg? Try.prog 85 = some false := by kernel_rfl
theorem Try.z85 : zeros? Try.prog 85 = some [.nilFunc] := by kernel_rfl
theorem Try.c86 : cells? Try.prog 86 = some 1 := by kernel_rfl
theorem Try.g86 : agg? Try.prog 86 = some false := by kernel_rfl
theorem Try.e86 : elem? Try.prog 86 = some 26 := by kernel_rfl
theorem Try.ap86 : appT? Try.prog 86 = some (26, 1, 24) := by kernel_rfl
theorem Try.z86 : zeros? Try.prog 86 = some [.slice none 0 0] := by kernel_rfl
theorem Try.c87 : cells? Try.prog 87 = some 1 := by kernel_rfl
theorem Try.g87 : agg? Try.prog 87 = some false := by kernel_rfl
theorem Try.z87 : zeros? Try.prog 87 = some [.nilFunc] := by kernel_rfl
theorem Try.c88 : cells? Try.prog 88 = some 1 := by kernel_rfl
theorem Try.g88 : agg? Try.prog 88 = some false := by kernel_rfl
theorem Try.z88 : zeros? Try.prog 88 = some [.nilFunc] := by kernel_rfl
theorem Try.c89 : cells? Try.prog 89 = some 1 := by kernel_rfl
theorem Try.g89 : agg? Try.prog 89 = some false := by kernel_rfl
theorem Try.z89 : zeros? Try.prog 89 = some [.nilFunc] := by kernel_rfl
theorem Try.c90 : cells? Try.prog 90 = some 1 := by kernel_rfl
theorem Try.g90 : agg? Try.prog 90 = some false := by kernel_rfl
theorem Try.e90 : elem? Try.prog 90 = some 3 := by kernel_rfl
theorem Try.ap90 : appT? Try.prog 90 = some (3, 1, 8) := by kernel_rfl
theorem Try.z90 : zeros? Try.prog 90 = some [.slice none 0 0] := by kernel_rfl
theorem Try.c91 : cells? Try.prog 91 = some 1 := by kernel_rfl
theorem Try.g91 : agg? Try.prog 91 = some false := by kernel_rfl
theorem Try.z91 : zeros? Try.prog 91 = some [.nilFunc] := by kernel_rfl
theorem Try.c92 : cells? Try.prog 92 = some 1 := by kernel_rfl
theorem Try.g92 : agg? Try.prog 92 = some false := by kernel_rfl
theorem Try.z92 : zeros? Try.prog 92 = some [.nilFunc] := by kernel_rfl
theorem Try.c93 : cells? Try.prog 93 = some 1 := by kernel_rfl
theorem Try.g93 : agg? Try.prog 93 = some false := by kernel_rfl
theorem Try.z93 : zeros? Try.prog 93 = some [.nilFunc] := by kernel_rfl
theorem Try.c94 : cells? Try.prog 94 = some 1 := by kernel_rfl
theorem Try.g94 : agg? Try.prog 94 = some false := by kernel_rfl
theorem Try.e94 : elem? Try.prog 94 = some 9 := by kernel_rfl
theorem Try.ap94 : appT? Try.prog 94 = some (9, 1, 16) := by kernel_rfl
theorem Try.z94 : zeros? Try.prog 94 = some [.slice none 0 0] := by kernel_rfl
theorem Try.c95 : cells? Try.prog 95 = some 1 := by kernel_rfl
theorem Try.g95 : agg? Try.prog 95 = some false := by kernel_rfl
theorem Try.z95 : zeros? Try.prog 95 = some [.nilFunc] := by kernel_rfl
theorem Try.c96 : cells? Try.prog 96 = some 1 := by kernel_rfl
theorem Try.g96 : agg? Try.prog 96 = some false := by kernel_rfl
theorem Try.z96 : zeros? Try.prog 96 = some [.nilFunc] := by kernel_rfl
theorem Try.c97 : cells? Try.prog 97 = some 1 := by kernel_rfl
theorem Try.g97 : agg? Try.prog 97 = some false := by kernel_rfl
theorem Try.z97 : zeros? Try.prog 97 = some [.nilFunc] := by kernel_rfl
theorem Try.c98 : cells? Try.prog 98 = some 1 := by kernel_rfl
theorem Try.g98 : agg? Try.prog 98 = some false := by kernel_rfl
theorem Try.z98 : zeros? Try.prog 98 = some [.nilFunc] := by kernel_rfl
theorem Try.c99 : cells? Try.prog 99 = some 1 := by kernel_rfl
theorem Try.g99 : agg? Try.prog 99 = some false := by kernel_rfl
theorem Try.z99 : zeros? Try.prog 99 = some [.nilFunc] := by kernel_rfl
theorem Try.c100 : cells? Try.prog 100 = some 1 := by kernel_rfl
theorem Try.g100 : agg? Try.prog 100 = some false := by kernel_rfl
theorem Try.z100 : zeros? Try.prog 100 = some [.nilFunc] := by kernel_rfl
theorem Try.c101 : cells? Try.prog 101 = some 1 := by kernel_rfl
theorem Try.g101 : agg? Try.prog 101 = some false := by kernel_rfl
theorem Try.z101 : zeros? Try.prog 101 = some [.int .u64 0] := by kernel_rfl
theorem Try.c102 : cells? Try.prog 102 = some 1 := by kernel_rfl
theorem Try.g102 : agg? Try.prog 102 = some false := by kernel_rfl
theorem Try.z102 : zeros? Try.prog 102 = some [.nilFunc] := by kernel_rfl
theorem Try.c103 : cells? Try.prog 103 = some 1 := by kernel_rfl
theorem Try.g103 : agg? Try.prog 103 = some false := by kernel_rfl
theorem Try.z103 : zeros? Try.prog 103 = some [.nilFunc] := by kernel_rfl
theorem Try.c104 : cells? Try.prog 104 = some 1 := by kernel_rfl
theorem Try.g104 : agg? Try.prog 104 = some false := by kernel_rfl
theorem Try.z104 : zeros? Try.prog 104 = some [.nilFunc] := by kernel_rfl
theorem Try.c105 : cells? Try.prog 105 = some 1 := by kernel_rfl
theorem Try.g105 : agg? Try.prog 105 = some false := by kernel_rfl
theorem Try.z105 : zeros? Try.prog 105 = some [.nilFunc] := by kernel_rfl
theorem Try.c106 : cells? Try.prog 106 = some 1 := by kernel_rfl
theorem Try.g106 : agg? Try.prog 106 = some false := by kernel_rfl
theorem Try.z106 : zeros? Try.prog 106 = some [.int .i64 0] := by kernel_rfl
theorem Try.c108 : cells? Try.prog 108 = some 1 := by kernel_rfl
theorem Try.g108 : agg? Try.prog 108 = some false := by kernel_rfl
theorem Try.z108 : zeros? Try.prog 108 = some [.nilFunc] := by kernel_rfl
theorem Try.c109 : cells? Try.prog 109 = some 1 := by kernel_rfl
theorem Try.g109 : agg? Try.prog 109 = some false := by kernel_rfl
theorem Try.z109 : zeros? Try.prog 109 = some [.nilFunc] := by kernel_rfl
theorem Try.c110 : cells? Try.prog 110 = some 1 := by kernel_rfl
theorem Try.g110 : agg? Try.prog 110 = some false := by kernel_rfl
theorem Try.z110 : zeros? Try.prog 110 = some [.nilFunc] := by kernel_rfl
theorem Try.c112 : cells? Try.prog 112 = some 1 := by kernel_rfl
theorem Try.g112 : agg? Try.prog 112 = some false := by kernel_rfl
theorem Try.z112 : zeros? Try.prog 112 = some [.nilFunc] := by kernel_rfl
theorem Try.c113 : cells? Try.prog 113 = some 1 := by kernel_rfl
theorem Try.g113 : agg? Try.prog 113 = some false := by kernel_rfl
theorem Try.z113 : zeros? Try.prog 113 = some [.nilFunc] := by kernel_rfl
theorem Try.c114 : cells? Try.prog 114 = some 1 := by kernel_rfl
theorem Try.g114 : agg? Try.prog 114 = some false := by kernel_rfl
theorem Try.z114 : zeros? Try.prog 114 = some [.int .u32 0] := by kernel_rfl
theorem Try.c115 : cells? Try.prog 115 = some 1 := by kernel_rfl
theorem Try.g115 : agg? Try.prog 115 = some false := by kernel_rfl
theorem Try.z115 : zeros? Try.prog 115 = some [.nilFunc] := by kernel_rfl
theorem Try.c116 : cells? Try.prog 116 = some 1 := by kernel_rfl
theorem Try.g116 : agg? Try.prog 116 = some false := by kernel_rfl
theorem Try.z116 : zeros? Try.prog 116 = some [.int .u64 0] := by kernel_rfl
theorem Try.c117 : cells? Try.prog 117 = some 1 := by kernel_rfl
theorem Try.g117 : agg? Try.prog 117 = some false := by kernel_rfl
theorem Try.z117 : zeros? Try.prog 117 = some [.int .u64 0] := by kernel_rfl
theorem Try.c118 : cells? Try.prog 118 = some 1 := by kernel_rfl
theorem Try.g118 : agg? Try.prog 118 = some false := by kernel_rfl
theorem Try.z118 : zeros? Try.prog 118 = some [.nilFunc] := by kernel_rfl
theorem Try.c119 : cells? Try.prog 119 = some 1 := by kernel_rfl
theorem Try.g119 : agg? Try.prog 119 = some false := by kernel_rfl
theorem Try.z119 : zeros? Try.prog 119 = some [.nilFunc] := by kernel_rfl
theorem Try.c120 : cells? Try.prog 120 = some 1 := by kernel_rfl
theorem Try.g120 : agg? Try.prog 120 = some false := by kernel_rfl
theorem Try.z120 : zeros? Try.prog 120 = some [.nilFunc] := by kernel_rfl
theorem Try.c121 : cells? Try.prog 121 = some 1 := by kernel_rfl
theorem Try.g121 : agg? Try.prog 121 = some false := by kernel_rfl
theorem Try.z121 : zeros? Try.prog 121 = some [.pointer none] := by kernel_rfl
theorem Try.c122 : cells? Try.prog 122 = some 1 := by kernel_rfl
theorem Try.g122 : agg? Try.prog 122 = some false := by kernel_rfl
theorem Try.z122 : zeros? Try.prog 122 = some [.nilFunc] := by kernel_rfl
theorem Try.c123 : cells? Try.prog 123 = some 1 := by kernel_rfl
theorem Try.g123 : agg? Try.prog 123 = some false := by kernel_rfl
theorem Try.z123 : zeros? Try.prog 123 = some [.pointer none] := by kernel_rfl
theorem Try.c125 : cells? Try.prog 125 = some 1 := by kernel_rfl
theorem Try.g125 : agg? Try.prog 125 = some false := by kernel_rfl
theorem Try.z125 : zeros? Try.prog 125 = some [.nilFunc] := by kernel_rfl
theorem Try.c126 : cells? Try.prog 126 = some 1 := by kernel_rfl
theorem Try.g126 : agg? Try.prog 126 = some false := by kernel_rfl
theorem Try.z126 : zeros? Try.prog 126 = some [.nilFunc] := by kernel_rfl
theorem Try.c127 : cells? Try.prog 127 = some 4 := by kernel_rfl
theorem Try.g127 : agg? Try.prog 127 = some true := by kernel_rfl
theorem Try.fd127_0 : field? Try.prog 127 0 = some (0, 17) := by kernel_rfl
theorem Try.fd127_1 : field? Try.prog 127 1 = some (1, 17) := by kernel_rfl
theorem Try.fd127_2 : field? Try.prog 127 2 = some (2, 17) := by kernel_rfl
theorem Try.fd127_3 : field? Try.prog 127 3 = some (3, 9) := by kernel_rfl
theorem Try.pl127 : places? Try.prog 127 = some [(0, 1), (1, 1), (2, 1), (3, 1)] := by kernel_rfl
theorem Try.z127 : zeros? Try.prog 127 = some [.pointer none, .pointer none, .pointer none, .string ⟨#[]⟩] := by kernel_rfl
theorem Try.c128 : cells? Try.prog 128 = some 4 := by kernel_rfl
theorem Try.g128 : agg? Try.prog 128 = some true := by kernel_rfl
theorem Try.fd128_0 : field? Try.prog 128 0 = some (0, 17) := by kernel_rfl
theorem Try.fd128_1 : field? Try.prog 128 1 = some (1, 17) := by kernel_rfl
theorem Try.fd128_2 : field? Try.prog 128 2 = some (2, 17) := by kernel_rfl
theorem Try.fd128_3 : field? Try.prog 128 3 = some (3, 9) := by kernel_rfl
theorem Try.pl128 : places? Try.prog 128 = some [(0, 1), (1, 1), (2, 1), (3, 1)] := by kernel_rfl
theorem Try.z128 : zeros? Try.prog 128 = some [.pointer none, .pointer none, .pointer none, .string ⟨#[]⟩] := by kernel_rfl
theorem Try.c130 : cells? Try.prog 130 = some 0 := by kernel_rfl
theorem Try.g130 : agg? Try.prog 130 = some true := by kernel_rfl
theorem Try.fd130_0 : field? Try.prog 130 0 = some (0, 129) := by kernel_rfl
theorem Try.pl130 : places? Try.prog 130 = some [(0, 0)] := by kernel_rfl
theorem Try.c131 : cells? Try.prog 131 = some 0 := by kernel_rfl
theorem Try.g131 : agg? Try.prog 131 = some true := by kernel_rfl
theorem Try.fd131_0 : field? Try.prog 131 0 = some (0, 129) := by kernel_rfl
theorem Try.pl131 : places? Try.prog 131 = some [(0, 0)] := by kernel_rfl
theorem Try.c132 : cells? Try.prog 132 = some 1 := by kernel_rfl
theorem Try.g132 : agg? Try.prog 132 = some false := by kernel_rfl
theorem Try.z132 : zeros? Try.prog 132 = some [.nilFunc] := by kernel_rfl
theorem Try.c133 : cells? Try.prog 133 = some 1 := by kernel_rfl
theorem Try.g133 : agg? Try.prog 133 = some false := by kernel_rfl
theorem Try.z133 : zeros? Try.prog 133 = some [.int .u8 0] := by kernel_rfl
theorem Try.c134 : cells? Try.prog 134 = some 1 := by kernel_rfl
theorem Try.g134 : agg? Try.prog 134 = some false := by kernel_rfl
theorem Try.z134 : zeros? Try.prog 134 = some [.int .u8 0] := by kernel_rfl
theorem Try.c135 : cells? Try.prog 135 = some 1 := by kernel_rfl
theorem Try.g135 : agg? Try.prog 135 = some false := by kernel_rfl
theorem Try.z135 : zeros? Try.prog 135 = some [.nilFunc] := by kernel_rfl
theorem Try.c136 : cells? Try.prog 136 = some 1 := by kernel_rfl
theorem Try.g136 : agg? Try.prog 136 = some false := by kernel_rfl
theorem Try.z136 : zeros? Try.prog 136 = some [.pointer none] := by kernel_rfl
theorem Try.c137 : cells? Try.prog 137 = some 1 := by kernel_rfl
theorem Try.g137 : agg? Try.prog 137 = some false := by kernel_rfl
theorem Try.z137 : zeros? Try.prog 137 = some [.int .i32 0] := by kernel_rfl
theorem Try.c138 : cells? Try.prog 138 = some 1 := by kernel_rfl
theorem Try.g138 : agg? Try.prog 138 = some false := by kernel_rfl
theorem Try.z138 : zeros? Try.prog 138 = some [.int .i32 0] := by kernel_rfl
theorem Try.c139 : cells? Try.prog 139 = some 11 := by kernel_rfl
theorem Try.g139 : agg? Try.prog 139 = some true := by kernel_rfl
theorem Try.fd139_0 : field? Try.prog 139 0 = some (0, 12) := by kernel_rfl
theorem Try.fd139_1 : field? Try.prog 139 1 = some (1, 12) := by kernel_rfl
theorem Try.fd139_2 : field? Try.prog 139 2 = some (2, 114) := by kernel_rfl
theorem Try.fd139_3 : field? Try.prog 139 3 = some (3, 133) := by kernel_rfl
theorem Try.fd139_4 : field? Try.prog 139 4 = some (4, 5) := by kernel_rfl
theorem Try.fd139_5 : field? Try.prog 139 5 = some (5, 5) := by kernel_rfl
theorem Try.fd139_6 : field? Try.prog 139 6 = some (6, 134) := by kernel_rfl
theorem Try.fd139_7 : field? Try.prog 139 7 = some (7, 135) := by kernel_rfl
theorem Try.fd139_8 : field? Try.prog 139 8 = some (8, 136) := by kernel_rfl
theorem Try.fd139_9 : field? Try.prog 139 9 = some (9, 137) := by kernel_rfl
theorem Try.fd139_10 : field? Try.prog 139 10 = some (10, 138) := by kernel_rfl
theorem Try.pl139 : places? Try.prog 139 = some [(0, 1), (1, 1), (2, 1), (3, 1), (4, 1), (5, 1), (6, 1), (7, 1), (8, 1), (9, 1), (10, 1)] := by kernel_rfl
theorem Try.z139 : zeros? Try.prog 139 = some [.int .u64 0, .int .u64 0, .int .u32 0, .int .u8 0, .int .u8 0, .int .u8 0, .int .u8 0, .nilFunc, .pointer none, .int .i32 0, .int .i32 0] := by kernel_rfl
theorem Try.c140 : cells? Try.prog 140 = some 11 := by kernel_rfl
theorem Try.g140 : agg? Try.prog 140 = some true := by kernel_rfl
theorem Try.fd140_0 : field? Try.prog 140 0 = some (0, 12) := by kernel_rfl
theorem Try.fd140_1 : field? Try.prog 140 1 = some (1, 12) := by kernel_rfl
theorem Try.fd140_2 : field? Try.prog 140 2 = some (2, 114) := by kernel_rfl
theorem Try.fd140_3 : field? Try.prog 140 3 = some (3, 133) := by kernel_rfl
theorem Try.fd140_4 : field? Try.prog 140 4 = some (4, 5) := by kernel_rfl
theorem Try.fd140_5 : field? Try.prog 140 5 = some (5, 5) := by kernel_rfl
theorem Try.fd140_6 : field? Try.prog 140 6 = some (6, 134) := by kernel_rfl
theorem Try.fd140_7 : field? Try.prog 140 7 = some (7, 135) := by kernel_rfl
theorem Try.fd140_8 : field? Try.prog 140 8 = some (8, 136) := by kernel_rfl
theorem Try.fd140_9 : field? Try.prog 140 9 = some (9, 137) := by kernel_rfl
theorem Try.fd140_10 : field? Try.prog 140 10 = some (10, 138) := by kernel_rfl
theorem Try.pl140 : places? Try.prog 140 = some [(0, 1), (1, 1), (2, 1), (3, 1), (4, 1), (5, 1), (6, 1), (7, 1), (8, 1), (9, 1), (10, 1)] := by kernel_rfl
theorem Try.z140 : zeros? Try.prog 140 = some [.int .u64 0, .int .u64 0, .int .u32 0, .int .u8 0, .int .u8 0, .int .u8 0, .int .u8 0, .nilFunc, .pointer none, .int .i32 0, .int .i32 0] := by kernel_rfl
theorem Try.c141 : cells? Try.prog 141 = some 1 := by kernel_rfl
theorem Try.g141 : agg? Try.prog 141 = some false := by kernel_rfl
theorem Try.z141 : zeros? Try.prog 141 = some [.pointer none] := by kernel_rfl
theorem Try.ent3 : ∀ args w, (callFunc 3 args).run Try.prog w = .ok (.enter 3 args) w := enters_of Try.func3 (by kernel_rfl) rfl
theorem Try.ent4 : ∀ args w, (callFunc 4 args).run Try.prog w = .ok (.enter 4 args) w := enters_of Try.func4 (by kernel_rfl) rfl
theorem Try.ent5 : ∀ args w, (callFunc 5 args).run Try.prog w = .ok (.enter 5 args) w := enters_of Try.func5 (by kernel_rfl) rfl
theorem Try.ent6 : ∀ args w, (callFunc 6 args).run Try.prog w = .ok (.enter 6 args) w := enters_of Try.func6 (by kernel_rfl) rfl
theorem Try.ent7 : ∀ args w, (callFunc 7 args).run Try.prog w = .ok (.enter 7 args) w := enters_of Try.func7 (by kernel_rfl) rfl
theorem Try.ent8 : ∀ args w, (callFunc 8 args).run Try.prog w = .ok (.enter 8 args) w := enters_of Try.func8 (by kernel_rfl) rfl
theorem Try.ent9 : ∀ args w, (callFunc 9 args).run Try.prog w = .ok (.enter 9 args) w := enters_of Try.func9 (by kernel_rfl) rfl
theorem Try.ent10 : ∀ args w, (callFunc 10 args).run Try.prog w = .ok (.enter 10 args) w := enters_of Try.func10 (by kernel_rfl) rfl
theorem Try.ent11 : ∀ args w, (callFunc 11 args).run Try.prog w = .ok (.enter 11 args) w := enters_of Try.func11 (by kernel_rfl) rfl
theorem Try.ent12 : ∀ args w, (callFunc 12 args).run Try.prog w = .ok (.enter 12 args) w := enters_of Try.func12 (by kernel_rfl) rfl
theorem Try.ent13 : ∀ args w, (callFunc 13 args).run Try.prog w = .ok (.enter 13 args) w := enters_of Try.func13 (by kernel_rfl) rfl
theorem Try.ent14 : ∀ args w, (callFunc 14 args).run Try.prog w = .ok (.enter 14 args) w := enters_of Try.func14 (by kernel_rfl) rfl
theorem Try.ent15 : ∀ args w, (callFunc 15 args).run Try.prog w = .ok (.enter 15 args) w := enters_of Try.func15 (by kernel_rfl) rfl
theorem Try.ent16 : ∀ args w, (callFunc 16 args).run Try.prog w = .ok (.enter 16 args) w := enters_of Try.func16 (by kernel_rfl) rfl
theorem Try.ent17 : ∀ args w, (callFunc 17 args).run Try.prog w = .ok (.enter 17 args) w := enters_of Try.func17 (by kernel_rfl) rfl
theorem Try.ent18 : ∀ args w, (callFunc 18 args).run Try.prog w = .ok (.enter 18 args) w := enters_of Try.func18 (by kernel_rfl) rfl
theorem Try.ent19 : ∀ args w, (callFunc 19 args).run Try.prog w = .ok (.enter 19 args) w := enters_of Try.func19 (by kernel_rfl) rfl
theorem Try.ent20 : ∀ args w, (callFunc 20 args).run Try.prog w = .ok (.enter 20 args) w := enters_of Try.func20 (by kernel_rfl) rfl
theorem Try.ent21 : ∀ args w, (callFunc 21 args).run Try.prog w = .ok (.enter 21 args) w := enters_of Try.func21 (by kernel_rfl) rfl
theorem Try.ent22 : ∀ args w, (callFunc 22 args).run Try.prog w = .ok (.enter 22 args) w := enters_of Try.func22 (by kernel_rfl) rfl
theorem Try.ent23 : ∀ args w, (callFunc 23 args).run Try.prog w = .ok (.enter 23 args) w := enters_of Try.func23 (by kernel_rfl) rfl
theorem Try.ent24 : ∀ args w, (callFunc 24 args).run Try.prog w = .ok (.enter 24 args) w := enters_of Try.func24 (by kernel_rfl) rfl
theorem Try.ent25 : ∀ args w, (callFunc 25 args).run Try.prog w = .ok (.enter 25 args) w := enters_of Try.func25 (by kernel_rfl) rfl
theorem Try.ent26 : ∀ args w, (callFunc 26 args).run Try.prog w = .ok (.enter 26 args) w := enters_of Try.func26 (by kernel_rfl) rfl
theorem Try.ent27 : ∀ args w, (callFunc 27 args).run Try.prog w = .ok (.enter 27 args) w := enters_of Try.func27 (by kernel_rfl) rfl
theorem Try.ent28 : ∀ args w, (callFunc 28 args).run Try.prog w = .ok (.enter 28 args) w := enters_of Try.func28 (by kernel_rfl) rfl
theorem Try.ent29 : ∀ args w, (callFunc 29 args).run Try.prog w = .ok (.enter 29 args) w := enters_of Try.func29 (by kernel_rfl) rfl
theorem Try.ent30 : ∀ args w, (callFunc 30 args).run Try.prog w = .ok (.enter 30 args) w := enters_of Try.func30 (by kernel_rfl) rfl
theorem Try.ent31 : ∀ args w, (callFunc 31 args).run Try.prog w = .ok (.enter 31 args) w := enters_of Try.func31 (by kernel_rfl) rfl
theorem Try.ent32 : ∀ args w, (callFunc 32 args).run Try.prog w = .ok (.enter 32 args) w := enters_of Try.func32 (by kernel_rfl) rfl
theorem Try.ent33 : ∀ args w, (callFunc 33 args).run Try.prog w = .ok (.enter 33 args) w := enters_of Try.func33 (by kernel_rfl) rfl
theorem Try.ent34 : ∀ args w, (callFunc 34 args).run Try.prog w = .ok (.enter 34 args) w := enters_of Try.func34 (by kernel_rfl) rfl
theorem Try.ent35 : ∀ args w, (callFunc 35 args).run Try.prog w = .ok (.enter 35 args) w := enters_of Try.func35 (by kernel_rfl) rfl
theorem Try.ent36 : ∀ args w, (callFunc 36 args).run Try.prog w = .ok (.enter 36 args) w := enters_of Try.func36 (by kernel_rfl) rfl
theorem Try.ent37 : ∀ args w, (callFunc 37 args).run Try.prog w = .ok (.enter 37 args) w := enters_of Try.func37 (by kernel_rfl) rfl
theorem Try.ent38 : ∀ args w, (callFunc 38 args).run Try.prog w = .ok (.enter 38 args) w := enters_of Try.func38 (by kernel_rfl) rfl
theorem Try.ent39 : ∀ args w, (callFunc 39 args).run Try.prog w = .ok (.enter 39 args) w := enters_of Try.func39 (by kernel_rfl) rfl
theorem Try.ent40 : ∀ args w, (callFunc 40 args).run Try.prog w = .ok (.enter 40 args) w := enters_of Try.func40 (by kernel_rfl) rfl
theorem Try.ent41 : ∀ args w, (callFunc 41 args).run Try.prog w = .ok (.enter 41 args) w := enters_of Try.func41 (by kernel_rfl) rfl
theorem Try.ent42 : ∀ args w, (callFunc 42 args).run Try.prog w = .ok (.enter 42 args) w := enters_of Try.func42 (by kernel_rfl) rfl
theorem Try.ent43 : ∀ args w, (callFunc 43 args).run Try.prog w = .ok (.enter 43 args) w := enters_of Try.func43 (by kernel_rfl) rfl
theorem Try.ent44 : ∀ args w, (callFunc 44 args).run Try.prog w = .ok (.enter 44 args) w := enters_of Try.func44 (by kernel_rfl) rfl
theorem Try.ent45 : ∀ args w, (callFunc 45 args).run Try.prog w = .ok (.enter 45 args) w := enters_of Try.func45 (by kernel_rfl) rfl
theorem Try.ent46 : ∀ args w, (callFunc 46 args).run Try.prog w = .ok (.enter 46 args) w := enters_of Try.func46 (by kernel_rfl) rfl
theorem Try.ent47 : ∀ args w, (callFunc 47 args).run Try.prog w = .ok (.enter 47 args) w := enters_of Try.func47 (by kernel_rfl) rfl
theorem Try.ent48 : ∀ args w, (callFunc 48 args).run Try.prog w = .ok (.enter 48 args) w := enters_of Try.func48 (by kernel_rfl) rfl
theorem Try.ent49 : ∀ args w, (callFunc 49 args).run Try.prog w = .ok (.enter 49 args) w := enters_of Try.func49 (by kernel_rfl) rfl
theorem Try.ent50 : ∀ args w, (callFunc 50 args).run Try.prog w = .ok (.enter 50 args) w := enters_of Try.func50 (by kernel_rfl) rfl
theorem Try.ent51 : ∀ args w, (callFunc 51 args).run Try.prog w = .ok (.enter 51 args) w := enters_of Try.func51 (by kernel_rfl) rfl
theorem Try.ent52 : ∀ args w, (callFunc 52 args).run Try.prog w = .ok (.enter 52 args) w := enters_of Try.func52 (by kernel_rfl) rfl
theorem Try.ent53 : ∀ args w, (callFunc 53 args).run Try.prog w = .ok (.enter 53 args) w := enters_of Try.func53 (by kernel_rfl) rfl
theorem Try.ent54 : ∀ args w, (callFunc 54 args).run Try.prog w = .ok (.enter 54 args) w := enters_of Try.func54 (by kernel_rfl) rfl
theorem Try.ent55 : ∀ args w, (callFunc 55 args).run Try.prog w = .ok (.enter 55 args) w := enters_of Try.func55 (by kernel_rfl) rfl
theorem Try.ent56 : ∀ args w, (callFunc 56 args).run Try.prog w = .ok (.enter 56 args) w := enters_of Try.func56 (by kernel_rfl) rfl
theorem Try.ent57 : ∀ args w, (callFunc 57 args).run Try.prog w = .ok (.enter 57 args) w := enters_of Try.func57 (by kernel_rfl) rfl
theorem Try.ent58 : ∀ args w, (callFunc 58 args).run Try.prog w = .ok (.enter 58 args) w := enters_of Try.func58 (by kernel_rfl) rfl
theorem Try.ent59 : ∀ args w, (callFunc 59 args).run Try.prog w = .ok (.enter 59 args) w := enters_of Try.func59 (by kernel_rfl) rfl
theorem Try.ent60 : ∀ args w, (callFunc 60 args).run Try.prog w = .ok (.enter 60 args) w := enters_of Try.func60 (by kernel_rfl) rfl
theorem Try.ent61 : ∀ args w, (callFunc 61 args).run Try.prog w = .ok (.enter 61 args) w := enters_of Try.func61 (by kernel_rfl) rfl
theorem Try.ent62 : ∀ args w, (callFunc 62 args).run Try.prog w = .ok (.enter 62 args) w := enters_of Try.func62 (by kernel_rfl) rfl
theorem Try.ent63 : ∀ args w, (callFunc 63 args).run Try.prog w = .ok (.enter 63 args) w := enters_of Try.func63 (by kernel_rfl) rfl
theorem Try.ent64 : ∀ args w, (callFunc 64 args).run Try.prog w = .ok (.enter 64 args) w := enters_of Try.func64 (by kernel_rfl) rfl
theorem Try.ent65 : ∀ args w, (callFunc 65 args).run Try.prog w = .ok (.enter 65 args) w := enters_of Try.func65 (by kernel_rfl) rfl
theorem Try.ent66 : ∀ args w, (callFunc 66 args).run Try.prog w = .ok (.enter 66 args) w := enters_of Try.func66 (by kernel_rfl) rfl
theorem Try.ent67 : ∀ args w, (callFunc 67 args).run Try.prog w = .ok (.enter 67 args) w := enters_of Try.func67 (by kernel_rfl) rfl
theorem Try.ent68 : ∀ args w, (callFunc 68 args).run Try.prog w = .ok (.enter 68 args) w := enters_of Try.func68 (by kernel_rfl) rfl
theorem Try.ent69 : ∀ args w, (callFunc 69 args).run Try.prog w = .ok (.enter 69 args) w := enters_of Try.func69 (by kernel_rfl) rfl
theorem Try.ent70 : ∀ args w, (callFunc 70 args).run Try.prog w = .ok (.enter 70 args) w := enters_of Try.func70 (by kernel_rfl) rfl
theorem Try.ent71 : ∀ args w, (callFunc 71 args).run Try.prog w = .ok (.enter 71 args) w := enters_of Try.func71 (by kernel_rfl) rfl
theorem Try.ent72 : ∀ args w, (callFunc 72 args).run Try.prog w = .ok (.enter 72 args) w := enters_of Try.func72 (by kernel_rfl) rfl
theorem Try.ent73 : ∀ args w, (callFunc 73 args).run Try.prog w = .ok (.enter 73 args) w := enters_of Try.func73 (by kernel_rfl) rfl
theorem Try.ent74 : ∀ args w, (callFunc 74 args).run Try.prog w = .ok (.enter 74 args) w := enters_of Try.func74 (by kernel_rfl) rfl
theorem Try.ent75 : ∀ args w, (callFunc 75 args).run Try.prog w = .ok (.enter 75 args) w := enters_of Try.func75 (by kernel_rfl) rfl
theorem Try.ent76 : ∀ args w, (callFunc 76 args).run Try.prog w = .ok (.enter 76 args) w := enters_of Try.func76 (by kernel_rfl) rfl
theorem Try.ent77 : ∀ args w, (callFunc 77 args).run Try.prog w = .ok (.enter 77 args) w := enters_of Try.func77 (by kernel_rfl) rfl
theorem Try.ent78 : ∀ args w, (callFunc 78 args).run Try.prog w = .ok (.enter 78 args) w := enters_of Try.func78 (by kernel_rfl) rfl
theorem Try.ent79 : ∀ args w, (callFunc 79 args).run Try.prog w = .ok (.enter 79 args) w := enters_of Try.func79 (by kernel_rfl) rfl
theorem Try.ent80 : ∀ args w, (callFunc 80 args).run Try.prog w = .ok (.enter 80 args) w := enters_of Try.func80 (by kernel_rfl) rfl
theorem Try.ent81 : ∀ args w, (callFunc 81 args).run Try.prog w = .ok (.enter 81 args) w := enters_of Try.func81 (by kernel_rfl) rfl
theorem Try.ent82 : ∀ args w, (callFunc 82 args).run Try.prog w = .ok (.enter 82 args) w := enters_of Try.func82 (by kernel_rfl) rfl
theorem Try.ent83 : ∀ args w, (callFunc 83 args).run Try.prog w = .ok (.enter 83 args) w := enters_of Try.func83 (by kernel_rfl) rfl
theorem Try.ent84 : ∀ args w, (callFunc 84 args).run Try.prog w = .ok (.enter 84 args) w := enters_of Try.func84 (by kernel_rfl) rfl
theorem Try.ent85 : ∀ args w, (callFunc 85 args).run Try.prog w = .ok (.enter 85 args) w := enters_of Try.func85 (by kernel_rfl) rfl
theorem Try.ent86 : ∀ args w, (callFunc 86 args).run Try.prog w = .ok (.enter 86 args) w := enters_of Try.func86 (by kernel_rfl) rfl
theorem Try.ent87 : ∀ args w, (callFunc 87 args).run Try.prog w = .ok (.enter 87 args) w := enters_of Try.func87 (by kernel_rfl) rfl
theorem Try.ent88 : ∀ args w, (callFunc 88 args).run Try.prog w = .ok (.enter 88 args) w := enters_of Try.func88 (by kernel_rfl) rfl
theorem Try.ent89 : ∀ args w, (callFunc 89 args).run Try.prog w = .ok (.enter 89 args) w := enters_of Try.func89 (by kernel_rfl) rfl
theorem Try.ent90 : ∀ args w, (callFunc 90 args).run Try.prog w = .ok (.enter 90 args) w := enters_of Try.func90 (by kernel_rfl) rfl
theorem Try.ent91 : ∀ args w, (callFunc 91 args).run Try.prog w = .ok (.enter 91 args) w := enters_of Try.func91 (by kernel_rfl) rfl
theorem Try.ent92 : ∀ args w, (callFunc 92 args).run Try.prog w = .ok (.enter 92 args) w := enters_of Try.func92 (by kernel_rfl) rfl
theorem Try.ent93 : ∀ args w, (callFunc 93 args).run Try.prog w = .ok (.enter 93 args) w := enters_of Try.func93 (by kernel_rfl) rfl
theorem Try.ent94 : ∀ args w, (callFunc 94 args).run Try.prog w = .ok (.enter 94 args) w := enters_of Try.func94 (by kernel_rfl) rfl
theorem Try.ent95 : ∀ args w, (callFunc 95 args).run Try.prog w = .ok (.enter 95 args) w := enters_of Try.func95 (by kernel_rfl) rfl
theorem Try.ent96 : ∀ args w, (callFunc 96 args).run Try.prog w = .ok (.enter 96 args) w := enters_of Try.func96 (by kernel_rfl) rfl
theorem Try.ent97 : ∀ args w, (callFunc 97 args).run Try.prog w = .ok (.enter 97 args) w := enters_of Try.func97 (by kernel_rfl) rfl
theorem Try.ent98 : ∀ args w, (callFunc 98 args).run Try.prog w = .ok (.enter 98 args) w := enters_of Try.func98 (by kernel_rfl) rfl
theorem Try.ent99 : ∀ args w, (callFunc 99 args).run Try.prog w = .ok (.enter 99 args) w := enters_of Try.func99 (by kernel_rfl) rfl
end Go.Proofs.Ytblbkjdfgpffpaa
