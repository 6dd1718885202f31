import Derived.Test.YtkjniggdldpnoaaRows
import Derived.Test.YtkjniggdldpnoaaQ5
import Derived.Test.YtkjniggdldpnoaaQ7
import Derived.Test.YtkjniggdldpnoaaQ4
import Derived.Test.YtkjniggdldpnoaaB2
import Derived.Shelf.Abstract
set_option linter.unusedVariables false
namespace Go.Proofs.Ytkjniggdldpnoaa
open Go Go.Abs
theorem Try.mixed : Try.prog.follows .mixedOrders = true := by kernel_rfl
theorem Try.c1 : cells? Try.prog 1 = some 1 := by kernel_rfl
theorem Try.g1 : agg? Try.prog 1 = some false := by kernel_rfl
theorem Try.z1 : zeros? Try.prog 1 = some [.nilFunc] := by kernel_rfl
theorem Try.c2 : cells? Try.prog 2 = some 1 := by kernel_rfl
theorem Try.g2 : agg? Try.prog 2 = some false := by kernel_rfl
theorem Try.z2 : zeros? Try.prog 2 = some [.int .i64 0] := by kernel_rfl
theorem Try.c3 : cells? Try.prog 3 = some 1 := by kernel_rfl
theorem Try.g3 : agg? Try.prog 3 = some false := by kernel_rfl
theorem Try.z3 : zeros? Try.prog 3 = some [.int .i64 0] := by kernel_rfl
theorem Try.c4 : cells? Try.prog 4 = some 1 := by kernel_rfl
theorem Try.g4 : agg? Try.prog 4 = some false := by kernel_rfl
theorem Try.z4 : zeros? Try.prog 4 = some [.bool false] := by kernel_rfl
theorem Try.c5 : cells? Try.prog 5 = some 1 := by kernel_rfl
theorem Try.g5 : agg? Try.prog 5 = some false := by kernel_rfl
theorem Try.z5 : zeros? Try.prog 5 = some [.int .u8 0] := by kernel_rfl
theorem Try.c6 : cells? Try.prog 6 = some 1 := by kernel_rfl
theorem Try.g6 : agg? Try.prog 6 = some false := by kernel_rfl
theorem Try.z6 : zeros? Try.prog 6 = some [.int .u8 0] := by kernel_rfl
theorem Try.c7 : cells? Try.prog 7 = some 4 := by kernel_rfl
theorem Try.g7 : agg? Try.prog 7 = some true := by kernel_rfl
theorem Try.fd7_0 : field? Try.prog 7 0 = some (0, 2) := by kernel_rfl
theorem Try.fd7_1 : field? Try.prog 7 1 = some (1, 3) := by kernel_rfl
theorem Try.fd7_2 : field? Try.prog 7 2 = some (2, 4) := by kernel_rfl
theorem Try.fd7_3 : field? Try.prog 7 3 = some (3, 6) := by kernel_rfl
theorem Try.pl7 : places? Try.prog 7 = some [(0, 1), (1, 1), (2, 1), (3, 1)] := by kernel_rfl
theorem Try.z7 : zeros? Try.prog 7 = some [.int .i64 0, .int .i64 0, .bool false, .int .u8 0] := by kernel_rfl
theorem Try.c8 : cells? Try.prog 8 = some 4 := by kernel_rfl
theorem Try.g8 : agg? Try.prog 8 = some true := by kernel_rfl
theorem Try.fd8_0 : field? Try.prog 8 0 = some (0, 2) := by kernel_rfl
theorem Try.fd8_1 : field? Try.prog 8 1 = some (1, 3) := by kernel_rfl
theorem Try.fd8_2 : field? Try.prog 8 2 = some (2, 4) := by kernel_rfl
theorem Try.fd8_3 : field? Try.prog 8 3 = some (3, 6) := by kernel_rfl
theorem Try.pl8 : places? Try.prog 8 = some [(0, 1), (1, 1), (2, 1), (3, 1)] := by kernel_rfl
theorem Try.z8 : zeros? Try.prog 8 = some [.int .i64 0, .int .i64 0, .bool false, .int .u8 0] := by kernel_rfl
theorem Try.c9 : cells? Try.prog 9 = some 1 := by kernel_rfl
theorem Try.g9 : agg? Try.prog 9 = some false := by kernel_rfl
theorem Try.z9 : zeros? Try.prog 9 = some [.string ⟨#[]⟩] := by kernel_rfl
theorem Try.c10 : cells? Try.prog 10 = some 1 := by kernel_rfl
theorem Try.g10 : agg? Try.prog 10 = some false := by kernel_rfl
theorem Try.z10 : zeros? Try.prog 10 = some [.string ⟨#[]⟩] := by kernel_rfl
theorem Try.c11 : cells? Try.prog 11 = some 1 := by kernel_rfl
theorem Try.g11 : agg? Try.prog 11 = some false := by kernel_rfl
theorem Try.z11 : zeros? Try.prog 11 = some [.string ⟨#[]⟩] := by kernel_rfl
theorem Try.c12 : cells? Try.prog 12 = some 1 := by kernel_rfl
theorem Try.g12 : agg? Try.prog 12 = some false := by kernel_rfl
theorem Try.z12 : zeros? Try.prog 12 = some [.int .u64 0] := by kernel_rfl
theorem Try.c13 : cells? Try.prog 13 = some 2 := by kernel_rfl
theorem Try.g13 : agg? Try.prog 13 = some true := by kernel_rfl
theorem Try.fd13_0 : field? Try.prog 13 0 = some (0, 9) := by kernel_rfl
theorem Try.fd13_1 : field? Try.prog 13 1 = some (1, 12) := by kernel_rfl
theorem Try.pl13 : places? Try.prog 13 = some [(0, 1), (1, 1)] := by kernel_rfl
theorem Try.z13 : zeros? Try.prog 13 = some [.string ⟨#[]⟩, .int .u64 0] := by kernel_rfl
theorem Try.c14 : cells? Try.prog 14 = some 2 := by kernel_rfl
theorem Try.g14 : agg? Try.prog 14 = some true := by kernel_rfl
theorem Try.fd14_0 : field? Try.prog 14 0 = some (0, 9) := by kernel_rfl
theorem Try.fd14_1 : field? Try.prog 14 1 = some (1, 12) := by kernel_rfl
theorem Try.pl14 : places? Try.prog 14 = some [(0, 1), (1, 1)] := by kernel_rfl
theorem Try.z14 : zeros? Try.prog 14 = some [.string ⟨#[]⟩, .int .u64 0] := by kernel_rfl
theorem Try.c15 : cells? Try.prog 15 = some 1 := by kernel_rfl
theorem Try.g15 : agg? Try.prog 15 = some false := by kernel_rfl
theorem Try.z15 : zeros? Try.prog 15 = some [.pointer none] := by kernel_rfl
theorem Try.c16 : cells? Try.prog 16 = some 1 := by kernel_rfl
theorem Try.g16 : agg? Try.prog 16 = some false := by kernel_rfl
theorem Try.z16 : zeros? Try.prog 16 = some [.pointer none] := by kernel_rfl
theorem Try.c17 : cells? Try.prog 17 = some 1 := by kernel_rfl
theorem Try.g17 : agg? Try.prog 17 = some false := by kernel_rfl
theorem Try.z17 : zeros? Try.prog 17 = some [.pointer none] := by kernel_rfl
theorem Try.c18 : cells? Try.prog 18 = some 1 := by kernel_rfl
theorem Try.g18 : agg? Try.prog 18 = some true := by kernel_rfl
theorem Try.fd18_0 : field? Try.prog 18 0 = some (0, 17) := by kernel_rfl
theorem Try.pl18 : places? Try.prog 18 = some [(0, 1)] := by kernel_rfl
theorem Try.z18 : zeros? Try.prog 18 = some [.pointer none] := by kernel_rfl
theorem Try.c19 : cells? Try.prog 19 = some 1 := by kernel_rfl
theorem Try.g19 : agg? Try.prog 19 = some true := by kernel_rfl
theorem Try.fd19_0 : field? Try.prog 19 0 = some (0, 17) := by kernel_rfl
theorem Try.pl19 : places? Try.prog 19 = some [(0, 1)] := by kernel_rfl
theorem Try.z19 : zeros? Try.prog 19 = some [.pointer none] := by kernel_rfl
theorem Try.c20 : cells? Try.prog 20 = some 1 := by kernel_rfl
theorem Try.g20 : agg? Try.prog 20 = some false := by kernel_rfl
theorem Try.z20 : zeros? Try.prog 20 = some [.nilIface] := by kernel_rfl
theorem Try.c21 : cells? Try.prog 21 = some 1 := by kernel_rfl
theorem Try.g21 : agg? Try.prog 21 = some false := by kernel_rfl
theorem Try.z21 : zeros? Try.prog 21 = some [.int .i32 0] := by kernel_rfl
theorem Try.c22 : cells? Try.prog 22 = some 2 := by kernel_rfl
theorem Try.g22 : agg? Try.prog 22 = some true := by kernel_rfl
theorem Try.fd22_0 : field? Try.prog 22 0 = some (0, 9) := by kernel_rfl
theorem Try.fd22_1 : field? Try.prog 22 1 = some (1, 9) := by kernel_rfl
theorem Try.pl22 : places? Try.prog 22 = some [(0, 1), (1, 1)] := by kernel_rfl
theorem Try.z22 : zeros? Try.prog 22 = some [.string ⟨#[]⟩, .string ⟨#[]⟩] := by kernel_rfl
theorem Try.c23 : cells? Try.prog 23 = some 2 := by kernel_rfl
theorem Try.g23 : agg? Try.prog 23 = some true := by kernel_rfl
theorem Try.q23 : eqT? Try.prog 23 = some (.agg [.str, .str]) := by kernel_rfl
theorem Try.fd23_0 : field? Try.prog 23 0 = some (0, 9) := by kernel_rfl
theorem Try.fd23_1 : field? Try.prog 23 1 = some (1, 9) := by kernel_rfl
theorem Try.pl23 : places? Try.prog 23 = some [(0, 1), (1, 1)] := by kernel_rfl
theorem Try.z23 : zeros? Try.prog 23 = some [.string ⟨#[]⟩, .string ⟨#[]⟩] := by kernel_rfl
theorem Try.c24 : cells? Try.prog 24 = some 2 := by kernel_rfl
theorem Try.g24 : agg? Try.prog 24 = some true := by kernel_rfl
theorem Try.q24 : eqT? Try.prog 24 = some (.agg [.str, .str]) := by kernel_rfl
theorem Try.fd24_0 : field? Try.prog 24 0 = some (0, 9) := by kernel_rfl
theorem Try.fd24_1 : field? Try.prog 24 1 = some (1, 9) := by kernel_rfl
theorem Try.pl24 : places? Try.prog 24 = some [(0, 1), (1, 1)] := by kernel_rfl
theorem Try.z24 : zeros? Try.prog 24 = some [.string ⟨#[]⟩, .string ⟨#[]⟩] := by kernel_rfl
theorem Try.c25 : cells? Try.prog 25 = some 1 := by kernel_rfl
theorem Try.g25 : agg? Try.prog 25 = some false := by kernel_rfl
theorem Try.z25 : zeros? Try.prog 25 = some [.nilFunc] := by kernel_rfl
theorem Try.c26 : cells? Try.prog 26 = some 1 := by kernel_rfl
theorem Try.g26 : agg? Try.prog 26 = some false := by kernel_rfl
theorem Try.z26 : zeros? Try.prog 26 = some [.nilFunc] := by kernel_rfl
theorem Try.c27 : cells? Try.prog 27 = some 1 := by kernel_rfl
theorem Try.g27 : agg? Try.prog 27 = some false := by kernel_rfl
theorem Try.z27 : zeros? Try.prog 27 = some [.nilFunc] := by kernel_rfl
theorem Try.c28 : cells? Try.prog 28 = some 1 := by kernel_rfl
theorem Try.g28 : agg? Try.prog 28 = some false := by kernel_rfl
theorem Try.z28 : zeros? Try.prog 28 = some [.nilFunc] := by kernel_rfl
theorem Try.c29 : cells? Try.prog 29 = some 1 := by kernel_rfl
theorem Try.g29 : agg? Try.prog 29 = some false := by kernel_rfl
theorem Try.z29 : zeros? Try.prog 29 = some [.nilFunc] := by kernel_rfl
theorem Try.c30 : cells? Try.prog 30 = some 1 := by kernel_rfl
theorem Try.g30 : agg? Try.prog 30 = some false := by kernel_rfl
theorem Try.e30 : elem? Try.prog 30 = some 31 := by kernel_rfl
theorem Try.ap30 : appT? Try.prog 30 = some (31, 1, 24) := by kernel_rfl
theorem Try.z30 : zeros? Try.prog 30 = some [.slice none 0 0] := by kernel_rfl
theorem Try.c31 : cells? Try.prog 31 = some 1 := by kernel_rfl
theorem Try.g31 : agg? Try.prog 31 = some false := by kernel_rfl
theorem Try.e31 : elem? Try.prog 31 = some 42 := by kernel_rfl
theorem Try.ap31 : appT? Try.prog 31 = some (42, 2, 16) := by kernel_rfl
theorem Try.z31 : zeros? Try.prog 31 = some [.slice none 0 0] := by kernel_rfl
theorem Try.c32 : cells? Try.prog 32 = some 1 := by kernel_rfl
theorem Try.g32 : agg? Try.prog 32 = some false := by kernel_rfl
theorem Try.e32 : elem? Try.prog 32 = some 33 := by kernel_rfl
theorem Try.ap32 : appT? Try.prog 32 = some (33, 1, 24) := by kernel_rfl
theorem Try.z32 : zeros? Try.prog 32 = some [.slice none 0 0] := by kernel_rfl
theorem Try.c33 : cells? Try.prog 33 = some 1 := by kernel_rfl
theorem Try.g33 : agg? Try.prog 33 = some false := by kernel_rfl
theorem Try.e33 : elem? Try.prog 33 = some 43 := by kernel_rfl
theorem Try.ap33 : appT? Try.prog 33 = some (43, 2, 16) := by kernel_rfl
theorem Try.z33 : zeros? Try.prog 33 = some [.slice none 0 0] := by kernel_rfl
theorem Try.c34 : cells? Try.prog 34 = some 1 := by kernel_rfl
theorem Try.g34 : agg? Try.prog 34 = some false := by kernel_rfl
theorem Try.z34 : zeros? Try.prog 34 = some [.nilFunc] := by kernel_rfl
theorem Try.c35 : cells? Try.prog 35 = some 1 := by kernel_rfl
theorem Try.g35 : agg? Try.prog 35 = some false := by kernel_rfl
theorem Try.z35 : zeros? Try.prog 35 = some [.nilFunc] := by kernel_rfl
theorem Try.c36 : cells? Try.prog 36 = some 1 := by kernel_rfl
theorem Try.g36 : agg? Try.prog 36 = some false := by kernel_rfl
theorem Try.z36 : zeros? Try.prog 36 = some [.nilFunc] := by kernel_rfl
theorem Try.c37 : cells? Try.prog 37 = some 1 := by kernel_rfl
theorem Try.g37 : agg? Try.prog 37 = some false := by kernel_rfl
theorem Try.z37 : zeros? Try.prog 37 = some [.nilFunc] := by kernel_rfl
theorem Try.c38 : cells? Try.prog 38 = some 1 := by kernel_rfl
theorem Try.g38 : agg? Try.prog 38 = some false := by kernel_rfl
theorem Try.z38 : zeros? Try.prog 38 = some [.nilFunc] := by kernel_rfl
theorem Try.c39 : cells? Try.prog 39 = some 1 := by kernel_rfl
theorem Try.g39 : agg? Try.prog 39 = some false := by kernel_rfl
theorem Try.z39 : zeros? Try.prog 39 = some [.nilFunc] := by kernel_rfl
theorem Try.c40 : cells? Try.prog 40 = some 1 := by kernel_rfl
theorem Try.g40 : agg? Try.prog 40 = some false := by kernel_rfl
theorem Try.z40 : zeros? Try.prog 40 = some [.nilFunc] := by kernel_rfl
theorem Try.c41 : cells? Try.prog 41 = some 2 := by kernel_rfl
theorem Try.g41 : agg? Try.prog 41 = some true := by kernel_rfl
theorem Try.fd41_0 : field? Try.prog 41 0 = some (0, 3) := by kernel_rfl
theorem Try.fd41_1 : field? Try.prog 41 1 = some (1, 3) := by kernel_rfl
theorem Try.pl41 : places? Try.prog 41 = some [(0, 1), (1, 1)] := by kernel_rfl
theorem Try.z41 : zeros? Try.prog 41 = some [.int .i64 0, .int .i64 0] := by kernel_rfl
theorem Try.c42 : cells? Try.prog 42 = some 2 := by kernel_rfl
theorem Try.g42 : agg? Try.prog 42 = some true := by kernel_rfl
theorem Try.q42 : eqT? Try.prog 42 = some (.agg [.int .i64, .int .i64]) := by kernel_rfl
theorem Try.fd42_0 : field? Try.prog 42 0 = some (0, 3) := by kernel_rfl
theorem Try.fd42_1 : field? Try.prog 42 1 = some (1, 3) := by kernel_rfl
theorem Try.pl42 : places? Try.prog 42 = some [(0, 1), (1, 1)] := by kernel_rfl
theorem Try.z42 : zeros? Try.prog 42 = some [.int .i64 0, .int .i64 0] := by kernel_rfl
theorem Try.c43 : cells? Try.prog 43 = some 2 := by kernel_rfl
theorem Try.g43 : agg? Try.prog 43 = some true := by kernel_rfl
theorem Try.q43 : eqT? Try.prog 43 = some (.agg [.int .i64, .int .i64]) := by kernel_rfl
theorem Try.fd43_0 : field? Try.prog 43 0 = some (0, 3) := by kernel_rfl
theorem Try.fd43_1 : field? Try.prog 43 1 = some (1, 3) := by kernel_rfl
theorem Try.pl43 : places? Try.prog 43 = some [(0, 1), (1, 1)] := by kernel_rfl
theorem Try.z43 : zeros? Try.prog 43 = some [.int .i64 0, .int .i64 0] := by kernel_rfl
theorem Try.c44 : cells? Try.prog 44 = some 1 := by kernel_rfl
theorem Try.g44 : agg? Try.prog 44 = some false := by kernel_rfl
theorem Try.z44 : zeros? Try.prog 44 = some [.nilFunc] := by kernel_rfl
theorem Try.c46 : cells? Try.prog 46 = some 1 := by kernel_rfl
theorem Try.g46 : agg? Try.prog 46 = some false := by kernel_rfl
theorem Try.z46 : zeros? Try.prog 46 = some [.nilFunc] := by kernel_rfl
theorem Try.c47 : cells? Try.prog 47 = some 1 := by kernel_rfl
theorem Try.g47 : agg? Try.prog 47 = some false := by kernel_rfl
theorem Try.z47 : zeros? Try.prog 47 = some [.nilFunc] := by kernel_rfl
theorem Try.c48 : cells? Try.prog 48 = some 1 := by kernel_rfl
theorem Try.g48 : agg? Try.prog 48 = some false := by kernel_rfl
theorem Try.z48 : zeros? Try.prog 48 = some [.nilFunc] := by kernel_rfl
theorem Try.c49 : cells? Try.prog 49 = some 1 := by kernel_rfl
theorem Try.g49 : agg? Try.prog 49 = some false := by kernel_rfl
theorem Try.z49 : zeros? Try.prog 49 = some [.nilFunc] := by kernel_rfl
theorem Try.c50 : cells? Try.prog 50 = some 1 := by kernel_rfl
theorem Try.g50 : agg? Try.prog 50 = some false := by kernel_rfl
theorem Try.z50 : zeros? Try.prog 50 = some [.nilFunc] := by kernel_rfl
theorem Try.c51 : cells? Try.prog 51 = some 4 := by kernel_rfl
theorem Try.g51 : agg? Try.prog 51 = some true := by kernel_rfl
theorem Try.fd51_0 : field? Try.prog 51 0 = some (0, 3) := by kernel_rfl
theorem Try.fd51_1 : field? Try.prog 51 1 = some (1, 3) := by kernel_rfl
theorem Try.fd51_2 : field? Try.prog 51 2 = some (2, 3) := by kernel_rfl
theorem Try.fd51_3 : field? Try.prog 51 3 = some (3, 3) := by kernel_rfl
theorem Try.pl51 : places? Try.prog 51 = some [(0, 1), (1, 1), (2, 1), (3, 1)] := by kernel_rfl
theorem Try.z51 : zeros? Try.prog 51 = some [.int .i64 0, .int .i64 0, .int .i64 0, .int .i64 0] := by kernel_rfl
theorem Try.c52 : cells? Try.prog 52 = some 4 := by kernel_rfl
theorem Try.g52 : agg? Try.prog 52 = some true := by kernel_rfl
theorem Try.q52 : eqT? Try.prog 52 = some (.agg [.int .i64, .int .i64, .int .i64, .int .i64]) := by kernel_rfl
theorem Try.fd52_0 : field? Try.prog 52 0 = some (0, 3) := by kernel_rfl
theorem Try.fd52_1 : field? Try.prog 52 1 = some (1, 3) := by kernel_rfl
theorem Try.fd52_2 : field? Try.prog 52 2 = some (2, 3) := by kernel_rfl
theorem Try.fd52_3 : field? Try.prog 52 3 = some (3, 3) := by kernel_rfl
theorem Try.pl52 : places? Try.prog 52 = some [(0, 1), (1, 1), (2, 1), (3, 1)] := by kernel_rfl
theorem Try.z52 : zeros? Try.prog 52 = some [.int .i64 0, .int .i64 0, .int .i64 0, .int .i64 0] := by kernel_rfl
theorem Try.c53 : cells? Try.prog 53 = some 8 := by kernel_rfl
theorem Try.g53 : agg? Try.prog 53 = some true := by kernel_rfl
theorem Try.q53 : eqT? Try.prog 53 = some (.agg [.agg [.int .i64, .int .i64, .int .i64, .int .i64], .agg [.int .i64, .int .i64, .int .i64, .int .i64]]) := by kernel_rfl
theorem Try.ar53 : arr? Try.prog 53 = some (2, 52) := by kernel_rfl
theorem Try.z53 : zeros? Try.prog 53 = some [.int .i64 0, .int .i64 0, .int .i64 0, .int .i64 0, .int .i64 0, .int .i64 0, .int .i64 0, .int .i64 0] := by kernel_rfl
theorem Try.c54 : cells? Try.prog 54 = some 1 := by kernel_rfl
theorem Try.g54 : agg? Try.prog 54 = some false := by kernel_rfl
theorem Try.e54 : elem? Try.prog 54 = some 52 := by kernel_rfl
theorem Try.ap54 : appT? Try.prog 54 = some (52, 4, 32) := by kernel_rfl
theorem Try.z54 : zeros? Try.prog 54 = some [.slice none 0 0] := by kernel_rfl
theorem Try.c55 : cells? Try.prog 55 = some 1 := by kernel_rfl
theorem Try.g55 : agg? Try.prog 55 = some false := by kernel_rfl
theorem Try.z55 : zeros? Try.prog 55 = some [.nilFunc] := by kernel_rfl
theorem Try.c56 : cells? Try.prog 56 = some 4 := by kernel_rfl
theorem Try.g56 : agg? Try.prog 56 = some true := by kernel_rfl
theorem Try.fd56_0 : field? Try.prog 56 0 = some (0, 43) := by kernel_rfl
theorem Try.fd56_1 : field? Try.prog 56 1 = some (2, 3) := by kernel_rfl
theorem Try.fd56_2 : field? Try.prog 56 2 = some (3, 3) := by kernel_rfl
theorem Try.pl56 : places? Try.prog 56 = some [(0, 2), (2, 1), (3, 1)] := by kernel_rfl
theorem Try.z56 : zeros? Try.prog 56 = some [.int .i64 0, .int .i64 0, .int .i64 0, .int .i64 0] := by kernel_rfl
theorem Try.c57 : cells? Try.prog 57 = some 4 := by kernel_rfl
theorem Try.g57 : agg? Try.prog 57 = some true := by kernel_rfl
theorem Try.q57 : eqT? Try.prog 57 = some (.agg [.agg [.int .i64, .int .i64], .int .i64, .int .i64]) := by kernel_rfl
theorem Try.fd57_0 : field? Try.prog 57 0 = some (0, 43) := by kernel_rfl
theorem Try.fd57_1 : field? Try.prog 57 1 = some (2, 3) := by kernel_rfl
theorem Try.fd57_2 : field? Try.prog 57 2 = some (3, 3) := by kernel_rfl
theorem Try.pl57 : places? Try.prog 57 = some [(0, 2), (2, 1), (3, 1)] := by kernel_rfl
theorem Try.z57 : zeros? Try.prog 57 = some [.int .i64 0, .int .i64 0, .int .i64 0, .int .i64 0] := by kernel_rfl
theorem Try.c58 : cells? Try.prog 58 = some 1 := by kernel_rfl
theorem Try.g58 : agg? Try.prog 58 = some false := by kernel_rfl
theorem Try.z58 : zeros? Try.prog 58 = some [.nilFunc] := by kernel_rfl
theorem Try.c59 : cells? Try.prog 59 = some 1 := by kernel_rfl
theorem Try.g59 : agg? Try.prog 59 = some false := by kernel_rfl
theorem Try.z59 : zeros? Try.prog 59 = some [.nilFunc] := by kernel_rfl
theorem Try.c60 : cells? Try.prog 60 = some 1 := by kernel_rfl
theorem Try.g60 : agg? Try.prog 60 = some false := by kernel_rfl
theorem Try.z60 : zeros? Try.prog 60 = some [.nilFunc] := by kernel_rfl
theorem Try.c61 : cells? Try.prog 61 = some 1 := by kernel_rfl
theorem Try.g61 : agg? Try.prog 61 = some false := by kernel_rfl
theorem Try.e61 : elem? Try.prog 61 = some 57 := by kernel_rfl
theorem Try.ap61 : appT? Try.prog 61 = some (57, 4, 32) := by kernel_rfl
theorem Try.z61 : zeros? Try.prog 61 = some [.slice none 0 0] := by kernel_rfl
theorem Try.c62 : cells? Try.prog 62 = some 1 := by kernel_rfl
theorem Try.g62 : agg? Try.prog 62 = some false := by kernel_rfl
theorem Try.z62 : zeros? Try.prog 62 = some [.nilFunc] := by kernel_rfl
theorem Try.c63 : cells? Try.prog 63 = some 1 := by kernel_rfl
theorem Try.g63 : agg? Try.prog 63 = some false := by kernel_rfl
theorem Try.z63 : zeros? Try.prog 63 = some [.nilFunc] := by kernel_rfl
theorem Try.c64 : cells? Try.prog 64 = some 1 := by kernel_rfl
theorem Try.g64 : agg? Try.prog 64 = some false := by kernel_rfl
theorem Try.z64 : zeros? Try.prog 64 = some [.nilFunc] := by kernel_rfl
theorem Try.c65 : cells? Try.prog 65 = some 1 := by kernel_rfl
theorem Try.g65 : agg? Try.prog 65 = some false := by kernel_rfl
theorem Try.z65 : zeros? Try.prog 65 = some [.nilFunc] := by kernel_rfl
theorem Try.c66 : cells? Try.prog 66 = some 1 := by kernel_rfl
theorem Try.g66 : agg? Try.prog 66 = some false := by kernel_rfl
theorem Try.z66 : zeros? Try.prog 66 = some [.nilFunc] := by kernel_rfl
theorem Try.c67 : cells? Try.prog 67 = some 1 := by kernel_rfl
theorem Try.g67 : agg? Try.prog 67 = some false := by kernel_rfl
theorem Try.z67 : zeros? Try.prog 67 = some [.nilFunc] := by kernel_rfl
theorem Try.c68 : cells? Try.prog 68 = some 1 := by kernel_rfl
theorem Try.g68 : agg? Try.prog 68 = some false := by kernel_rfl
theorem Try.z68 : zeros? Try.prog 68 = some [.nilFunc] := by kernel_rfl
theorem Try.c69 : cells? Try.prog 69 = some 1 := by kernel_rfl
theorem Try.g69 : agg? Try.prog 69 = some false := by kernel_rfl
theorem Try.z69 : zeros? Try.prog 69 = some [.nilFunc] := by kernel_rfl
theorem Try.c70 : cells? Try.prog 70 = some 2 := by kernel_rfl
theorem Try.g70 : agg? Try.prog 70 = some true := by kernel_rfl
theorem Try.ar70 : arr? Try.prog 70 = some (2, 54) := by kernel_rfl
theorem Try.z70 : zeros? Try.prog 70 = some [.slice none 0 0, .slice none 0 0] := by kernel_rfl
theorem Try.c72 : cells? Try.prog 72 = some 1 := by kernel_rfl
theorem Try.g72 : agg? Try.prog 72 = some false := by kernel_rfl
theorem Try.z72 : zeros? Try.prog 72 = some [.nilFunc] := by kernel_rfl
theorem Try.c73 : cells? Try.prog 73 = some 1 := by kernel_rfl
theorem Try.g73 : agg? Try.prog 73 = some false := by kernel_rfl
theorem Try.z73 : zeros? Try.prog 73 = some [.nilFunc] := by kernel_rfl
theorem Try.c74 : cells? Try.prog 74 = some 1 := by kernel_rfl
theorem Try.g74 : agg? Try.prog 74 = some false := by kernel_rfl
theorem Try.z74 : zeros? Try.prog 74 = some [.nilFunc] := by kernel_rfl
theorem Try.c75 : cells? Try.prog 75 = some 1 := by kernel_rfl
theorem Try.g75 : agg? Try.prog 75 = some false := by kernel_rfl
theorem Try.z75 : zeros? Try.prog 75 = some [.nilFunc] := by kernel_rfl
theorem Try.c76 : cells? Try.prog 76 = some 1 := by kernel_rfl
theorem Try.g76 : agg? Try.prog 76 = some false := by kernel_rfl
theorem Try.z76 : zeros? Try.prog 76 = some [.nilFunc] := by kernel_rfl
theorem Try.c77 : cells? Try.prog 77 = some 1 := by kernel_rfl
theorem Try.g77 : agg? Try.prog 77 = some false := by kernel_rfl
theorem Try.z77 : zeros? Try.prog 77 = some [.nilFunc] := by kernel_rfl
theorem Try.c78 : cells? Try.prog 78 = some 1 := by kernel_rfl
theorem Try.g78 : agg? Try.prog 78 = some false := by kernel_rfl
theorem Try.z78 : zeros? Try.prog 78 = some [.nilFunc] := by kernel_rfl
theorem Try.c79 : cells? Try.prog 79 = some 1 := by kernel_rfl
theorem Try.g79 : agg? Try.prog 79 = some false := by kernel_rfl
theorem Try.z79 : zeros? Try.prog 79 = some [.nilFunc] := by kernel_rfl
theorem Try.c80 : cells? Try.prog 80 = some 1 := by kernel_rfl
theorem Try.g80 : agg? Try.prog 80 = some false := by kernel_rfl
theorem Try.z80 : zeros? Try.prog 80 = some [.nilFunc] := by kernel_rfl
theorem Try.c81 : cells? Try.prog 81 = some 1 := by kernel_rfl
theorem Try.g81 : agg? Try.prog 81 = some false := by kernel_rfl
theorem Try.z81 : zeros? Try.prog 81 = some [.nilFunc] := by kernel_rfl
theorem Try.c82 : cells? Try.prog 82 = some 1 := by kernel_rfl
theorem Try.g82 : agg? Try.prog 82 = some false := by kernel_rfl
theorem Try.z82 : zeros? Try.prog 82 = some [.nilFunc] := by kernel_rfl
theorem Try.c83 : cells? Try.prog 83 = some 2 := by kernel_rfl
theorem Try.g83 : agg? Try.prog 83 = some true := by kernel_rfl
theorem Try.ar83 : arr? Try.prog 83 = some (2, 31) := by kernel_rfl
theorem Try.z83 : zeros? Try.prog 83 = some [.slice none 0 0, .slice none 0 0] := by kernel_rfl
theorem Try.c84 : cells? Try.prog 84 = some 1 := by kernel_rfl
theorem Try.g84 : agg? Try.prog 84 = some false := by kernel_rfl
theorem Try.z84 : zeros? Try.prog 84 = some [.nilFunc] := by kernel_rfl
theorem Try.c85 : cells? Try.prog 85 = some 1 := by kernel_rfl
theorem Try.g85 : agg? Try.prog 85 = some false := by kernel_rfl
theorem Try.z85 : zeros? Try.prog 85 = some [.nilFunc] := by kernel_rfl
theorem Try.c86 : cells? Try.prog 86 = some 1 := by kernel_rfl
theorem Try.g86 : agg? Try.prog 86 = some false := by kernel_rfl
theorem Try.z86 : zeros? Try.prog 86 = some [.nilFunc] := by kernel_rfl
theorem Try.c87 : cells? Try.prog 87 = some 1 := by kernel_rfl
theorem Try.g87 : agg? Try.prog 87 = some false := by kernel_rfl
theorem Try.z87 : zeros? Try.prog 87 = some [.nilFunc] := by kernel_rfl
theorem Try.c88 : cells? Try.prog 88 = some 1 := by kernel_rfl
theorem Try.g88 : agg? Try.prog 88 = some false := by kernel_rfl
theorem Try.z88 : zeros? Try.prog 88 = some [.nilFunc] := by kernel_rfl
theorem Try.c89 : cells? Try.prog 89 = some 1 := by kernel_rfl
theorem Try.g89 : agg? Try.prog 89 = some false := by kernel_rfl
theorem Try.e89 : elem? Try.prog 89 = some 9 := by kernel_rfl
theorem Try.ap89 : appT? Try.prog 89 = some (9, 1, 16) := by kernel_rfl
theorem Try.z89 : zeros? Try.prog 89 = some [.slice none 0 0] := by kernel_rfl
theorem Try.c90 : cells? Try.prog 90 = some 1 := by kernel_rfl
theorem Try.g90 : agg? Try.prog 90 = some false := by kernel_rfl
theorem Try.z90 : zeros? Try.prog 90 = some [.nilFunc] := by kernel_rfl
theorem Try.c92 : cells? Try.prog 92 = some 1 := by kernel_rfl
theorem Try.g92 : agg? Try.prog 92 = some false := by kernel_rfl
theorem Try.z92 : zeros? Try.prog 92 = some [.nilFunc] := by kernel_rfl
theorem Try.c93 : cells? Try.prog 93 = some 1 := by kernel_rfl
theorem Try.g93 : agg? Try.prog 93 = some false := by kernel_rfl
theorem Try.z93 : zeros? Try.prog 93 = some [.nilFunc] := by kernel_rfl
theorem Try.c94 : cells? Try.prog 94 = some 1 := by kernel_rfl
theorem Try.g94 : agg? Try.prog 94 = some false := by kernel_rfl
theorem Try.z94 : zeros? Try.prog 94 = some [.nilFunc] := by kernel_rfl
theorem Try.c95 : cells? Try.prog 95 = some 1 := by kernel_rfl
theorem Try.g95 : agg? Try.prog 95 = some false := by kernel_rfl
theorem Try.z95 : zeros? Try.prog 95 = some [.nilFunc] := by kernel_rfl
theorem Try.c96 : cells? Try.prog 96 = some 1 := by kernel_rfl
theorem Try.g96 : agg? Try.prog 96 = some false := by kernel_rfl
theorem Try.e96 : elem? Try.prog 96 = some 3 := by kernel_rfl
theorem Try.ap96 : appT? Try.prog 96 = some (3, 1, 8) := by kernel_rfl
theorem Try.z96 : zeros? Try.prog 96 = some [.slice none 0 0] := by kernel_rfl
theorem Try.c97 : cells? Try.prog 97 = some 1 := by kernel_rfl
theorem Try.g97 : agg? Try.prog 97 = some false := by kernel_rfl
theorem Try.z97 : zeros? Try.prog 97 = some [.nilFunc] := by kernel_rfl
theorem Try.c98 : cells? Try.prog 98 = some 1 := by kernel_rfl
theorem Try.g98 : agg? Try.prog 98 = some false := by kernel_rfl
theorem Try.z98 : zeros? Try.prog 98 = some [.nilFunc] := by kernel_rfl
theorem Try.c99 : cells? Try.prog 99 = some 1 := by kernel_rfl
theorem Try.g99 : agg? Try.prog 99 = some false := by kernel_rfl
theorem Try.z99 : zeros? Try.prog 99 = some [.nilFunc] := by kernel_rfl
theorem Try.c100 : cells? Try.prog 100 = some 1 := by kernel_rfl
theorem Try.g100 : agg? Try.prog 100 = some false := by kernel_rfl
theorem Try.z100 : zeros? Try.prog 100 = some [.nilFunc] := by kernel_rfl
theorem Try.c101 : cells? Try.prog 101 = some 1 := by kernel_rfl
theorem Try.g101 : agg? Try.prog 101 = some false := by kernel_rfl
theorem Try.z101 : zeros? Try.prog 101 = some [.nilFunc] := by kernel_rfl
theorem Try.c102 : cells? Try.prog 102 = some 1 := by kernel_rfl
theorem Try.g102 : agg? Try.prog 102 = some false := by kernel_rfl
theorem Try.z102 : zeros? Try.prog 102 = some [.nilFunc] := by kernel_rfl
theorem Try.c103 : cells? Try.prog 103 = some 1 := by kernel_rfl
theorem Try.g103 : agg? Try.prog 103 = some false := by kernel_rfl
theorem Try.z103 : zeros? Try.prog 103 = some [.nilFunc] := by kernel_rfl
theorem Try.c104 : cells? Try.prog 104 = some 1 := by kernel_rfl
theorem Try.g104 : agg? Try.prog 104 = some false := by kernel_rfl
theorem Try.z104 : zeros? Try.prog 104 = some [.nilFunc] := by kernel_rfl
theorem Try.c105 : cells? Try.prog 105 = some 1 := by kernel_rfl
theorem Try.g105 : agg? Try.prog 105 = some false := by kernel_rfl
theorem Try.z105 : zeros? Try.prog 105 = some [.nilFunc] := by kernel_rfl
theorem Try.c106 : cells? Try.prog 106 = some 1 := by kernel_rfl
theorem Try.g106 : agg? Try.prog 106 = some false := by kernel_rfl
theorem Try.z106 : zeros? Try.prog 106 = some [.nilFunc] := by kernel_rfl
theorem Try.c107 : cells? Try.prog 107 = some 1 := by kernel_rfl
theorem Try.g107 : agg? Try.prog 107 = some false := by kernel_rfl
theorem Try.z107 : zeros? Try.prog 107 = some [.nilFunc] := by kernel_rfl
theorem Try.c108 : cells? Try.prog 108 = some 1 := by kernel_rfl
theorem Try.g108 : agg? Try.prog 108 = some false := by kernel_rfl
theorem Try.z108 : zeros? Try.prog 108 = some [.nilFunc] := by kernel_rfl
theorem Try.c109 : cells? Try.prog 109 = some 1 := by kernel_rfl
theorem Try.g109 : agg? Try.prog 109 = some false := by kernel_rfl
theorem Try.z109 : zeros? Try.prog 109 = some [.nilFunc] := by kernel_rfl
theorem Try.c110 : cells? Try.prog 110 = some 1 := by kernel_rfl
theorem Try.g110 : agg? Try.prog 110 = some false := by kernel_rfl
theorem Try.z110 : zeros? Try.prog 110 = some [.nilFunc] := by kernel_rfl
theorem Try.c111 : cells? Try.prog 111 = some 1 := by kernel_rfl
theorem Try.g111 : agg? Try.prog 111 = some false := by kernel_rfl
theorem Try.z111 : zeros? Try.prog 111 = some [.nilFunc] := by kernel_rfl
theorem Try.c112 : cells? Try.prog 112 = some 1 := by kernel_rfl
theorem Try.g112 : agg? Try.prog 112 = some false := by kernel_rfl
theorem Try.z112 : zeros? Try.prog 112 = some [.nilFunc] := by kernel_rfl
theorem Try.c113 : cells? Try.prog 113 = some 1 := by kernel_rfl
theorem Try.g113 : agg? Try.prog 113 = some false := by kernel_rfl
theorem Try.z113 : zeros? Try.prog 113 = some [.nilFunc] := by kernel_rfl
theorem Try.c114 : cells? Try.prog 114 = some 1 := by kernel_rfl
theorem Try.g114 : agg? Try.prog 114 = some false := by kernel_rfl
theorem Try.z114 : zeros? Try.prog 114 = some [.nilFunc] := by kernel_rfl
theorem Try.c115 : cells? Try.prog 115 = some 1 := by kernel_rfl
theorem Try.g115 : agg? Try.prog 115 = some false := by kernel_rfl
theorem Try.z115 : zeros? Try.prog 115 = some [.nilFunc] := by kernel_rfl
theorem Try.c116 : cells? Try.prog 116 = some 1 := by kernel_rfl
theorem Try.g116 : agg? Try.prog 116 = some false := by kernel_rfl
theorem Try.z116 : zeros? Try.prog 116 = some [.nilFunc] := by kernel_rfl
theorem Try.c117 : cells? Try.prog 117 = some 1 := by kernel_rfl
theorem Try.g117 : agg? Try.prog 117 = some false := by kernel_rfl
theorem Try.z117 : zeros? Try.prog 117 = some [.nilFunc] := by kernel_rfl
theorem Try.c118 : cells? Try.prog 118 = some 1 := by kernel_rfl
theorem Try.g118 : agg? Try.prog 118 = some false := by kernel_rfl
theorem Try.z118 : zeros? Try.prog 118 = some [.nilFunc] := by kernel_rfl
theorem Try.c119 : cells? Try.prog 119 = some 1 := by kernel_rfl
theorem Try.g119 : agg? Try.prog 119 = some false := by kernel_rfl
theorem Try.z119 : zeros? Try.prog 119 = some [.nilFunc] := by kernel_rfl
theorem Try.c120 : cells? Try.prog 120 = some 1 := by kernel_rfl
theorem Try.g120 : agg? Try.prog 120 = some false := by kernel_rfl
theorem Try.z120 : zeros? Try.prog 120 = some [.nilFunc] := by kernel_rfl
theorem Try.c121 : cells? Try.prog 121 = some 1 := by kernel_rfl
theorem Try.g121 : agg? Try.prog 121 = some false := by kernel_rfl
theorem Try.z121 : zeros? Try.prog 121 = some [.nilFunc] := by kernel_rfl
theorem Try.c122 : cells? Try.prog 122 = some 1 := by kernel_rfl
theorem Try.g122 : agg? Try.prog 122 = some false := by kernel_rfl
theorem Try.z122 : zeros? Try.prog 122 = some [.nilFunc] := by kernel_rfl
theorem Try.c123 : cells? Try.prog 123 = some 1 := by kernel_rfl
theorem Try.g123 : agg? Try.prog 123 = some false := by kernel_rfl
theorem Try.z123 : zeros? Try.prog 123 = some [.nilFunc] := by kernel_rfl
theorem Try.c124 : cells? Try.prog 124 = some 1 := by kernel_rfl
theorem Try.g124 : agg? Try.prog 124 = some false := by kernel_rfl
theorem Try.z124 : zeros? Try.prog 124 = some [.nilFunc] := by kernel_rfl
theorem Try.c125 : cells? Try.prog 125 = some 1 := by kernel_rfl
theorem Try.g125 : agg? Try.prog 125 = some false := by kernel_rfl
theorem Try.z125 : zeros? Try.prog 125 = some [.int .u64 0] := by kernel_rfl
theorem Try.c126 : cells? Try.prog 126 = some 1 := by kernel_rfl
theorem Try.g126 : agg? Try.prog 126 = some false := by kernel_rfl
theorem Try.e126 : elem? Try.prog 126 = some 61 := by kernel_rfl
theorem Try.ap126 : appT? Try.prog 126 = some (61, 1, 24) := by kernel_rfl
theorem Try.z126 : zeros? Try.prog 126 = some [.slice none 0 0] := by kernel_rfl
theorem Try.c127 : cells? Try.prog 127 = some 1 := by kernel_rfl
theorem Try.g127 : agg? Try.prog 127 = some false := by kernel_rfl
theorem Try.z127 : zeros? Try.prog 127 = some [.nilFunc] := by kernel_rfl
theorem Try.c128 : cells? Try.prog 128 = some 1 := by kernel_rfl
theorem Try.g128 : agg? Try.prog 128 = some false := by kernel_rfl
theorem Try.z128 : zeros? Try.prog 128 = some [.nilFunc] := by kernel_rfl
theorem Try.c129 : cells? Try.prog 129 = some 1 := by kernel_rfl
theorem Try.g129 : agg? Try.prog 129 = some false := by kernel_rfl
theorem Try.z129 : zeros? Try.prog 129 = some [.nilFunc] := by kernel_rfl
theorem Try.c130 : cells? Try.prog 130 = some 1 := by kernel_rfl
theorem Try.g130 : agg? Try.prog 130 = some false := by kernel_rfl
theorem Try.z130 : zeros? Try.prog 130 = some [.nilFunc] := by kernel_rfl
theorem Try.c131 : cells? Try.prog 131 = some 1 := by kernel_rfl
theorem Try.g131 : agg? Try.prog 131 = some false := by kernel_rfl
theorem Try.z131 : zeros? Try.prog 131 = some [.nilFunc] := by kernel_rfl
theorem Try.c132 : cells? Try.prog 132 = some 1 := by kernel_rfl
theorem Try.g132 : agg? Try.prog 132 = some false := by kernel_rfl
theorem Try.z132 : zeros? Try.prog 132 = some [.int .i64 0] := by kernel_rfl
theorem Try.c134 : cells? Try.prog 134 = some 1 := by kernel_rfl
theorem Try.g134 : agg? Try.prog 134 = some false := by kernel_rfl
theorem Try.z134 : zeros? Try.prog 134 = some [.nilFunc] := by kernel_rfl
theorem Try.c135 : cells? Try.prog 135 = some 1 := by kernel_rfl
theorem Try.g135 : agg? Try.prog 135 = some false := by kernel_rfl
theorem Try.z135 : zeros? Try.prog 135 = some [.nilFunc] := by kernel_rfl
theorem Try.c136 : cells? Try.prog 136 = some 1 := by kernel_rfl
theorem Try.g136 : agg? Try.prog 136 = some false := by kernel_rfl
theorem Try.z136 : zeros? Try.prog 136 = some [.nilFunc] := by kernel_rfl
theorem Try.c137 : cells? Try.prog 137 = some 1 := by kernel_rfl
theorem Try.g137 : agg? Try.prog 137 = some false := by kernel_rfl
theorem Try.z137 : zeros? Try.prog 137 = some [.nilFunc] := by kernel_rfl
theorem Try.c138 : cells? Try.prog 138 = some 1 := by kernel_rfl
theorem Try.g138 : agg? Try.prog 138 = some false := by kernel_rfl
theorem Try.z138 : zeros? Try.prog 138 = some [.nilFunc] := by kernel_rfl
theorem Try.c139 : cells? Try.prog 139 = some 1 := by kernel_rfl
theorem Try.g139 : agg? Try.prog 139 = some false := by kernel_rfl
theorem Try.z139 : zeros? Try.prog 139 = some [.int .u32 0] := by kernel_rfl
theorem Try.c140 : cells? Try.prog 140 = some 1 := by kernel_rfl
theorem Try.g140 : agg? Try.prog 140 = some false := by kernel_rfl
theorem Try.z140 : zeros? Try.prog 140 = some [.nilFunc] := by kernel_rfl
theorem Try.c141 : cells? Try.prog 141 = some 1 := by kernel_rfl
theorem Try.g141 : agg? Try.prog 141 = some false := by kernel_rfl
theorem Try.z141 : zeros? Try.prog 141 = some [.int .u64 0] := by kernel_rfl
theorem Try.c142 : cells? Try.prog 142 = some 1 := by kernel_rfl
theorem Try.g142 : agg? Try.prog 142 = some false := by kernel_rfl
theorem Try.z142 : zeros? Try.prog 142 = some [.nilFunc] := by kernel_rfl
theorem Try.c143 : cells? Try.prog 143 = some 1 := by kernel_rfl
theorem Try.g143 : agg? Try.prog 143 = some false := by kernel_rfl
theorem Try.z143 : zeros? Try.prog 143 = some [.nilFunc] := by kernel_rfl
theorem Try.c144 : cells? Try.prog 144 = some 1 := by kernel_rfl
theorem Try.g144 : agg? Try.prog 144 = some false := by kernel_rfl
theorem Try.z144 : zeros? Try.prog 144 = some [.nilFunc] := by kernel_rfl
theorem Try.c145 : cells? Try.prog 145 = some 1 := by kernel_rfl
theorem Try.g145 : agg? Try.prog 145 = some false := by kernel_rfl
theorem Try.z145 : zeros? Try.prog 145 = some [.nilFunc] := by kernel_rfl
theorem Try.c146 : cells? Try.prog 146 = some 1 := by kernel_rfl
theorem Try.g146 : agg? Try.prog 146 = some false := by kernel_rfl
theorem Try.z146 : zeros? Try.prog 146 = some [.nilFunc] := by kernel_rfl
theorem Try.c147 : cells? Try.prog 147 = some 1 := by kernel_rfl
theorem Try.g147 : agg? Try.prog 147 = some false := by kernel_rfl
theorem Try.z147 : zeros? Try.prog 147 = some [.nilFunc] := by kernel_rfl
theorem Try.c148 : cells? Try.prog 148 = some 1 := by kernel_rfl
theorem Try.g148 : agg? Try.prog 148 = some false := by kernel_rfl
theorem Try.z148 : zeros? Try.prog 148 = some [.nilFunc] := by kernel_rfl
theorem Try.c149 : cells? Try.prog 149 = some 1 := by kernel_rfl
theorem Try.g149 : agg? Try.prog 149 = some false := by kernel_rfl
theorem Try.z149 : zeros? Try.prog 149 = some [.int .u64 0] := by kernel_rfl
theorem Try.c150 : cells? Try.prog 150 = some 1 := by kernel_rfl
theorem Try.g150 : agg? Try.prog 150 = some false := by kernel_rfl
theorem Try.z150 : zeros? Try.prog 150 = some [.nilFunc] := by kernel_rfl
theorem Try.c151 : cells? Try.prog 151 = some 1 := by kernel_rfl
theorem Try.g151 : agg? Try.prog 151 = some false := by kernel_rfl
theorem Try.z151 : zeros? Try.prog 151 = some [.nilFunc] := by kernel_rfl
theorem Try.c152 : cells? Try.prog 152 = some 1 := by kernel_rfl
theorem Try.g152 : agg? Try.prog 152 = some false := by kernel_rfl
theorem Try.z152 : zeros? Try.prog 152 = some [.nilFunc] := by kernel_rfl
theorem Try.c153 : cells? Try.prog 153 = some 1 := by kernel_rfl
theorem Try.g153 : agg? Try.prog 153 = some false := by kernel_rfl
theorem Try.z153 : zeros? Try.prog 153 = some [.pointer none] := by kernel_rfl
theorem Try.c154 : cells? Try.prog 154 = some 1 := by kernel_rfl
theorem Try.g154 : agg? Try.prog 154 = some false := by kernel_rfl
theorem Try.z154 : zeros? Try.prog 154 = some [.nilFunc] := by kernel_rfl
theorem Try.c155 : cells? Try.prog 155 = some 1 := by kernel_rfl
theorem Try.g155 : agg? Try.prog 155 = some false := by kernel_rfl
theorem Try.z155 : zeros? Try.prog 155 = some [.nilFunc] := by kernel_rfl
theorem Try.c156 : cells? Try.prog 156 = some 1 := by kernel_rfl
theorem Try.g156 : agg? Try.prog 156 = some false := by kernel_rfl
theorem Try.z156 : zeros? Try.prog 156 = some [.nilFunc] := by kernel_rfl
theorem Try.c157 : cells? Try.prog 157 = some 1 := by kernel_rfl
theorem Try.g157 : agg? Try.prog 157 = some false := by kernel_rfl
theorem Try.z157 : zeros? Try.prog 157 = some [.pointer none] := by kernel_rfl
theorem Try.c159 : cells? Try.prog 159 = some 1 := by kernel_rfl
theorem Try.g159 : agg? Try.prog 159 = some false := by kernel_rfl
theorem Try.z159 : zeros? Try.prog 159 = some [.nilFunc] := by kernel_rfl
theorem Try.c160 : cells? Try.prog 160 = some 1 := by kernel_rfl
theorem Try.g160 : agg? Try.prog 160 = some false := by kernel_rfl
theorem Try.z160 : zeros? Try.prog 160 = some [.nilFunc] := by kernel_rfl
theorem Try.c161 : cells? Try.prog 161 = some 1 := by kernel_rfl
theorem Try.g161 : agg? Try.prog 161 = some false := by kernel_rfl
theorem Try.z161 : zeros? Try.prog 161 = some [.nilFunc] := by kernel_rfl
theorem Try.c162 : cells? Try.prog 162 = some 4 := by kernel_rfl
theorem Try.g162 : agg? Try.prog 162 = some true := by kernel_rfl
theorem Try.fd162_0 : field? Try.prog 162 0 = some (0, 17) := by kernel_rfl
theorem Try.fd162_1 : field? Try.prog 162 1 = some (1, 17) := by kernel_rfl
theorem Try.fd162_2 : field? Try.prog 162 2 = some (2, 17) := by kernel_rfl
theorem Try.fd162_3 : field? Try.prog 162 3 = some (3, 9) := by kernel_rfl
theorem Try.pl162 : places? Try.prog 162 = some [(0, 1), (1, 1), (2, 1), (3, 1)] := by kernel_rfl
theorem Try.z162 : zeros? Try.prog 162 = some [.pointer none, .pointer none, .pointer none, .string ⟨#[]⟩] := by kernel_rfl
theorem Try.c163 : cells? Try.prog 163 = some 4 := by kernel_rfl
theorem Try.g163 : agg? Try.prog 163 = some true := by kernel_rfl
theorem Try.fd163_0 : field? Try.prog 163 0 = some (0, 17) := by kernel_rfl
theorem Try.fd163_1 : field? Try.prog 163 1 = some (1, 17) := by kernel_rfl
theorem Try.fd163_2 : field? Try.prog 163 2 = some (2, 17) := by kernel_rfl
theorem Try.fd163_3 : field? Try.prog 163 3 = some (3, 9) := by kernel_rfl
theorem Try.pl163 : places? Try.prog 163 = some [(0, 1), (1, 1), (2, 1), (3, 1)] := by kernel_rfl
theorem Try.z163 : zeros? Try.prog 163 = some [.pointer none, .pointer none, .pointer none, .string ⟨#[]⟩] := by kernel_rfl
theorem Try.c165 : cells? Try.prog 165 = some 0 := by kernel_rfl
theorem Try.g165 : agg? Try.prog 165 = some true := by kernel_rfl
theorem Try.fd165_0 : field? Try.prog 165 0 = some (0, 164) := by kernel_rfl
theorem Try.pl165 : places? Try.prog 165 = some [(0, 0)] := by kernel_rfl
theorem Try.c166 : cells? Try.prog 166 = some 0 := by kernel_rfl
theorem Try.g166 : agg? Try.prog 166 = some true := by kernel_rfl
theorem Try.fd166_0 : field? Try.prog 166 0 = some (0, 164) := by kernel_rfl
theorem Try.pl166 : places? Try.prog 166 = some [(0, 0)] := by kernel_rfl
theorem Try.c167 : cells? Try.prog 167 = some 1 := by kernel_rfl
theorem Try.g167 : agg? Try.prog 167 = some false := by kernel_rfl
theorem Try.z167 : zeros? Try.prog 167 = some [.nilFunc] := by kernel_rfl
theorem Try.c168 : cells? Try.prog 168 = some 1 := by kernel_rfl
theorem Try.g168 : agg? Try.prog 168 = some false := by kernel_rfl
theorem Try.z168 : zeros? Try.prog 168 = some [.int .u8 0] := by kernel_rfl
theorem Try.c169 : cells? Try.prog 169 = some 1 := by kernel_rfl
theorem Try.g169 : agg? Try.prog 169 = some false := by kernel_rfl
theorem Try.z169 : zeros? Try.prog 169 = some [.int .u8 0] := by kernel_rfl
theorem Try.c170 : cells? Try.prog 170 = some 1 := by kernel_rfl
theorem Try.g170 : agg? Try.prog 170 = some false := by kernel_rfl
theorem Try.z170 : zeros? Try.prog 170 = some [.nilFunc] := by kernel_rfl
theorem Try.c171 : cells? Try.prog 171 = some 1 := by kernel_rfl
theorem Try.g171 : agg? Try.prog 171 = some false := by kernel_rfl
theorem Try.z171 : zeros? Try.prog 171 = some [.pointer none] := by kernel_rfl
theorem Try.c172 : cells? Try.prog 172 = some 1 := by kernel_rfl
theorem Try.g172 : agg? Try.prog 172 = some false := by kernel_rfl
theorem Try.z172 : zeros? Try.prog 172 = some [.int .i32 0] := by kernel_rfl
theorem Try.c173 : cells? Try.prog 173 = some 1 := by kernel_rfl
theorem Try.g173 : agg? Try.prog 173 = some false := by kernel_rfl
theorem Try.z173 : zeros? Try.prog 173 = some [.int .i32 0] := by kernel_rfl
theorem Try.c174 : cells? Try.prog 174 = some 11 := by kernel_rfl
theorem Try.g174 : agg? Try.prog 174 = some true := by kernel_rfl
theorem Try.fd174_0 : field? Try.prog 174 0 = some (0, 12) := by kernel_rfl
theorem Try.fd174_1 : field? Try.prog 174 1 = some (1, 12) := by kernel_rfl
theorem Try.fd174_2 : field? Try.prog 174 2 = some (2, 139) := by kernel_rfl
theorem Try.fd174_3 : field? Try.prog 174 3 = some (3, 168) := by kernel_rfl
theorem Try.fd174_4 : field? Try.prog 174 4 = some (4, 5) := by kernel_rfl
theorem Try.fd174_5 : field? Try.prog 174 5 = some (5, 5) := by kernel_rfl
theorem Try.fd174_6 : field? Try.prog 174 6 = some (6, 169) := by kernel_rfl
theorem Try.fd174_7 : field? Try.prog 174 7 = some (7, 170) := by kernel_rfl
theorem Try.fd174_8 : field? Try.prog 174 8 = some (8, 171) := by kernel_rfl
theorem Try.fd174_9 : field? Try.prog 174 9 = some (9, 172) := by kernel_rfl
theorem Try.fd174_10 : field? Try.prog 174 10 = some (10, 173) := by kernel_rfl
theorem Try.pl174 : places? Try.prog 174 = some [(0, 1), (1, 1), (2, 1), (3, 1), (4, 1), (5, 1), (6, 1), (7, 1), (8, 1), (9, 1), (10, 1)] := by kernel_rfl
theorem Try.z174 : zeros? Try.prog 174 = some [.int .u64 0, .int .u64 0, .int .u32 0, .int .u8 0, .int .u8 0, .int .u8 0, .int .u8 0, .nilFunc, .pointer none, .int .i32 0, .int .i32 0] := by kernel_rfl
theorem Try.c175 : cells? Try.prog 175 = some 11 := by kernel_rfl
theorem Try.g175 : agg? Try.prog 175 = some true := by kernel_rfl
theorem Try.fd175_0 : field? Try.prog 175 0 = some (0, 12) := by kernel_rfl
theorem Try.fd175_1 : field? Try.prog 175 1 = some (1, 12) := by kernel_rfl
theorem Try.fd175_2 : field? Try.prog 175 2 = some (2, 139) := by kernel_rfl
theorem Try.fd175_3 : field? Try.prog 175 3 = some (3, 168) := by kernel_rfl
theorem Try.fd175_4 : field? Try.prog 175 4 = some (4, 5) := by kernel_rfl
theorem Try.fd175_5 : field? Try.prog 175 5 = some (5, 5) := by kernel_rfl
theorem Try.fd175_6 : field? Try.prog 175 6 = some (6, 169) := by kernel_rfl
theorem Try.fd175_7 : field? Try.prog 175 7 = some (7, 170) := by kernel_rfl
theorem Try.fd175_8 : field? Try.prog 175 8 = some (8, 171) := by kernel_rfl
theorem Try.fd175_9 : field? Try.prog 175 9 = some (9, 172) := by kernel_rfl
theorem Try.fd175_10 : field? Try.prog 175 10 = some (10, 173) := by kernel_rfl
theorem Try.pl175 : places? Try.prog 175 = some [(0, 1), (1, 1), (2, 1), (3, 1), (4, 1), (5, 1), (6, 1), (7, 1), (8, 1), (9, 1), (10, 1)] := by kernel_rfl
theorem Try.z175 : zeros? Try.prog 175 = some [.int .u64 0, .int .u64 0, .int .u32 0, .int .u8 0, .int .u8 0, .int .u8 0, .int .u8 0, .nilFunc, .pointer none, .int .i32 0, .int .i32 0] := by kernel_rfl
theorem Try.c176 : cells? Try.prog 176 = some 1 := by kernel_rfl
theorem Try.g176 : agg? Try.prog 176 = some false := by kernel_rfl
theorem Try.z176 : zeros? Try.prog 176 = some [.pointer none] := by kernel_rfl
theorem Try.ent3 : ∀ args w, (callFunc 3 args).run Try.prog w = .ok (.enter 3 args) w := enters_of Try.func3 (by kernel_rfl) rfl
theorem Try.ent4 : ∀ args w, (callFunc 4 args).run Try.prog w = .ok (.enter 4 args) w := enters_of Try.func4 (by kernel_rfl) rfl
theorem Try.ent5 : ∀ args w, (callFunc 5 args).run Try.prog w = .ok (.enter 5 args) w := enters_of Try.func5 (by kernel_rfl) rfl
theorem Try.ent6 : ∀ args w, (callFunc 6 args).run Try.prog w = .ok (.enter 6 args) w := enters_of Try.func6 (by kernel_rfl) rfl
theorem Try.ent7 : ∀ args w, (callFunc 7 args).run Try.prog w = .ok (.enter 7 args) w := enters_of Try.func7 (by kernel_rfl) rfl
theorem Try.ent8 : ∀ args w, (callFunc 8 args).run Try.prog w = .ok (.enter 8 args) w := enters_of Try.func8 (by kernel_rfl) rfl
theorem Try.ent9 : ∀ args w, (callFunc 9 args).run Try.prog w = .ok (.enter 9 args) w := enters_of Try.func9 (by kernel_rfl) rfl
theorem Try.ent10 : ∀ args w, (callFunc 10 args).run Try.prog w = .ok (.enter 10 args) w := enters_of Try.func10 (by kernel_rfl) rfl
theorem Try.ent11 : ∀ args w, (callFunc 11 args).run Try.prog w = .ok (.enter 11 args) w := enters_of Try.func11 (by kernel_rfl) rfl
theorem Try.ent12 : ∀ args w, (callFunc 12 args).run Try.prog w = .ok (.enter 12 args) w := enters_of Try.func12 (by kernel_rfl) rfl
theorem Try.ent13 : ∀ args w, (callFunc 13 args).run Try.prog w = .ok (.enter 13 args) w := enters_of Try.func13 (by kernel_rfl) rfl
theorem Try.ent14 : ∀ args w, (callFunc 14 args).run Try.prog w = .ok (.enter 14 args) w := enters_of Try.func14 (by kernel_rfl) rfl
theorem Try.ent15 : ∀ args w, (callFunc 15 args).run Try.prog w = .ok (.enter 15 args) w := enters_of Try.func15 (by kernel_rfl) rfl
theorem Try.ent16 : ∀ args w, (callFunc 16 args).run Try.prog w = .ok (.enter 16 args) w := enters_of Try.func16 (by kernel_rfl) rfl
theorem Try.ent17 : ∀ args w, (callFunc 17 args).run Try.prog w = .ok (.enter 17 args) w := enters_of Try.func17 (by kernel_rfl) rfl
theorem Try.ent18 : ∀ args w, (callFunc 18 args).run Try.prog w = .ok (.enter 18 args) w := enters_of Try.func18 (by kernel_rfl) rfl
theorem Try.ent19 : ∀ args w, (callFunc 19 args).run Try.prog w = .ok (.enter 19 args) w := enters_of Try.func19 (by kernel_rfl) rfl
theorem Try.ent20 : ∀ args w, (callFunc 20 args).run Try.prog w = .ok (.enter 20 args) w := enters_of Try.func20 (by kernel_rfl) rfl
theorem Try.ent21 : ∀ args w, (callFunc 21 args).run Try.prog w = .ok (.enter 21 args) w := enters_of Try.func21 (by kernel_rfl) rfl
theorem Try.ent22 : ∀ args w, (callFunc 22 args).run Try.prog w = .ok (.enter 22 args) w := enters_of Try.func22 (by kernel_rfl) rfl
theorem Try.ent23 : ∀ args w, (callFunc 23 args).run Try.prog w = .ok (.enter 23 args) w := enters_of Try.func23 (by kernel_rfl) rfl
theorem Try.ent24 : ∀ args w, (callFunc 24 args).run Try.prog w = .ok (.enter 24 args) w := enters_of Try.func24 (by kernel_rfl) rfl
theorem Try.ent25 : ∀ args w, (callFunc 25 args).run Try.prog w = .ok (.enter 25 args) w := enters_of Try.func25 (by kernel_rfl) rfl
theorem Try.ent26 : ∀ args w, (callFunc 26 args).run Try.prog w = .ok (.enter 26 args) w := enters_of Try.func26 (by kernel_rfl) rfl
theorem Try.ent27 : ∀ args w, (callFunc 27 args).run Try.prog w = .ok (.enter 27 args) w := enters_of Try.func27 (by kernel_rfl) rfl
theorem Try.ent28 : ∀ args w, (callFunc 28 args).run Try.prog w = .ok (.enter 28 args) w := enters_of Try.func28 (by kernel_rfl) rfl
theorem Try.ent29 : ∀ args w, (callFunc 29 args).run Try.prog w = .ok (.enter 29 args) w := enters_of Try.func29 (by kernel_rfl) rfl
theorem Try.ent30 : ∀ args w, (callFunc 30 args).run Try.prog w = .ok (.enter 30 args) w := enters_of Try.func30 (by kernel_rfl) rfl
theorem Try.ent31 : ∀ args w, (callFunc 31 args).run Try.prog w = .ok (.enter 31 args) w := enters_of Try.func31 (by kernel_rfl) rfl
theorem Try.ent32 : ∀ args w, (callFunc 32 args).run Try.prog w = .ok (.enter 32 args) w := enters_of Try.func32 (by kernel_rfl) rfl
theorem Try.ent33 : ∀ args w, (callFunc 33 args).run Try.prog w = .ok (.enter 33 args) w := enters_of Try.func33 (by kernel_rfl) rfl
theorem Try.ent34 : ∀ args w, (callFunc 34 args).run Try.prog w = .ok (.enter 34 args) w := enters_of Try.func34 (by kernel_rfl) rfl
theorem Try.ent35 : ∀ args w, (callFunc 35 args).run Try.prog w = .ok (.enter 35 args) w := enters_of Try.func35 (by kernel_rfl) rfl
theorem Try.ent36 : ∀ args w, (callFunc 36 args).run Try.prog w = .ok (.enter 36 args) w := enters_of Try.func36 (by kernel_rfl) rfl
theorem Try.ent37 : ∀ args w, (callFunc 37 args).run Try.prog w = .ok (.enter 37 args) w := enters_of Try.func37 (by kernel_rfl) rfl
theorem Try.ent38 : ∀ args w, (callFunc 38 args).run Try.prog w = .ok (.enter 38 args) w := enters_of Try.func38 (by kernel_rfl) rfl
theorem Try.ent39 : ∀ args w, (callFunc 39 args).run Try.prog w = .ok (.enter 39 args) w := enters_of Try.func39 (by kernel_rfl) rfl
theorem Try.ent40 : ∀ args w, (callFunc 40 args).run Try.prog w = .ok (.enter 40 args) w := enters_of Try.func40 (by kernel_rfl) rfl
theorem Try.ent41 : ∀ args w, (callFunc 41 args).run Try.prog w = .ok (.enter 41 args) w := enters_of Try.func41 (by kernel_rfl) rfl
theorem Try.ent42 : ∀ args w, (callFunc 42 args).run Try.prog w = .ok (.enter 42 args) w := enters_of Try.func42 (by kernel_rfl) rfl
theorem Try.ent43 : ∀ args w, (callFunc 43 args).run Try.prog w = .ok (.enter 43 args) w := enters_of Try.func43 (by kernel_rfl) rfl
theorem Try.ent44 : ∀ args w, (callFunc 44 args).run Try.prog w = .ok (.enter 44 args) w := enters_of Try.func44 (by kernel_rfl) rfl
theorem Try.ent45 : ∀ args w, (callFunc 45 args).run Try.prog w = .ok (.enter 45 args) w := enters_of Try.func45 (by kernel_rfl) rfl
theorem Try.ent46 : ∀ args w, (callFunc 46 args).run Try.prog w = .ok (.enter 46 args) w := enters_of Try.func46 (by kernel_rfl) rfl
theorem Try.ent47 : ∀ args w, (callFunc 47 args).run Try.prog w = .ok (.enter 47 args) w := enters_of Try.func47 (by kernel_rfl) rfl
theorem Try.ent48 : ∀ args w, (callFunc 48 args).run Try.prog w = .ok (.enter 48 args) w := enters_of Try.func48 (by kernel_rfl) rfl
theorem Try.ent49 : ∀ args w, (callFunc 49 args).run Try.prog w = .ok (.enter 49 args) w := enters_of Try.func49 (by kernel_rfl) rfl
theorem Try.ent50 : ∀ args w, (callFunc 50 args).run Try.prog w = .ok (.enter 50 args) w := enters_of Try.func50 (by kernel_rfl) rfl
theorem Try.ent51 : ∀ args w, (callFunc 51 args).run Try.prog w = .ok (.enter 51 args) w := enters_of Try.func51 (by kernel_rfl) rfl
theorem Try.ent52 : ∀ args w, (callFunc 52 args).run Try.prog w = .ok (.enter 52 args) w := enters_of Try.func52 (by kernel_rfl) rfl
theorem Try.ent53 : ∀ args w, (callFunc 53 args).run Try.prog w = .ok (.enter 53 args) w := enters_of Try.func53 (by kernel_rfl) rfl
theorem Try.ent54 : ∀ args w, (callFunc 54 args).run Try.prog w = .ok (.enter 54 args) w := enters_of Try.func54 (by kernel_rfl) rfl
theorem Try.ent55 : ∀ args w, (callFunc 55 args).run Try.prog w = .ok (.enter 55 args) w := enters_of Try.func55 (by kernel_rfl) rfl
theorem Try.ent56 : ∀ args w, (callFunc 56 args).run Try.prog w = .ok (.enter 56 args) w := enters_of Try.func56 (by kernel_rfl) rfl
theorem Try.ent57 : ∀ args w, (callFunc 57 args).run Try.prog w = .ok (.enter 57 args) w := enters_of Try.func57 (by kernel_rfl) rfl
theorem Try.ent58 : ∀ args w, (callFunc 58 args).run Try.prog w = .ok (.enter 58 args) w := enters_of Try.func58 (by kernel_rfl) rfl
theorem Try.ent59 : ∀ args w, (callFunc 59 args).run Try.prog w = .ok (.enter 59 args) w := enters_of Try.func59 (by kernel_rfl) rfl
theorem Try.ent60 : ∀ args w, (callFunc 60 args).run Try.prog w = .ok (.enter 60 args) w := enters_of Try.func60 (by kernel_rfl) rfl
theorem Try.ent61 : ∀ args w, (callFunc 61 args).run Try.prog w = .ok (.enter 61 args) w := enters_of Try.func61 (by kernel_rfl) rfl
theorem Try.ent62 : ∀ args w, (callFunc 62 args).run Try.prog w = .ok (.enter 62 args) w := enters_of Try.func62 (by kernel_rfl) rfl
theorem Try.ent63 : ∀ args w, (callFunc 63 args).run Try.prog w = .ok (.enter 63 args) w := enters_of Try.func63 (by kernel_rfl) rfl
theorem Try.ent64 : ∀ args w, (callFunc 64 args).run Try.prog w = .ok (.enter 64 args) w := enters_of Try.func64 (by kernel_rfl) rfl
theorem Try.ent65 : ∀ args w, (callFunc 65 args).run Try.prog w = .ok (.enter 65 args) w := enters_of Try.func65 (by kernel_rfl) rfl
theorem Try.ent66 : ∀ args w, (callFunc 66 args).run Try.prog w = .ok (.enter 66 args) w := enters_of Try.func66 (by kernel_rfl) rfl
theorem Try.ent67 : ∀ args w, (callFunc 67 args).run Try.prog w = .ok (.enter 67 args) w := enters_of Try.func67 (by kernel_rfl) rfl
theorem Try.ent68 : ∀ args w, (callFunc 68 args).run Try.prog w = .ok (.enter 68 args) w := enters_of Try.func68 (by kernel_rfl) rfl
theorem Try.ent69 : ∀ args w, (callFunc 69 args).run Try.prog w = .ok (.enter 69 args) w := enters_of Try.func69 (by kernel_rfl) rfl
theorem Try.ent70 : ∀ args w, (callFunc 70 args).run Try.prog w = .ok (.enter 70 args) w := enters_of Try.func70 (by kernel_rfl) rfl
theorem Try.ent71 : ∀ args w, (callFunc 71 args).run Try.prog w = .ok (.enter 71 args) w := enters_of Try.func71 (by kernel_rfl) rfl
theorem Try.ent72 : ∀ args w, (callFunc 72 args).run Try.prog w = .ok (.enter 72 args) w := enters_of Try.func72 (by kernel_rfl) rfl
theorem Try.ent73 : ∀ args w, (callFunc 73 args).run Try.prog w = .ok (.enter 73 args) w := enters_of Try.func73 (by kernel_rfl) rfl
theorem Try.ent74 : ∀ args w, (callFunc 74 args).run Try.prog w = .ok (.enter 74 args) w := enters_of Try.func74 (by kernel_rfl) rfl
theorem Try.ent75 : ∀ args w, (callFunc 75 args).run Try.prog w = .ok (.enter 75 args) w := enters_of Try.func75 (by kernel_rfl) rfl
theorem Try.ent76 : ∀ args w, (callFunc 76 args).run Try.prog w = .ok (.enter 76 args) w := enters_of Try.func76 (by kernel_rfl) rfl
theorem Try.ent77 : ∀ args w, (callFunc 77 args).run Try.prog w = .ok (.enter 77 args) w := enters_of Try.func77 (by kernel_rfl) rfl
theorem Try.ent78 : ∀ args w, (callFunc 78 args).run Try.prog w = .ok (.enter 78 args) w := enters_of Try.func78 (by kernel_rfl) rfl
theorem Try.ent79 : ∀ args w, (callFunc 79 args).run Try.prog w = .ok (.enter 79 args) w := enters_of Try.func79 (by kernel_rfl) rfl
theorem Try.ent80 : ∀ args w, (callFunc 80 args).run Try.prog w = .ok (.enter 80 args) w := enters_of Try.func80 (by kernel_rfl) rfl
theorem Try.ent81 : ∀ args w, (callFunc 81 args).run Try.prog w = .ok (.enter 81 args) w := enters_of Try.func81 (by kernel_rfl) rfl
theorem Try.ent82 : ∀ args w, (callFunc 82 args).run Try.prog w = .ok (.enter 82 args) w := enters_of Try.func82 (by kernel_rfl) rfl
theorem Try.ent83 : ∀ args w, (callFunc 83 args).run Try.prog w = .ok (.enter 83 args) w := enters_of Try.func83 (by kernel_rfl) rfl
theorem Try.ent84 : ∀ args w, (callFunc 84 args).run Try.prog w = .ok (.enter 84 args) w := enters_of Try.func84 (by kernel_rfl) rfl
theorem Try.ent85 : ∀ args w, (callFunc 85 args).run Try.prog w = .ok (.enter 85 args) w := enters_of Try.func85 (by kernel_rfl) rfl
theorem Try.ent86 : ∀ args w, (callFunc 86 args).run Try.prog w = .ok (.enter 86 args) w := enters_of Try.func86 (by kernel_rfl) rfl
theorem Try.ent87 : ∀ args w, (callFunc 87 args).run Try.prog w = .ok (.enter 87 args) w := enters_of Try.func87 (by kernel_rfl) rfl
theorem Try.ent88 : ∀ args w, (callFunc 88 args).run Try.prog w = .ok (.enter 88 args) w := enters_of Try.func88 (by kernel_rfl) rfl
theorem Try.ent89 : ∀ args w, (callFunc 89 args).run Try.prog w = .ok (.enter 89 args) w := enters_of Try.func89 (by kernel_rfl) rfl
theorem Try.ent90 : ∀ args w, (callFunc 90 args).run Try.prog w = .ok (.enter 90 args) w := enters_of Try.func90 (by kernel_rfl) rfl
theorem Try.ent91 : ∀ args w, (callFunc 91 args).run Try.prog w = .ok (.enter 91 args) w := enters_of Try.func91 (by kernel_rfl) rfl
theorem Try.ent92 : ∀ args w, (callFunc 92 args).run Try.prog w = .ok (.enter 92 args) w := enters_of Try.func92 (by kernel_rfl) rfl
theorem Try.ent93 : ∀ args w, (callFunc 93 args).run Try.prog w = .ok (.enter 93 args) w := enters_of Try.func93 (by kernel_rfl) rfl
theorem Try.ent94 : ∀ args w, (callFunc 94 args).run Try.prog w = .ok (.enter 94 args) w := enters_of Try.func94 (by kernel_rfl) rfl
theorem Try.ent95 : ∀ args w, (callFunc 95 args).run Try.prog w = .ok (.enter 95 args) w := enters_of Try.func95 (by kernel_rfl) rfl
theorem Try.ent96 : ∀ args w, (callFunc 96 args).run Try.prog w = .ok (.enter 96 args) w := enters_of Try.func96 (by kernel_rfl) rfl
theorem Try.ent97 : ∀ args w, (callFunc 97 args).run Try.prog w = .ok (.enter 97 args) w := enters_of Try.func97 (by kernel_rfl) rfl
theorem Try.ent98 : ∀ args w, (callFunc 98 args).run Try.prog w = .ok (.enter 98 args) w := enters_of Try.func98 (by kernel_rfl) rfl
theorem Try.ent99 : ∀ args w, (callFunc 99 args).run Try.prog w = .ok (.enter 99 args) w := enters_of Try.func99 (by kernel_rfl) rfl
theorem Try.ent100 : ∀ args w, (callFunc 100 args).run Try.prog w = .ok (.enter 100 args) w := enters_of Try.func100 (by kernel_rfl) rfl
theorem Try.ent101 : ∀ args w, (callFunc 101 args).run Try.prog w = .ok (.enter 101 args) w := enters_of Try.func101 (by kernel_rfl) rfl
theorem Try.ent102 : ∀ args w, (callFunc 102 args).run Try.prog w = .ok (.enter 102 args) w := enters_of Try.func102 (by kernel_rfl) rfl
theorem Try.ent103 : ∀ args w, (callFunc 103 args).run Try.prog w = .ok (.enter 103 args) w := enters_of Try.func103 (by kernel_rfl) rfl
theorem Try.ent104 : ∀ args w, (callFunc 104 args).run Try.prog w = .ok (.enter 104 args) w := enters_of Try.func104 (by kernel_rfl) rfl
theorem Try.ent105 : ∀ args w, (callFunc 105 args).run Try.prog w = .ok (.enter 105 args) w := enters_of Try.func105 (by kernel_rfl) rfl
theorem Try.ent106 : ∀ args w, (callFunc 106 args).run Try.prog w = .ok (.enter 106 args) w := enters_of Try.func106 (by kernel_rfl) rfl
theorem Try.ent107 : ∀ args w, (callFunc 107 args).run Try.prog w = .ok (.enter 107 args) w := enters_of Try.func107 (by kernel_rfl) rfl
theorem Try.ent108 : ∀ args w, (callFunc 108 args).run Try.prog w = .ok (.enter 108 args) w := enters_of Try.func108 (by kernel_rfl) rfl
theorem Try.ent109 : ∀ args w, (callFunc 109 args).run Try.prog w = .ok (.enter 109 args) w := enters_of Try.func109 (by kernel_rfl) rfl
theorem Try.ent110 : ∀ args w, (callFunc 110 args).run Try.prog w = .ok (.enter 110 args) w := enters_of Try.func110 (by kernel_rfl) rfl
theorem Try.ent111 : ∀ args w, (callFunc 111 args).run Try.prog w = .ok (.enter 111 args) w := enters_of Try.func111 (by kernel_rfl) rfl
theorem Try.ent112 : ∀ args w, (callFunc 112 args).run Try.prog w = .ok (.enter 112 args) w := enters_of Try.func112 (by kernel_rfl) rfl
theorem Try.ent113 : ∀ args w, (callFunc 113 args).run Try.prog w = .ok (.enter 113 args) w := enters_of Try.func113 (by kernel_rfl) rfl
theorem Try.ent114 : ∀ args w, (callFunc 114 args).run Try.prog w = .ok (.enter 114 args) w := enters_of Try.func114 (by kernel_rfl) rfl
theorem Try.ent115 : ∀ args w, (callFunc 115 args).run Try.prog w = .ok (.enter 115 args) w := enters_of Try.func115 (by kernel_rfl) rfl
theorem Try.ent116 : ∀ args w, (callFunc 116 args).run Try.prog w = .ok (.enter 116 args) w := enters_of Try.func116 (by kernel_rfl) rfl
theorem Try.ent117 : ∀ args w, (callFunc 117 args).run Try.prog w = .ok (.enter 117 args) w := enters_of Try.func117 (by kernel_rfl) rfl
theorem Try.ent118 : ∀ args w, (callFunc 118 args).run Try.prog w = .ok (.enter 118 args) w := enters_of Try.func118 (by kernel_rfl) rfl
theorem Try.ent119 : ∀ args w, (callFunc 119 args).run Try.prog w = .ok (.enter 119 args) w := enters_of Try.func119 (by kernel_rfl) rfl
theorem Try.ent120 : ∀ args w, (callFunc 120 args).run Try.prog w = .ok (.enter 120 args) w := enters_of Try.func120 (by kernel_rfl) rfl
theorem Try.ent121 : ∀ args w, (callFunc 121 args).run Try.prog w = .ok (.enter 121 args) w := enters_of Try.func121 (by kernel_rfl) rfl
theorem Try.ent122 : ∀ args w, (callFunc 122 args).run Try.prog w = .ok (.enter 122 args) w := enters_of Try.func122 (by kernel_rfl) rfl
theorem Try.ent123 : ∀ args w, (callFunc 123 args).run Try.prog w = .ok (.enter 123 args) w := enters_of Try.func123 (by kernel_rfl) rfl
theorem Try.ent124 : ∀ args w, (callFunc 124 args).run Try.prog w = .ok (.enter 124 args) w := enters_of Try.func124 (by kernel_rfl) rfl
theorem Try.ent125 : ∀ args w, (callFunc 125 args).run Try.prog w = .ok (.enter 125 args) w := enters_of Try.func125 (by kernel_rfl) rfl
theorem Try.ent126 : ∀ args w, (callFunc 126 args).run Try.prog w = .ok (.enter 126 args) w := enters_of Try.func126 (by kernel_rfl) rfl
theorem Try.ent127 : ∀ args w, (callFunc 127 args).run Try.prog w = .ok (.enter 127 args) w := enters_of Try.func127 (by kernel_rfl) rfl
theorem Try.ent128 : ∀ args w, (callFunc 128 args).run Try.prog w = .ok (.enter 128 args) w := enters_of Try.func128 (by kernel_rfl) rfl
theorem Try.ent129 : ∀ args w, (callFunc 129 args).run Try.prog w = .ok (.enter 129 args) w := enters_of Try.func129 (by kernel_rfl) rfl
theorem Try.ent130 : ∀ args w, (callFunc 130 args).run Try.prog w = .ok (.enter 130 args) w := enters_of Try.func130 (by kernel_rfl) rfl
theorem Try.ent131 : ∀ args w, (callFunc 131 args).run Try.prog w = .ok (.enter 131 args) w := enters_of Try.func131 (by kernel_rfl) rfl
theorem Try.ent132 : ∀ args w, (callFunc 132 args).run Try.prog w = .ok (.enter 132 args) w := enters_of Try.func132 (by kernel_rfl) rfl
theorem Try.ent133 : ∀ args w, (callFunc 133 args).run Try.prog w = .ok (.enter 133 args) w := enters_of Try.func133 (by kernel_rfl) rfl
theorem Try.ent134 : ∀ args w, (callFunc 134 args).run Try.prog w = .ok (.enter 134 args) w := enters_of Try.func134 (by kernel_rfl) rfl
theorem Try.ent135 : ∀ args w, (callFunc 135 args).run Try.prog w = .ok (.enter 135 args) w := enters_of Try.func135 (by kernel_rfl) rfl
end Go.Proofs.Ytkjniggdldpnoaa
