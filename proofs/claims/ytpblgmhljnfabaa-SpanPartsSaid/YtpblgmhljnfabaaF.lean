import Derived.Test.YtpblgmhljnfabaaRows
import Derived.Test.YtpblgmhljnfabaaQ5
import Derived.Test.YtpblgmhljnfabaaQ7
import Derived.Test.YtpblgmhljnfabaaQ4
import Derived.Test.YtpblgmhljnfabaaB2
import Derived.Shelf.Abstract
set_option linter.unusedVariables false
namespace Go.Proofs.Ytpblgmhljnfabaa
open Go Go.Abs
theorem Try.mixed : Try.prog.follows .mixedOrders = true := by kernel_rfl
theorem Try.c1 : cells? Try.prog 1 = some 1 := by kernel_rfl
theorem Try.g1 : agg? Try.prog 1 = some false := by kernel_rfl
theorem Try.z1 : zeros? Try.prog 1 = some [.nilFunc] := by kernel_rfl
theorem Try.c2 : cells? Try.prog 2 = some 1 := by kernel_rfl
theorem Try.g2 : agg? Try.prog 2 = some false := by kernel_rfl
theorem Try.z2 : zeros? Try.prog 2 = some [.int .i64 0] := by kernel_rfl
theorem Try.c3 : cells? Try.prog 3 = some 1 := by kernel_rfl
theorem Try.g3 : agg? Try.prog 3 = some false := by kernel_rfl
theorem Try.z3 : zeros? Try.prog 3 = some [.int .i64 0] := by kernel_rfl
theorem Try.c4 : cells? Try.prog 4 = some 1 := by kernel_rfl
theorem Try.g4 : agg? Try.prog 4 = some false := by kernel_rfl
theorem Try.z4 : zeros? Try.prog 4 = some [.bool false] := by kernel_rfl
theorem Try.c5 : cells? Try.prog 5 = some 1 := by kernel_rfl
theorem Try.g5 : agg? Try.prog 5 = some false := by kernel_rfl
theorem Try.z5 : zeros? Try.prog 5 = some [.int .u8 0] := by kernel_rfl
theorem Try.c6 : cells? Try.prog 6 = some 1 := by kernel_rfl
theorem Try.g6 : agg? Try.prog 6 = some false := by kernel_rfl
theorem Try.z6 : zeros? Try.prog 6 = some [.int .u8 0] := by kernel_rfl
theorem Try.c7 : cells? Try.prog 7 = some 4 := by kernel_rfl
theorem Try.g7 : agg? Try.prog 7 = some true := by kernel_rfl
theorem Try.fd7_0 : field? Try.prog 7 0 = some (0, 2) := by kernel_rfl
theorem Try.fd7_1 : field? Try.prog 7 1 = some (1, 3) := by kernel_rfl
theorem Try.fd7_2 : field? Try.prog 7 2 = some (2, 4) := by kernel_rfl
theorem Try.fd7_3 : field? Try.prog 7 3 = some (3, 6) := by kernel_rfl
theorem Try.pl7 : places? Try.prog 7 = some [(0, 1), (1, 1), (2, 1), (3, 1)] := by kernel_rfl
theorem Try.z7 : zeros? Try.prog 7 = some [.int .i64 0, .int .i64 0, .bool false, .int .u8 0] := by kernel_rfl
theorem Try.c8 : cells? Try.prog 8 = some 4 := by kernel_rfl
theorem Try.g8 : agg? Try.prog 8 = some true := by kernel_rfl
theorem Try.fd8_0 : field? Try.prog 8 0 = some (0, 2) := by kernel_rfl
theorem Try.fd8_1 : field? Try.prog 8 1 = some (1, 3) := by kernel_rfl
theorem Try.fd8_2 : field? Try.prog 8 2 = some (2, 4) := by kernel_rfl
theorem Try.fd8_3 : field? Try.prog 8 3 = some (3, 6) := by kernel_rfl
theorem Try.pl8 : places? Try.prog 8 = some [(0, 1), (1, 1), (2, 1), (3, 1)] := by kernel_rfl
theorem Try.z8 : zeros? Try.prog 8 = some [.int .i64 0, .int .i64 0, .bool false, .int .u8 0] := by kernel_rfl
theorem Try.c9 : cells? Try.prog 9 = some 1 := by kernel_rfl
theorem Try.g9 : agg? Try.prog 9 = some false := by kernel_rfl
theorem Try.z9 : zeros? Try.prog 9 = some [.string ⟨#[]⟩] := by kernel_rfl
theorem Try.c10 : cells? Try.prog 10 = some 1 := by kernel_rfl
theorem Try.g10 : agg? Try.prog 10 = some false := by kernel_rfl
theorem Try.z10 : zeros? Try.prog 10 = some [.string ⟨#[]⟩] := by kernel_rfl
theorem Try.c11 : cells? Try.prog 11 = some 1 := by kernel_rfl
theorem Try.g11 : agg? Try.prog 11 = some false := by kernel_rfl
theorem Try.z11 : zeros? Try.prog 11 = some [.string ⟨#[]⟩] := by kernel_rfl
theorem Try.c12 : cells? Try.prog 12 = some 1 := by kernel_rfl
theorem Try.g12 : agg? Try.prog 12 = some false := by kernel_rfl
theorem Try.z12 : zeros? Try.prog 12 = some [.int .u64 0] := by kernel_rfl
theorem Try.c13 : cells? Try.prog 13 = some 2 := by kernel_rfl
theorem Try.g13 : agg? Try.prog 13 = some true := by kernel_rfl
theorem Try.fd13_0 : field? Try.prog 13 0 = some (0, 9) := by kernel_rfl
theorem Try.fd13_1 : field? Try.prog 13 1 = some (1, 12) := by kernel_rfl
theorem Try.pl13 : places? Try.prog 13 = some [(0, 1), (1, 1)] := by kernel_rfl
theorem Try.z13 : zeros? Try.prog 13 = some [.string ⟨#[]⟩, .int .u64 0] := by kernel_rfl
theorem Try.c14 : cells? Try.prog 14 = some 2 := by kernel_rfl
theorem Try.g14 : agg? Try.prog 14 = some true := by kernel_rfl
theorem Try.fd14_0 : field? Try.prog 14 0 = some (0, 9) := by kernel_rfl
theorem Try.fd14_1 : field? Try.prog 14 1 = some (1, 12) := by kernel_rfl
theorem Try.pl14 : places? Try.prog 14 = some [(0, 1), (1, 1)] := by kernel_rfl
theorem Try.z14 : zeros? Try.prog 14 = some [.string ⟨#[]⟩, .int .u64 0] := by kernel_rfl
theorem Try.c15 : cells? Try.prog 15 = some 1 := by kernel_rfl
theorem Try.g15 : agg? Try.prog 15 = some false := by kernel_rfl
theorem Try.z15 : zeros? Try.prog 15 = some [.pointer none] := by kernel_rfl
theorem Try.c16 : cells? Try.prog 16 = some 1 := by kernel_rfl
theorem Try.g16 : agg? Try.prog 16 = some false := by kernel_rfl
theorem Try.z16 : zeros? Try.prog 16 = some [.pointer none] := by kernel_rfl
theorem Try.c17 : cells? Try.prog 17 = some 1 := by kernel_rfl
theorem Try.g17 : agg? Try.prog 17 = some false := by kernel_rfl
theorem Try.z17 : zeros? Try.prog 17 = some [.pointer none] := by kernel_rfl
theorem Try.c18 : cells? Try.prog 18 = some 1 := by kernel_rfl
theorem Try.g18 : agg? Try.prog 18 = some true := by kernel_rfl
theorem Try.fd18_0 : field? Try.prog 18 0 = some (0, 17) := by kernel_rfl
theorem Try.pl18 : places? Try.prog 18 = some [(0, 1)] := by kernel_rfl
theorem Try.z18 : zeros? Try.prog 18 = some [.pointer none] := by kernel_rfl
theorem Try.c19 : cells? Try.prog 19 = some 1 := by kernel_rfl
theorem Try.g19 : agg? Try.prog 19 = some true := by kernel_rfl
theorem Try.fd19_0 : field? Try.prog 19 0 = some (0, 17) := by kernel_rfl
theorem Try.pl19 : places? Try.prog 19 = some [(0, 1)] := by kernel_rfl
theorem Try.z19 : zeros? Try.prog 19 = some [.pointer none] := by kernel_rfl
theorem Try.c20 : cells? Try.prog 20 = some 1 := by kernel_rfl
theorem Try.g20 : agg? Try.prog 20 = some false := by kernel_rfl
theorem Try.z20 : zeros? Try.prog 20 = some [.nilIface] := by kernel_rfl
theorem Try.c21 : cells? Try.prog 21 = some 1 := by kernel_rfl
theorem Try.g21 : agg? Try.prog 21 = some false := by kernel_rfl
theorem Try.z21 : zeros? Try.prog 21 = some [.int .i32 0] := by kernel_rfl
theorem Try.c22 : cells? Try.prog 22 = some 2 := by kernel_rfl
theorem Try.g22 : agg? Try.prog 22 = some true := by kernel_rfl
theorem Try.fd22_0 : field? Try.prog 22 0 = some (0, 3) := by kernel_rfl
theorem Try.fd22_1 : field? Try.prog 22 1 = some (1, 3) := by kernel_rfl
theorem Try.pl22 : places? Try.prog 22 = some [(0, 1), (1, 1)] := by kernel_rfl
theorem Try.z22 : zeros? Try.prog 22 = some [.int .i64 0, .int .i64 0] := by kernel_rfl
theorem Try.c23 : cells? Try.prog 23 = some 2 := by kernel_rfl
theorem Try.g23 : agg? Try.prog 23 = some true := by kernel_rfl
theorem Try.q23 : eqT? Try.prog 23 = some (.agg [.int .i64, .int .i64]) := by kernel_rfl
theorem Try.fd23_0 : field? Try.prog 23 0 = some (0, 3) := by kernel_rfl
theorem Try.fd23_1 : field? Try.prog 23 1 = some (1, 3) := by kernel_rfl
theorem Try.pl23 : places? Try.prog 23 = some [(0, 1), (1, 1)] := by kernel_rfl
theorem Try.z23 : zeros? Try.prog 23 = some [.int .i64 0, .int .i64 0] := by kernel_rfl
theorem Try.c24 : cells? Try.prog 24 = some 2 := by kernel_rfl
theorem Try.g24 : agg? Try.prog 24 = some true := by kernel_rfl
theorem Try.q24 : eqT? Try.prog 24 = some (.agg [.int .i64, .int .i64]) := by kernel_rfl
theorem Try.fd24_0 : field? Try.prog 24 0 = some (0, 3) := by kernel_rfl
theorem Try.fd24_1 : field? Try.prog 24 1 = some (1, 3) := by kernel_rfl
theorem Try.pl24 : places? Try.prog 24 = some [(0, 1), (1, 1)] := by kernel_rfl
theorem Try.z24 : zeros? Try.prog 24 = some [.int .i64 0, .int .i64 0] := by kernel_rfl
theorem Try.c25 : cells? Try.prog 25 = some 1 := by kernel_rfl
theorem Try.g25 : agg? Try.prog 25 = some false := by kernel_rfl
theorem Try.z25 : zeros? Try.prog 25 = some [.nilFunc] := by kernel_rfl
theorem Try.c26 : cells? Try.prog 26 = some 1 := by kernel_rfl
theorem Try.g26 : agg? Try.prog 26 = some false := by kernel_rfl
theorem Try.z26 : zeros? Try.prog 26 = some [.nilFunc] := by kernel_rfl
theorem Try.c27 : cells? Try.prog 27 = some 1 := by kernel_rfl
theorem Try.g27 : agg? Try.prog 27 = some false := by kernel_rfl
theorem Try.z27 : zeros? Try.prog 27 = some [.nilFunc] := by kernel_rfl
theorem Try.c28 : cells? Try.prog 28 = some 1 := by kernel_rfl
theorem Try.g28 : agg? Try.prog 28 = some false := by kernel_rfl
theorem Try.z28 : zeros? Try.prog 28 = some [.nilFunc] := by kernel_rfl
theorem Try.c29 : cells? Try.prog 29 = some 1 := by kernel_rfl
theorem Try.g29 : agg? Try.prog 29 = some false := by kernel_rfl
theorem Try.e29 : elem? Try.prog 29 = some 23 := by kernel_rfl
theorem Try.ap29 : appT? Try.prog 29 = some (23, 2, 16) := by kernel_rfl
theorem Try.z29 : zeros? Try.prog 29 = some [.slice none 0 0] := by kernel_rfl
theorem Try.c30 : cells? Try.prog 30 = some 1 := by kernel_rfl
theorem Try.g30 : agg? Try.prog 30 = some false := by kernel_rfl
theorem Try.e30 : elem? Try.prog 30 = some 24 := by kernel_rfl
theorem Try.ap30 : appT? Try.prog 30 = some (24, 2, 16) := by kernel_rfl
theorem Try.z30 : zeros? Try.prog 30 = some [.slice none 0 0] := by kernel_rfl
theorem Try.c31 : cells? Try.prog 31 = some 1 := by kernel_rfl
theorem Try.g31 : agg? Try.prog 31 = some false := by kernel_rfl
theorem Try.z31 : zeros? Try.prog 31 = some [.nilFunc] := by kernel_rfl
theorem Try.c32 : cells? Try.prog 32 = some 1 := by kernel_rfl
theorem Try.g32 : agg? Try.prog 32 = some false := by kernel_rfl
theorem Try.z32 : zeros? Try.prog 32 = some [.nilFunc] := by kernel_rfl
theorem Try.c33 : cells? Try.prog 33 = some 1 := by kernel_rfl
theorem Try.g33 : agg? Try.prog 33 = some false := by kernel_rfl
theorem Try.z33 : zeros? Try.prog 33 = some [.nilFunc] := by kernel_rfl
theorem Try.c34 : cells? Try.prog 34 = some 1 := by kernel_rfl
theorem Try.g34 : agg? Try.prog 34 = some false := by kernel_rfl
theorem Try.z34 : zeros? Try.prog 34 = some [.nilFunc] := by kernel_rfl
theorem Try.c35 : cells? Try.prog 35 = some 1 := by kernel_rfl
theorem Try.g35 : agg? Try.prog 35 = some false := by kernel_rfl
theorem Try.z35 : zeros? Try.prog 35 = some [.nilFunc] := by kernel_rfl
theorem Try.c36 : cells? Try.prog 36 = some 1 := by kernel_rfl
theorem Try.g36 : agg? Try.prog 36 = some false := by kernel_rfl
theorem Try.z36 : zeros? Try.prog 36 = some [.nilFunc] := by kernel_rfl
theorem Try.c37 : cells? Try.prog 37 = some 1 := by kernel_rfl
theorem Try.g37 : agg? Try.prog 37 = some false := by kernel_rfl
theorem Try.e37 : elem? Try.prog 37 = some 29 := by kernel_rfl
theorem Try.ap37 : appT? Try.prog 37 = some (29, 1, 24) := by kernel_rfl
theorem Try.z37 : zeros? Try.prog 37 = some [.slice none 0 0] := by kernel_rfl
theorem Try.c38 : cells? Try.prog 38 = some 1 := by kernel_rfl
theorem Try.g38 : agg? Try.prog 38 = some false := by kernel_rfl
theorem Try.e38 : elem? Try.prog 38 = some 30 := by kernel_rfl
theorem Try.ap38 : appT? Try.prog 38 = some (30, 1, 24) := by kernel_rfl
theorem Try.z38 : zeros? Try.prog 38 = some [.slice none 0 0] := by kernel_rfl
theorem Try.c39 : cells? Try.prog 39 = some 1 := by kernel_rfl
theorem Try.g39 : agg? Try.prog 39 = some false := by kernel_rfl
theorem Try.z39 : zeros? Try.prog 39 = some [.nilFunc] := by kernel_rfl
theorem Try.c40 : cells? Try.prog 40 = some 1 := by kernel_rfl
theorem Try.g40 : agg? Try.prog 40 = some false := by kernel_rfl
theorem Try.z40 : zeros? Try.prog 40 = some [.nilFunc] := by kernel_rfl
theorem Try.c41 : cells? Try.prog 41 = some 1 := by kernel_rfl
theorem Try.g41 : agg? Try.prog 41 = some false := by kernel_rfl
theorem Try.z41 : zeros? Try.prog 41 = some [.nilFunc] := by kernel_rfl
theorem Try.c42 : cells? Try.prog 42 = some 1 := by kernel_rfl
theorem Try.g42 : agg? Try.prog 42 = some false := by kernel_rfl
theorem Try.z42 : zeros? Try.prog 42 = some [.nilFunc] := by kernel_rfl
theorem Try.c43 : cells? Try.prog 43 = some 1 := by kernel_rfl
theorem Try.g43 : agg? Try.prog 43 = some false := by kernel_rfl
theorem Try.z43 : zeros? Try.prog 43 = some [.nilFunc] := by kernel_rfl
theorem Try.c44 : cells? Try.prog 44 = some 1 := by kernel_rfl
theorem Try.g44 : agg? Try.prog 44 = some false := by kernel_rfl
theorem Try.z44 : zeros? Try.prog 44 = some [.nilFunc] := by kernel_rfl
theorem Try.c45 : cells? Try.prog 45 = some 1 := by kernel_rfl
theorem Try.g45 : agg? Try.prog 45 = some false := by kernel_rfl
theorem Try.z45 : zeros? Try.prog 45 = some [.nilFunc] := by kernel_rfl
theorem Try.c46 : cells? Try.prog 46 = some 1 := by kernel_rfl
theorem Try.g46 : agg? Try.prog 46 = some false := by kernel_rfl
theorem Try.z46 : zeros? Try.prog 46 = some [.nilFunc] := by kernel_rfl
theorem Try.c47 : cells? Try.prog 47 = some 1 := by kernel_rfl
theorem Try.g47 : agg? Try.prog 47 = some false := by kernel_rfl
theorem Try.z47 : zeros? Try.prog 47 = some [.nilFunc] := by kernel_rfl
theorem Try.c49 : cells? Try.prog 49 = some 1 := by kernel_rfl
theorem Try.g49 : agg? Try.prog 49 = some false := by kernel_rfl
theorem Try.z49 : zeros? Try.prog 49 = some [.nilFunc] := by kernel_rfl
theorem Try.c50 : cells? Try.prog 50 = some 1 := by kernel_rfl
theorem Try.g50 : agg? Try.prog 50 = some false := by kernel_rfl
theorem Try.z50 : zeros? Try.prog 50 = some [.nilFunc] := by kernel_rfl
theorem Try.c51 : cells? Try.prog 51 = some 1 := by kernel_rfl
theorem Try.g51 : agg? Try.prog 51 = some false := by kernel_rfl
theorem Try.z51 : zeros? Try.prog 51 = some [.nilFunc] := by kernel_rfl
theorem Try.c52 : cells? Try.prog 52 = some 1 := by kernel_rfl
theorem Try.g52 : agg? Try.prog 52 = some false := by kernel_rfl
theorem Try.z52 : zeros? Try.prog 52 = some [.nilFunc] := by kernel_rfl
theorem Try.c53 : cells? Try.prog 53 = some 1 := by kernel_rfl
theorem Try.g53 : agg? Try.prog 53 = some false := by kernel_rfl
theorem Try.z53 : zeros? Try.prog 53 = some [.nilFunc] := by kernel_rfl
theorem Try.c54 : cells? Try.prog 54 = some 1 := by kernel_rfl
theorem Try.g54 : agg? Try.prog 54 = some false := by kernel_rfl
theorem Try.z54 : zeros? Try.prog 54 = some [.nilFunc] := by kernel_rfl
theorem Try.c55 : cells? Try.prog 55 = some 1 := by kernel_rfl
theorem Try.g55 : agg? Try.prog 55 = some false := by kernel_rfl
theorem Try.e55 : elem? Try.prog 55 = some 3 := by kernel_rfl
theorem Try.ap55 : appT? Try.prog 55 = some (3, 1, 8) := by kernel_rfl
theorem Try.z55 : zeros? Try.prog 55 = some [.slice none 0 0] := by kernel_rfl
theorem Try.c56 : cells? Try.prog 56 = some 1 := by kernel_rfl
theorem Try.g56 : agg? Try.prog 56 = some false := by kernel_rfl
theorem Try.z56 : zeros? Try.prog 56 = some [.nilFunc] := by kernel_rfl
theorem Try.c57 : cells? Try.prog 57 = some 1 := by kernel_rfl
theorem Try.g57 : agg? Try.prog 57 = some false := by kernel_rfl
theorem Try.z57 : zeros? Try.prog 57 = some [.nilFunc] := by kernel_rfl
theorem Try.c58 : cells? Try.prog 58 = some 1 := by kernel_rfl
theorem Try.g58 : agg? Try.prog 58 = some false := by kernel_rfl
theorem Try.z58 : zeros? Try.prog 58 = some [.nilFunc] := by kernel_rfl
theorem Try.c59 : cells? Try.prog 59 = some 1 := by kernel_rfl
theorem Try.g59 : agg? Try.prog 59 = some false := by kernel_rfl
theorem Try.z59 : zeros? Try.prog 59 = some [.nilFunc] := by kernel_rfl
theorem Try.c60 : cells? Try.prog 60 = some 1 := by kernel_rfl
theorem Try.g60 : agg? Try.prog 60 = some false := by kernel_rfl
theorem Try.z60 : zeros? Try.prog 60 = some [.nilFunc] := by kernel_rfl
theorem Try.c61 : cells? Try.prog 61 = some 1 := by kernel_rfl
theorem Try.g61 : agg? Try.prog 61 = some false := by kernel_rfl
theorem Try.z61 : zeros? Try.prog 61 = some [.nilFunc] := by kernel_rfl
theorem Try.c62 : cells? Try.prog 62 = some 1 := by kernel_rfl
theorem Try.g62 : agg? Try.prog 62 = some false := by kernel_rfl
theorem Try.z62 : zeros? Try.prog 62 = some [.int .u64 0] := by kernel_rfl
theorem Try.c63 : cells? Try.prog 63 = some 1 := by kernel_rfl
theorem Try.g63 : agg? Try.prog 63 = some false := by kernel_rfl
theorem Try.z63 : zeros? Try.prog 63 = some [.nilFunc] := by kernel_rfl
theorem Try.c64 : cells? Try.prog 64 = some 1 := by kernel_rfl
theorem Try.g64 : agg? Try.prog 64 = some false := by kernel_rfl
theorem Try.z64 : zeros? Try.prog 64 = some [.nilFunc] := by kernel_rfl
theorem Try.c65 : cells? Try.prog 65 = some 1 := by kernel_rfl
theorem Try.g65 : agg? Try.prog 65 = some false := by kernel_rfl
theorem Try.z65 : zeros? Try.prog 65 = some [.nilFunc] := by kernel_rfl
theorem Try.c66 : cells? Try.prog 66 = some 1 := by kernel_rfl
theorem Try.g66 : agg? Try.prog 66 = some false := by kernel_rfl
theorem Try.z66 : zeros? Try.prog 66 = some [.int .i64 0] := by kernel_rfl
theorem Try.c68 : cells? Try.prog 68 = some 1 := by kernel_rfl
theorem Try.g68 : agg? Try.prog 68 = some false := by kernel_rfl
theorem Try.z68 : zeros? Try.prog 68 = some [.nilFunc] := by kernel_rfl
theorem Try.c69 : cells? Try.prog 69 = some 1 := by kernel_rfl
theorem Try.g69 : agg? Try.prog 69 = some false := by kernel_rfl
theorem Try.z69 : zeros? Try.prog 69 = some [.nilFunc] := by kernel_rfl
theorem Try.c70 : cells? Try.prog 70 = some 1 := by kernel_rfl
theorem Try.g70 : agg? Try.prog 70 = some false := by kernel_rfl
theorem Try.z70 : zeros? Try.prog 70 = some [.nilFunc] := by kernel_rfl
theorem Try.c72 : cells? Try.prog 72 = some 1 := by kernel_rfl
theorem Try.g72 : agg? Try.prog 72 = some false := by kernel_rfl
theorem Try.z72 : zeros? Try.prog 72 = some [.nilFunc] := by kernel_rfl
theorem Try.c73 : cells? Try.prog 73 = some 1 := by kernel_rfl
theorem Try.g73 : agg? Try.prog 73 = some false := by kernel_rfl
theorem Try.z73 : zeros? Try.prog 73 = some [.nilFunc] := by kernel_rfl
theorem Try.c74 : cells? Try.prog 74 = some 1 := by kernel_rfl
theorem Try.g74 : agg? Try.prog 74 = some false := by kernel_rfl
theorem Try.z74 : zeros? Try.prog 74 = some [.int .u32 0] := by kernel_rfl
theorem Try.c75 : cells? Try.prog 75 = some 1 := by kernel_rfl
theorem Try.g75 : agg? Try.prog 75 = some false := by kernel_rfl
theorem Try.z75 : zeros? Try.prog 75 = some [.nilFunc] := by kernel_rfl
theorem Try.c76 : cells? Try.prog 76 = some 1 := by kernel_rfl
theorem Try.g76 : agg? Try.prog 76 = some false := by kernel_rfl
theorem Try.z76 : zeros? Try.prog 76 = some [.int .u64 0] := by kernel_rfl
theorem Try.c77 : cells? Try.prog 77 = some 1 := by kernel_rfl
theorem Try.g77 : agg? Try.prog 77 = some false := by kernel_rfl
theorem Try.z77 : zeros? Try.prog 77 = some [.int .u64 0] := by kernel_rfl
theorem Try.c78 : cells? Try.prog 78 = some 1 := by kernel_rfl
theorem Try.g78 : agg? Try.prog 78 = some false := by kernel_rfl
theorem Try.z78 : zeros? Try.prog 78 = some [.nilFunc] := by kernel_rfl
theorem Try.c79 : cells? Try.prog 79 = some 1 := by kernel_rfl
theorem Try.g79 : agg? Try.prog 79 = some false := by kernel_rfl
theorem Try.z79 : zeros? Try.prog 79 = some [.nilFunc] := by kernel_rfl
theorem Try.c80 : cells? Try.prog 80 = some 1 := by kernel_rfl
theorem Try.g80 : agg? Try.prog 80 = some false := by kernel_rfl
theorem Try.z80 : zeros? Try.prog 80 = some [.nilFunc] := by kernel_rfl
theorem Try.c81 : cells? Try.prog 81 = some 1 := by kernel_rfl
theorem Try.g81 : agg? Try.prog 81 = some false := by kernel_rfl
theorem Try.z81 : zeros? Try.prog 81 = some [.pointer none] := by kernel_rfl
theorem Try.c82 : cells? Try.prog 82 = some 1 := by kernel_rfl
theorem Try.g82 : agg? Try.prog 82 = some false := by kernel_rfl
theorem Try.z82 : zeros? Try.prog 82 = some [.nilFunc] := by kernel_rfl
theorem Try.c83 : cells? Try.prog 83 = some 1 := by kernel_rfl
theorem Try.g83 : agg? Try.prog 83 = some false := by kernel_rfl
theorem Try.z83 : zeros? Try.prog 83 = some [.pointer none] := by kernel_rfl
theorem Try.c85 : cells? Try.prog 85 = some 1 := by kernel_rfl
theorem Try.g85 : agg? Try.prog 85 = some false := by kernel_rfl
theorem Try.z85 : zeros? Try.prog 85 = some [.nilFunc] := by kernel_rfl
theorem Try.c86 : cells? Try.prog 86 = some 1 := by kernel_rfl
theorem Try.g86 : agg? Try.prog 86 = some false := by kernel_rfl
theorem Try.z86 : zeros? Try.prog 86 = some [.nilFunc] := by kernel_rfl
theorem Try.c87 : cells? Try.prog 87 = some 4 := by kernel_rfl
theorem Try.g87 : agg? Try.prog 87 = some true := by kernel_rfl
theorem Try.fd87_0 : field? Try.prog 87 0 = some (0, 17) := by kernel_rfl
theorem Try.fd87_1 : field? Try.prog 87 1 = some (1, 17) := by kernel_rfl
theorem Try.fd87_2 : field? Try.prog 87 2 = some (2, 17) := by kernel_rfl
theorem Try.fd87_3 : field? Try.prog 87 3 = some (3, 9) := by kernel_rfl
theorem Try.pl87 : places? Try.prog 87 = some [(0, 1), (1, 1), (2, 1), (3, 1)] := by kernel_rfl
theorem Try.z87 : zeros? Try.prog 87 = some [.pointer none, .pointer none, .pointer none, .string ⟨#[]⟩] := by kernel_rfl
theorem Try.c88 : cells? Try.prog 88 = some 4 := by kernel_rfl
theorem Try.g88 : agg? Try.prog 88 = some true := by kernel_rfl
theorem Try.fd88_0 : field? Try.prog 88 0 = some (0, 17) := by kernel_rfl
theorem Try.fd88_1 : field? Try.prog 88 1 = some (1, 17) := by kernel_rfl
theorem Try.fd88_2 : field? Try.prog 88 2 = some (2, 17) := by kernel_rfl
theorem Try.fd88_3 : field? Try.prog 88 3 = some (3, 9) := by kernel_rfl
theorem Try.pl88 : places? Try.prog 88 = some [(0, 1), (1, 1), (2, 1), (3, 1)] := by kernel_rfl
theorem Try.z88 : zeros? Try.prog 88 = some [.pointer none, .pointer none, .pointer none, .string ⟨#[]⟩] := by kernel_rfl
theorem Try.c90 : cells? Try.prog 90 = some 0 := by kernel_rfl
theorem Try.g90 : agg? Try.prog 90 = some true := by kernel_rfl
theorem Try.fd90_0 : field? Try.prog 90 0 = some (0, 89) := by kernel_rfl
theorem Try.pl90 : places? Try.prog 90 = some [(0, 0)] := by kernel_rfl
theorem Try.c91 : cells? Try.prog 91 = some 0 := by kernel_rfl
theorem Try.g91 : agg? Try.prog 91 = some true := by kernel_rfl
theorem Try.fd91_0 : field? Try.prog 91 0 = some (0, 89) := by kernel_rfl
theorem Try.pl91 : places? Try.prog 91 = some [(0, 0)] := by kernel_rfl
theorem Try.c92 : cells? Try.prog 92 = some 1 := by kernel_rfl
theorem Try.g92 : agg? Try.prog 92 = some false := by kernel_rfl
theorem Try.z92 : zeros? Try.prog 92 = some [.nilFunc] := by kernel_rfl
theorem Try.c93 : cells? Try.prog 93 = some 1 := by kernel_rfl
theorem Try.g93 : agg? Try.prog 93 = some false := by kernel_rfl
theorem Try.z93 : zeros? Try.prog 93 = some [.int .u8 0] := by kernel_rfl
theorem Try.c94 : cells? Try.prog 94 = some 1 := by kernel_rfl
theorem Try.g94 : agg? Try.prog 94 = some false := by kernel_rfl
theorem Try.z94 : zeros? Try.prog 94 = some [.int .u8 0] := by kernel_rfl
theorem Try.c95 : cells? Try.prog 95 = some 1 := by kernel_rfl
theorem Try.g95 : agg? Try.prog 95 = some false := by kernel_rfl
theorem Try.z95 : zeros? Try.prog 95 = some [.nilFunc] := by kernel_rfl
theorem Try.c96 : cells? Try.prog 96 = some 1 := by kernel_rfl
theorem Try.g96 : agg? Try.prog 96 = some false := by kernel_rfl
theorem Try.z96 : zeros? Try.prog 96 = some [.pointer none] := by kernel_rfl
theorem Try.c97 : cells? Try.prog 97 = some 1 := by kernel_rfl
theorem Try.g97 : agg? Try.prog 97 = some false := by kernel_rfl
theorem Try.z97 : zeros? Try.prog 97 = some [.int .i32 0] := by kernel_rfl
theorem Try.c98 : cells? Try.prog 98 = some 1 := by kernel_rfl
theorem Try.g98 : agg? Try.prog 98 = some false := by kernel_rfl
theorem Try.z98 : zeros? Try.prog 98 = some [.int .i32 0] := by kernel_rfl
theorem Try.c99 : cells? Try.prog 99 = some 11 := by kernel_rfl
theorem Try.g99 : agg? Try.prog 99 = some true := by kernel_rfl
theorem Try.fd99_0 : field? Try.prog 99 0 = some (0, 12) := by kernel_rfl
theorem Try.fd99_1 : field? Try.prog 99 1 = some (1, 12) := by kernel_rfl
theorem Try.fd99_2 : field? Try.prog 99 2 = some (2, 74) := by kernel_rfl
theorem Try.fd99_3 : field? Try.prog 99 3 = some (3, 93) := by kernel_rfl
theorem Try.fd99_4 : field? Try.prog 99 4 = some (4, 5) := by kernel_rfl
theorem Try.fd99_5 : field? Try.prog 99 5 = some (5, 5) := by kernel_rfl
theorem Try.fd99_6 : field? Try.prog 99 6 = some (6, 94) := by kernel_rfl
theorem Try.fd99_7 : field? Try.prog 99 7 = some (7, 95) := by kernel_rfl
theorem Try.fd99_8 : field? Try.prog 99 8 = some (8, 96) := by kernel_rfl
theorem Try.fd99_9 : field? Try.prog 99 9 = some (9, 97) := by kernel_rfl
theorem Try.fd99_10 : field? Try.prog 99 10 = some (10, 98) := by kernel_rfl
theorem Try.pl99 : places? Try.prog 99 = some [(0, 1), (1, 1), (2, 1), (3, 1), (4, 1), (5, 1), (6, 1), (7, 1), (8, 1), (9, 1), (10, 1)] := by kernel_rfl
theorem Try.z99 : zeros? Try.prog 99 = some [.int .u64 0, .int .u64 0, .int .u32 0, .int .u8 0, .int .u8 0, .int .u8 0, .int .u8 0, .nilFunc, .pointer none, .int .i32 0, .int .i32 0] := by kernel_rfl
theorem Try.c100 : cells? Try.prog 100 = some 11 := by kernel_rfl
theorem Try.g100 : agg? Try.prog 100 = some true := by kernel_rfl
theorem Try.fd100_0 : field? Try.prog 100 0 = some (0, 12) := by kernel_rfl
theorem Try.fd100_1 : field? Try.prog 100 1 = some (1, 12) := by kernel_rfl
theorem Try.fd100_2 : field? Try.prog 100 2 = some (2, 74) := by kernel_rfl
theorem Try.fd100_3 : field? Try.prog 100 3 = some (3, 93) := by kernel_rfl
theorem Try.fd100_4 : field? Try.prog 100 4 = some (4, 5) := by kernel_rfl
theorem Try.fd100_5 : field? Try.prog 100 5 = some (5, 5) := by kernel_rfl
theorem Try.fd100_6 : field? Try.prog 100 6 = some (6, 94) := by kernel_rfl
theorem Try.fd100_7 : field? Try.prog 100 7 = some (7, 95) := by kernel_rfl
theorem Try.fd100_8 : field? Try.prog 100 8 = some (8, 96) := by kernel_rfl
theorem Try.fd100_9 : field? Try.prog 100 9 = some (9, 97) := by kernel_rfl
theorem Try.fd100_10 : field? Try.prog 100 10 = some (10, 98) := by kernel_rfl
theorem Try.pl100 : places? Try.prog 100 = some [(0, 1), (1, 1), (2, 1), (3, 1), (4, 1), (5, 1), (6, 1), (7, 1), (8, 1), (9, 1), (10, 1)] := by kernel_rfl
theorem Try.z100 : zeros? Try.prog 100 = some [.int .u64 0, .int .u64 0, .int .u32 0, .int .u8 0, .int .u8 0, .int .u8 0, .int .u8 0, .nilFunc, .pointer none, .int .i32 0, .int .i32 0] := by kernel_rfl
theorem Try.c101 : cells? Try.prog 101 = some 1 := by kernel_rfl
theorem Try.g101 : agg? Try.prog 101 = some false := by kernel_rfl
theorem Try.z101 : zeros? Try.prog 101 = some [.pointer none] := by kernel_rfl
theorem Try.ent3 : ∀ args w, (callFunc 3 args).run Try.prog w = .ok (.enter 3 args) w := enters_of Try.func3 (by kernel_rfl) rfl
theorem Try.ent4 : ∀ args w, (callFunc 4 args).run Try.prog w = .ok (.enter 4 args) w := enters_of Try.func4 (by kernel_rfl) rfl
theorem Try.ent5 : ∀ args w, (callFunc 5 args).run Try.prog w = .ok (.enter 5 args) w := enters_of Try.func5 (by kernel_rfl) rfl
theorem Try.ent6 : ∀ args w, (callFunc 6 args).run Try.prog w = .ok (.enter 6 args) w := enters_of Try.func6 (by kernel_rfl) rfl
theorem Try.ent7 : ∀ args w, (callFunc 7 args).run Try.prog w = .ok (.enter 7 args) w := enters_of Try.func7 (by kernel_rfl) rfl
theorem Try.ent8 : ∀ args w, (callFunc 8 args).run Try.prog w = .ok (.enter 8 args) w := enters_of Try.func8 (by kernel_rfl) rfl
theorem Try.ent9 : ∀ args w, (callFunc 9 args).run Try.prog w = .ok (.enter 9 args) w := enters_of Try.func9 (by kernel_rfl) rfl
theorem Try.ent10 : ∀ args w, (callFunc 10 args).run Try.prog w = .ok (.enter 10 args) w := enters_of Try.func10 (by kernel_rfl) rfl
theorem Try.ent11 : ∀ args w, (callFunc 11 args).run Try.prog w = .ok (.enter 11 args) w := enters_of Try.func11 (by kernel_rfl) rfl
theorem Try.ent12 : ∀ args w, (callFunc 12 args).run Try.prog w = .ok (.enter 12 args) w := enters_of Try.func12 (by kernel_rfl) rfl
theorem Try.ent13 : ∀ args w, (callFunc 13 args).run Try.prog w = .ok (.enter 13 args) w := enters_of Try.func13 (by kernel_rfl) rfl
theorem Try.ent14 : ∀ args w, (callFunc 14 args).run Try.prog w = .ok (.enter 14 args) w := enters_of Try.func14 (by kernel_rfl) rfl
theorem Try.ent15 : ∀ args w, (callFunc 15 args).run Try.prog w = .ok (.enter 15 args) w := enters_of Try.func15 (by kernel_rfl) rfl
theorem Try.ent16 : ∀ args w, (callFunc 16 args).run Try.prog w = .ok (.enter 16 args) w := enters_of Try.func16 (by kernel_rfl) rfl
theorem Try.ent17 : ∀ args w, (callFunc 17 args).run Try.prog w = .ok (.enter 17 args) w := enters_of Try.func17 (by kernel_rfl) rfl
theorem Try.ent18 : ∀ args w, (callFunc 18 args).run Try.prog w = .ok (.enter 18 args) w := enters_of Try.func18 (by kernel_rfl) rfl
theorem Try.ent19 : ∀ args w, (callFunc 19 args).run Try.prog w = .ok (.enter 19 args) w := enters_of Try.func19 (by kernel_rfl) rfl
theorem Try.ent20 : ∀ args w, (callFunc 20 args).run Try.prog w = .ok (.enter 20 args) w := enters_of Try.func20 (by kernel_rfl) rfl
theorem Try.ent21 : ∀ args w, (callFunc 21 args).run Try.prog w = .ok (.enter 21 args) w := enters_of Try.func21 (by kernel_rfl) rfl
theorem Try.ent22 : ∀ args w, (callFunc 22 args).run Try.prog w = .ok (.enter 22 args) w := enters_of Try.func22 (by kernel_rfl) rfl
theorem Try.ent23 : ∀ args w, (callFunc 23 args).run Try.prog w = .ok (.enter 23 args) w := enters_of Try.func23 (by kernel_rfl) rfl
theorem Try.ent24 : ∀ args w, (callFunc 24 args).run Try.prog w = .ok (.enter 24 args) w := enters_of Try.func24 (by kernel_rfl) rfl
theorem Try.ent25 : ∀ args w, (callFunc 25 args).run Try.prog w = .ok (.enter 25 args) w := enters_of Try.func25 (by kernel_rfl) rfl
theorem Try.ent26 : ∀ args w, (callFunc 26 args).run Try.prog w = .ok (.enter 26 args) w := enters_of Try.func26 (by kernel_rfl) rfl
theorem Try.ent27 : ∀ args w, (callFunc 27 args).run Try.prog w = .ok (.enter 27 args) w := enters_of Try.func27 (by kernel_rfl) rfl
theorem Try.ent28 : ∀ args w, (callFunc 28 args).run Try.prog w = .ok (.enter 28 args) w := enters_of Try.func28 (by kernel_rfl) rfl
theorem Try.ent29 : ∀ args w, (callFunc 29 args).run Try.prog w = .ok (.enter 29 args) w := enters_of Try.func29 (by kernel_rfl) rfl
theorem Try.ent30 : ∀ args w, (callFunc 30 args).run Try.prog w = .ok (.enter 30 args) w := enters_of Try.func30 (by kernel_rfl) rfl
theorem Try.ent31 : ∀ args w, (callFunc 31 args).run Try.prog w = .ok (.enter 31 args) w := enters_of Try.func31 (by kernel_rfl) rfl
theorem Try.ent32 : ∀ args w, (callFunc 32 args).run Try.prog w = .ok (.enter 32 args) w := enters_of Try.func32 (by kernel_rfl) rfl
theorem Try.ent33 : ∀ args w, (callFunc 33 args).run Try.prog w = .ok (.enter 33 args) w := enters_of Try.func33 (by kernel_rfl) rfl
theorem Try.ent34 : ∀ args w, (callFunc 34 args).run Try.prog w = .ok (.enter 34 args) w := enters_of Try.func34 (by kernel_rfl) rfl
theorem Try.ent35 : ∀ args w, (callFunc 35 args).run Try.prog w = .ok (.enter 35 args) w := enters_of Try.func35 (by kernel_rfl) rfl
theorem Try.ent36 : ∀ args w, (callFunc 36 args).run Try.prog w = .ok (.enter 36 args) w := enters_of Try.func36 (by kernel_rfl) rfl
theorem Try.ent37 : ∀ args w, (callFunc 37 args).run Try.prog w = .ok (.enter 37 args) w := enters_of Try.func37 (by kernel_rfl) rfl
theorem Try.ent38 : ∀ args w, (callFunc 38 args).run Try.prog w = .ok (.enter 38 args) w := enters_of Try.func38 (by kernel_rfl) rfl
theorem Try.ent39 : ∀ args w, (callFunc 39 args).run Try.prog w = .ok (.enter 39 args) w := enters_of Try.func39 (by kernel_rfl) rfl
theorem Try.ent40 : ∀ args w, (callFunc 40 args).run Try.prog w = .ok (.enter 40 args) w := enters_of Try.func40 (by kernel_rfl) rfl
theorem Try.ent41 : ∀ args w, (callFunc 41 args).run Try.prog w = .ok (.enter 41 args) w := enters_of Try.func41 (by kernel_rfl) rfl
theorem Try.ent42 : ∀ args w, (callFunc 42 args).run Try.prog w = .ok (.enter 42 args) w := enters_of Try.func42 (by kernel_rfl) rfl
theorem Try.ent43 : ∀ args w, (callFunc 43 args).run Try.prog w = .ok (.enter 43 args) w := enters_of Try.func43 (by kernel_rfl) rfl
theorem Try.ent44 : ∀ args w, (callFunc 44 args).run Try.prog w = .ok (.enter 44 args) w := enters_of Try.func44 (by kernel_rfl) rfl
theorem Try.ent45 : ∀ args w, (callFunc 45 args).run Try.prog w = .ok (.enter 45 args) w := enters_of Try.func45 (by kernel_rfl) rfl
end Go.Proofs.Ytpblgmhljnfabaa
