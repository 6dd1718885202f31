import Derived.Test.YtpicjibfbghonaaRows
import Derived.Test.YtpicjibfbghonaaA28
import Derived.Test.YtpicjibfbghonaaA27
import Derived.Shelf.Abstract
set_option linter.unusedVariables false
namespace Go.Proofs.Ytpicjibfbghonaa
open Go Go.Abs
theorem Try.mixed : Try.prog.follows .mixedOrders = true := by kernel_rfl
theorem Try.c1 : cells? Try.prog 1 = some 1 := by kernel_rfl
theorem Try.g1 : agg? Try.prog 1 = some false := by kernel_rfl
theorem Try.c2 : cells? Try.prog 2 = some 1 := by kernel_rfl
theorem Try.g2 : agg? Try.prog 2 = some false := by kernel_rfl
theorem Try.c3 : cells? Try.prog 3 = some 1 := by kernel_rfl
theorem Try.g3 : agg? Try.prog 3 = some false := by kernel_rfl
theorem Try.c4 : cells? Try.prog 4 = some 1 := by kernel_rfl
theorem Try.g4 : agg? Try.prog 4 = some false := by kernel_rfl
theorem Try.c5 : cells? Try.prog 5 = some 1 := by kernel_rfl
theorem Try.g5 : agg? Try.prog 5 = some false := by kernel_rfl
theorem Try.c6 : cells? Try.prog 6 = some 1 := by kernel_rfl
theorem Try.g6 : agg? Try.prog 6 = some false := by kernel_rfl
theorem Try.c7 : cells? Try.prog 7 = some 4 := by kernel_rfl
theorem Try.g7 : agg? Try.prog 7 = some true := by kernel_rfl
theorem Try.fd7_0 : field? Try.prog 7 0 = some (0, 2) := by kernel_rfl
theorem Try.fd7_1 : field? Try.prog 7 1 = some (1, 3) := by kernel_rfl
theorem Try.fd7_2 : field? Try.prog 7 2 = some (2, 4) := by kernel_rfl
theorem Try.fd7_3 : field? Try.prog 7 3 = some (3, 6) := by kernel_rfl
theorem Try.pl7 : places? Try.prog 7 = some [(0, 1), (1, 1), (2, 1), (3, 1)] := by kernel_rfl
theorem Try.z7 : zeros? Try.prog 7 = some [.int .i64 0, .int .i64 0, .bool false, .int .u8 0] := by kernel_rfl
theorem Try.c8 : cells? Try.prog 8 = some 4 := by kernel_rfl
theorem Try.g8 : agg? Try.prog 8 = some true := by kernel_rfl
theorem Try.fd8_0 : field? Try.prog 8 0 = some (0, 2) := by kernel_rfl
theorem Try.fd8_1 : field? Try.prog 8 1 = some (1, 3) := by kernel_rfl
theorem Try.fd8_2 : field? Try.prog 8 2 = some (2, 4) := by kernel_rfl
theorem Try.fd8_3 : field? Try.prog 8 3 = some (3, 6) := by kernel_rfl
theorem Try.pl8 : places? Try.prog 8 = some [(0, 1), (1, 1), (2, 1), (3, 1)] := by kernel_rfl
theorem Try.z8 : zeros? Try.prog 8 = some [.int .i64 0, .int .i64 0, .bool false, .int .u8 0] := by kernel_rfl
theorem Try.c9 : cells? Try.prog 9 = some 1 := by kernel_rfl
theorem Try.g9 : agg? Try.prog 9 = some false := by kernel_rfl
theorem Try.c10 : cells? Try.prog 10 = some 1 := by kernel_rfl
theorem Try.g10 : agg? Try.prog 10 = some false := by kernel_rfl
theorem Try.c11 : cells? Try.prog 11 = some 1 := by kernel_rfl
theorem Try.g11 : agg? Try.prog 11 = some false := by kernel_rfl
theorem Try.c12 : cells? Try.prog 12 = some 1 := by kernel_rfl
theorem Try.g12 : agg? Try.prog 12 = some false := by kernel_rfl
theorem Try.c13 : cells? Try.prog 13 = some 2 := by kernel_rfl
theorem Try.g13 : agg? Try.prog 13 = some true := by kernel_rfl
theorem Try.fd13_0 : field? Try.prog 13 0 = some (0, 9) := by kernel_rfl
theorem Try.fd13_1 : field? Try.prog 13 1 = some (1, 12) := by kernel_rfl
theorem Try.pl13 : places? Try.prog 13 = some [(0, 1), (1, 1)] := by kernel_rfl
theorem Try.z13 : zeros? Try.prog 13 = some [.string ⟨#[]⟩, .int .u64 0] := by kernel_rfl
theorem Try.c14 : cells? Try.prog 14 = some 2 := by kernel_rfl
theorem Try.g14 : agg? Try.prog 14 = some true := by kernel_rfl
theorem Try.fd14_0 : field? Try.prog 14 0 = some (0, 9) := by kernel_rfl
theorem Try.fd14_1 : field? Try.prog 14 1 = some (1, 12) := by kernel_rfl
theorem Try.pl14 : places? Try.prog 14 = some [(0, 1), (1, 1)] := by kernel_rfl
theorem Try.z14 : zeros? Try.prog 14 = some [.string ⟨#[]⟩, .int .u64 0] := by kernel_rfl
theorem Try.c15 : cells? Try.prog 15 = some 1 := by kernel_rfl
theorem Try.g15 : agg? Try.prog 15 = some false := by kernel_rfl
theorem Try.c16 : cells? Try.prog 16 = some 1 := by kernel_rfl
theorem Try.g16 : agg? Try.prog 16 = some false := by kernel_rfl
theorem Try.c17 : cells? Try.prog 17 = some 1 := by kernel_rfl
theorem Try.g17 : agg? Try.prog 17 = some false := by kernel_rfl
theorem Try.c18 : cells? Try.prog 18 = some 1 := by kernel_rfl
theorem Try.g18 : agg? Try.prog 18 = some true := by kernel_rfl
theorem Try.fd18_0 : field? Try.prog 18 0 = some (0, 17) := by kernel_rfl
theorem Try.pl18 : places? Try.prog 18 = some [(0, 1)] := by kernel_rfl
theorem Try.z18 : zeros? Try.prog 18 = some [.pointer none] := by kernel_rfl
theorem Try.c19 : cells? Try.prog 19 = some 1 := by kernel_rfl
theorem Try.g19 : agg? Try.prog 19 = some true := by kernel_rfl
theorem Try.fd19_0 : field? Try.prog 19 0 = some (0, 17) := by kernel_rfl
theorem Try.pl19 : places? Try.prog 19 = some [(0, 1)] := by kernel_rfl
theorem Try.z19 : zeros? Try.prog 19 = some [.pointer none] := by kernel_rfl
theorem Try.c20 : cells? Try.prog 20 = some 1 := by kernel_rfl
theorem Try.g20 : agg? Try.prog 20 = some false := by kernel_rfl
theorem Try.c21 : cells? Try.prog 21 = some 1 := by kernel_rfl
theorem Try.g21 : agg? Try.prog 21 = some false := by kernel_rfl
theorem Try.c22 : cells? Try.prog 22 = some 1 := by kernel_rfl
theorem Try.g22 : agg? Try.prog 22 = some false := by kernel_rfl
theorem Try.e22 : elem? Try.prog 22 = some 9 := by kernel_rfl
theorem Try.ap22 : appT? Try.prog 22 = some (9, 1, 16) := by kernel_rfl
theorem Try.c23 : cells? Try.prog 23 = some 1 := by kernel_rfl
theorem Try.g23 : agg? Try.prog 23 = some false := by kernel_rfl
theorem Try.c24 : cells? Try.prog 24 = some 1 := by kernel_rfl
theorem Try.g24 : agg? Try.prog 24 = some false := by kernel_rfl
theorem Try.c25 : cells? Try.prog 25 = some 1 := by kernel_rfl
theorem Try.g25 : agg? Try.prog 25 = some false := by kernel_rfl
theorem Try.c26 : cells? Try.prog 26 = some 1 := by kernel_rfl
theorem Try.g26 : agg? Try.prog 26 = some false := by kernel_rfl
theorem Try.c27 : cells? Try.prog 27 = some 1 := by kernel_rfl
theorem Try.g27 : agg? Try.prog 27 = some false := by kernel_rfl
theorem Try.c28 : cells? Try.prog 28 = some 1 := by kernel_rfl
theorem Try.g28 : agg? Try.prog 28 = some false := by kernel_rfl
theorem Try.c29 : cells? Try.prog 29 = some 1 := by kernel_rfl
theorem Try.g29 : agg? Try.prog 29 = some false := by kernel_rfl
theorem Try.c30 : cells? Try.prog 30 = some 1 := by kernel_rfl
theorem Try.g30 : agg? Try.prog 30 = some false := by kernel_rfl
theorem Try.c32 : cells? Try.prog 32 = some 1 := by kernel_rfl
theorem Try.g32 : agg? Try.prog 32 = some false := by kernel_rfl
theorem Try.c33 : cells? Try.prog 33 = some 1 := by kernel_rfl
theorem Try.g33 : agg? Try.prog 33 = some false := by kernel_rfl
theorem Try.c34 : cells? Try.prog 34 = some 2 := by kernel_rfl
theorem Try.g34 : agg? Try.prog 34 = some true := by kernel_rfl
theorem Try.fd34_0 : field? Try.prog 34 0 = some (0, 9) := by kernel_rfl
theorem Try.fd34_1 : field? Try.prog 34 1 = some (1, 9) := by kernel_rfl
theorem Try.pl34 : places? Try.prog 34 = some [(0, 1), (1, 1)] := by kernel_rfl
theorem Try.z34 : zeros? Try.prog 34 = some [.string ⟨#[]⟩, .string ⟨#[]⟩] := by kernel_rfl
theorem Try.c35 : cells? Try.prog 35 = some 2 := by kernel_rfl
theorem Try.g35 : agg? Try.prog 35 = some true := by kernel_rfl
theorem Try.fd35_0 : field? Try.prog 35 0 = some (0, 9) := by kernel_rfl
theorem Try.fd35_1 : field? Try.prog 35 1 = some (1, 9) := by kernel_rfl
theorem Try.pl35 : places? Try.prog 35 = some [(0, 1), (1, 1)] := by kernel_rfl
theorem Try.z35 : zeros? Try.prog 35 = some [.string ⟨#[]⟩, .string ⟨#[]⟩] := by kernel_rfl
theorem Try.c36 : cells? Try.prog 36 = some 2 := by kernel_rfl
theorem Try.g36 : agg? Try.prog 36 = some true := by kernel_rfl
theorem Try.fd36_0 : field? Try.prog 36 0 = some (0, 9) := by kernel_rfl
theorem Try.fd36_1 : field? Try.prog 36 1 = some (1, 9) := by kernel_rfl
theorem Try.pl36 : places? Try.prog 36 = some [(0, 1), (1, 1)] := by kernel_rfl
theorem Try.z36 : zeros? Try.prog 36 = some [.string ⟨#[]⟩, .string ⟨#[]⟩] := by kernel_rfl
theorem Try.c37 : cells? Try.prog 37 = some 1 := by kernel_rfl
theorem Try.g37 : agg? Try.prog 37 = some false := by kernel_rfl
theorem Try.c38 : cells? Try.prog 38 = some 1 := by kernel_rfl
theorem Try.g38 : agg? Try.prog 38 = some false := by kernel_rfl
theorem Try.c39 : cells? Try.prog 39 = some 1 := by kernel_rfl
theorem Try.g39 : agg? Try.prog 39 = some false := by kernel_rfl
theorem Try.c40 : cells? Try.prog 40 = some 1 := by kernel_rfl
theorem Try.g40 : agg? Try.prog 40 = some false := by kernel_rfl
theorem Try.c41 : cells? Try.prog 41 = some 1 := by kernel_rfl
theorem Try.g41 : agg? Try.prog 41 = some false := by kernel_rfl
theorem Try.c42 : cells? Try.prog 42 = some 1 := by kernel_rfl
theorem Try.g42 : agg? Try.prog 42 = some false := by kernel_rfl
theorem Try.c43 : cells? Try.prog 43 = some 1 := by kernel_rfl
theorem Try.g43 : agg? Try.prog 43 = some false := by kernel_rfl
theorem Try.c44 : cells? Try.prog 44 = some 1 := by kernel_rfl
theorem Try.g44 : agg? Try.prog 44 = some false := by kernel_rfl
theorem Try.c45 : cells? Try.prog 45 = some 1 := by kernel_rfl
theorem Try.g45 : agg? Try.prog 45 = some false := by kernel_rfl
theorem Try.c46 : cells? Try.prog 46 = some 1 := by kernel_rfl
theorem Try.g46 : agg? Try.prog 46 = some false := by kernel_rfl
theorem Try.c47 : cells? Try.prog 47 = some 1 := by kernel_rfl
theorem Try.g47 : agg? Try.prog 47 = some false := by kernel_rfl
theorem Try.c48 : cells? Try.prog 48 = some 1 := by kernel_rfl
theorem Try.g48 : agg? Try.prog 48 = some false := by kernel_rfl
theorem Try.c49 : cells? Try.prog 49 = some 1 := by kernel_rfl
theorem Try.g49 : agg? Try.prog 49 = some false := by kernel_rfl
theorem Try.c50 : cells? Try.prog 50 = some 1 := by kernel_rfl
theorem Try.g50 : agg? Try.prog 50 = some false := by kernel_rfl
theorem Try.c51 : cells? Try.prog 51 = some 1 := by kernel_rfl
theorem Try.g51 : agg? Try.prog 51 = some false := by kernel_rfl
theorem Try.c52 : cells? Try.prog 52 = some 1 := by kernel_rfl
theorem Try.g52 : agg? Try.prog 52 = some false := by kernel_rfl
theorem Try.e52 : elem? Try.prog 52 = some 3 := by kernel_rfl
theorem Try.ap52 : appT? Try.prog 52 = some (3, 1, 8) := by kernel_rfl
theorem Try.c53 : cells? Try.prog 53 = some 1 := by kernel_rfl
theorem Try.g53 : agg? Try.prog 53 = some false := by kernel_rfl
theorem Try.c54 : cells? Try.prog 54 = some 1 := by kernel_rfl
theorem Try.g54 : agg? Try.prog 54 = some false := by kernel_rfl
theorem Try.c56 : cells? Try.prog 56 = some 1 := by kernel_rfl
theorem Try.g56 : agg? Try.prog 56 = some false := by kernel_rfl
theorem Try.c57 : cells? Try.prog 57 = some 1 := by kernel_rfl
theorem Try.g57 : agg? Try.prog 57 = some false := by kernel_rfl
theorem Try.c58 : cells? Try.prog 58 = some 1 := by kernel_rfl
theorem Try.g58 : agg? Try.prog 58 = some false := by kernel_rfl
theorem Try.c60 : cells? Try.prog 60 = some 1 := by kernel_rfl
theorem Try.g60 : agg? Try.prog 60 = some false := by kernel_rfl
theorem Try.c61 : cells? Try.prog 61 = some 1 := by kernel_rfl
theorem Try.g61 : agg? Try.prog 61 = some false := by kernel_rfl
theorem Try.c62 : cells? Try.prog 62 = some 1 := by kernel_rfl
theorem Try.g62 : agg? Try.prog 62 = some false := by kernel_rfl
theorem Try.c63 : cells? Try.prog 63 = some 1 := by kernel_rfl
theorem Try.g63 : agg? Try.prog 63 = some false := by kernel_rfl
theorem Try.c64 : cells? Try.prog 64 = some 1 := by kernel_rfl
theorem Try.g64 : agg? Try.prog 64 = some false := by kernel_rfl
theorem Try.c65 : cells? Try.prog 65 = some 1 := by kernel_rfl
theorem Try.g65 : agg? Try.prog 65 = some false := by kernel_rfl
theorem Try.c66 : cells? Try.prog 66 = some 1 := by kernel_rfl
theorem Try.g66 : agg? Try.prog 66 = some false := by kernel_rfl
theorem Try.c67 : cells? Try.prog 67 = some 1 := by kernel_rfl
theorem Try.g67 : agg? Try.prog 67 = some false := by kernel_rfl
theorem Try.c68 : cells? Try.prog 68 = some 1 := by kernel_rfl
theorem Try.g68 : agg? Try.prog 68 = some false := by kernel_rfl
theorem Try.c69 : cells? Try.prog 69 = some 1 := by kernel_rfl
theorem Try.g69 : agg? Try.prog 69 = some false := by kernel_rfl
theorem Try.c70 : cells? Try.prog 70 = some 1 := by kernel_rfl
theorem Try.g70 : agg? Try.prog 70 = some false := by kernel_rfl
theorem Try.c71 : cells? Try.prog 71 = some 1 := by kernel_rfl
theorem Try.g71 : agg? Try.prog 71 = some false := by kernel_rfl
theorem Try.c73 : cells? Try.prog 73 = some 1 := by kernel_rfl
theorem Try.g73 : agg? Try.prog 73 = some false := by kernel_rfl
theorem Try.c74 : cells? Try.prog 74 = some 1 := by kernel_rfl
theorem Try.g74 : agg? Try.prog 74 = some false := by kernel_rfl
theorem Try.c75 : cells? Try.prog 75 = some 4 := by kernel_rfl
theorem Try.g75 : agg? Try.prog 75 = some true := by kernel_rfl
theorem Try.fd75_0 : field? Try.prog 75 0 = some (0, 17) := by kernel_rfl
theorem Try.fd75_1 : field? Try.prog 75 1 = some (1, 17) := by kernel_rfl
theorem Try.fd75_2 : field? Try.prog 75 2 = some (2, 17) := by kernel_rfl
theorem Try.fd75_3 : field? Try.prog 75 3 = some (3, 9) := by kernel_rfl
theorem Try.pl75 : places? Try.prog 75 = some [(0, 1), (1, 1), (2, 1), (3, 1)] := by kernel_rfl
theorem Try.z75 : zeros? Try.prog 75 = some [.pointer none, .pointer none, .pointer none, .string ⟨#[]⟩] := by kernel_rfl
theorem Try.c76 : cells? Try.prog 76 = some 4 := by kernel_rfl
theorem Try.g76 : agg? Try.prog 76 = some true := by kernel_rfl
theorem Try.fd76_0 : field? Try.prog 76 0 = some (0, 17) := by kernel_rfl
theorem Try.fd76_1 : field? Try.prog 76 1 = some (1, 17) := by kernel_rfl
theorem Try.fd76_2 : field? Try.prog 76 2 = some (2, 17) := by kernel_rfl
theorem Try.fd76_3 : field? Try.prog 76 3 = some (3, 9) := by kernel_rfl
theorem Try.pl76 : places? Try.prog 76 = some [(0, 1), (1, 1), (2, 1), (3, 1)] := by kernel_rfl
theorem Try.z76 : zeros? Try.prog 76 = some [.pointer none, .pointer none, .pointer none, .string ⟨#[]⟩] := by kernel_rfl
theorem Try.c78 : cells? Try.prog 78 = some 0 := by kernel_rfl
theorem Try.g78 : agg? Try.prog 78 = some true := by kernel_rfl
theorem Try.fd78_0 : field? Try.prog 78 0 = some (0, 77) := by kernel_rfl
theorem Try.pl78 : places? Try.prog 78 = some [(0, 0)] := by kernel_rfl
theorem Try.c79 : cells? Try.prog 79 = some 0 := by kernel_rfl
theorem Try.g79 : agg? Try.prog 79 = some true := by kernel_rfl
theorem Try.fd79_0 : field? Try.prog 79 0 = some (0, 77) := by kernel_rfl
theorem Try.pl79 : places? Try.prog 79 = some [(0, 0)] := by kernel_rfl
theorem Try.c80 : cells? Try.prog 80 = some 1 := by kernel_rfl
theorem Try.g80 : agg? Try.prog 80 = some false := by kernel_rfl
theorem Try.c81 : cells? Try.prog 81 = some 1 := by kernel_rfl
theorem Try.g81 : agg? Try.prog 81 = some false := by kernel_rfl
theorem Try.c82 : cells? Try.prog 82 = some 1 := by kernel_rfl
theorem Try.g82 : agg? Try.prog 82 = some false := by kernel_rfl
theorem Try.c83 : cells? Try.prog 83 = some 1 := by kernel_rfl
theorem Try.g83 : agg? Try.prog 83 = some false := by kernel_rfl
theorem Try.c84 : cells? Try.prog 84 = some 1 := by kernel_rfl
theorem Try.g84 : agg? Try.prog 84 = some false := by kernel_rfl
theorem Try.c85 : cells? Try.prog 85 = some 1 := by kernel_rfl
theorem Try.g85 : agg? Try.prog 85 = some false := by kernel_rfl
theorem Try.c86 : cells? Try.prog 86 = some 1 := by kernel_rfl
theorem Try.g86 : agg? Try.prog 86 = some false := by kernel_rfl
theorem Try.c87 : cells? Try.prog 87 = some 11 := by kernel_rfl
theorem Try.g87 : agg? Try.prog 87 = some true := by kernel_rfl
theorem Try.fd87_0 : field? Try.prog 87 0 = some (0, 12) := by kernel_rfl
theorem Try.fd87_1 : field? Try.prog 87 1 = some (1, 12) := by kernel_rfl
theorem Try.fd87_2 : field? Try.prog 87 2 = some (2, 62) := by kernel_rfl
theorem Try.fd87_3 : field? Try.prog 87 3 = some (3, 81) := by kernel_rfl
theorem Try.fd87_4 : field? Try.prog 87 4 = some (4, 5) := by kernel_rfl
theorem Try.fd87_5 : field? Try.prog 87 5 = some (5, 5) := by kernel_rfl
theorem Try.fd87_6 : field? Try.prog 87 6 = some (6, 82) := by kernel_rfl
theorem Try.fd87_7 : field? Try.prog 87 7 = some (7, 83) := by kernel_rfl
theorem Try.fd87_8 : field? Try.prog 87 8 = some (8, 84) := by kernel_rfl
theorem Try.fd87_9 : field? Try.prog 87 9 = some (9, 85) := by kernel_rfl
theorem Try.fd87_10 : field? Try.prog 87 10 = some (10, 86) := by kernel_rfl
theorem Try.pl87 : places? Try.prog 87 = some [(0, 1), (1, 1), (2, 1), (3, 1), (4, 1), (5, 1), (6, 1), (7, 1), (8, 1), (9, 1), (10, 1)] := by kernel_rfl
theorem Try.z87 : zeros? Try.prog 87 = some [.int .u64 0, .int .u64 0, .int .u32 0, .int .u8 0, .int .u8 0, .int .u8 0, .int .u8 0, .nilFunc, .pointer none, .int .i32 0, .int .i32 0] := by kernel_rfl
theorem Try.c88 : cells? Try.prog 88 = some 11 := by kernel_rfl
theorem Try.g88 : agg? Try.prog 88 = some true := by kernel_rfl
theorem Try.fd88_0 : field? Try.prog 88 0 = some (0, 12) := by kernel_rfl
theorem Try.fd88_1 : field? Try.prog 88 1 = some (1, 12) := by kernel_rfl
theorem Try.fd88_2 : field? Try.prog 88 2 = some (2, 62) := by kernel_rfl
theorem Try.fd88_3 : field? Try.prog 88 3 = some (3, 81) := by kernel_rfl
theorem Try.fd88_4 : field? Try.prog 88 4 = some (4, 5) := by kernel_rfl
theorem Try.fd88_5 : field? Try.prog 88 5 = some (5, 5) := by kernel_rfl
theorem Try.fd88_6 : field? Try.prog 88 6 = some (6, 82) := by kernel_rfl
theorem Try.fd88_7 : field? Try.prog 88 7 = some (7, 83) := by kernel_rfl
theorem Try.fd88_8 : field? Try.prog 88 8 = some (8, 84) := by kernel_rfl
theorem Try.fd88_9 : field? Try.prog 88 9 = some (9, 85) := by kernel_rfl
theorem Try.fd88_10 : field? Try.prog 88 10 = some (10, 86) := by kernel_rfl
theorem Try.pl88 : places? Try.prog 88 = some [(0, 1), (1, 1), (2, 1), (3, 1), (4, 1), (5, 1), (6, 1), (7, 1), (8, 1), (9, 1), (10, 1)] := by kernel_rfl
theorem Try.z88 : zeros? Try.prog 88 = some [.int .u64 0, .int .u64 0, .int .u32 0, .int .u8 0, .int .u8 0, .int .u8 0, .int .u8 0, .nilFunc, .pointer none, .int .i32 0, .int .i32 0] := by kernel_rfl
theorem Try.c89 : cells? Try.prog 89 = some 1 := by kernel_rfl
theorem Try.g89 : agg? Try.prog 89 = some false := by kernel_rfl
theorem Try.ent3 : ∀ args w, (callFunc 3 args).run Try.prog w = .ok (.enter 3 args) w := enters_of Try.func3 (by kernel_rfl) rfl
theorem Try.ent4 : ∀ args w, (callFunc 4 args).run Try.prog w = .ok (.enter 4 args) w := enters_of Try.func4 (by kernel_rfl) rfl
theorem Try.ent5 : ∀ args w, (callFunc 5 args).run Try.prog w = .ok (.enter 5 args) w := enters_of Try.func5 (by kernel_rfl) rfl
theorem Try.ent6 : ∀ args w, (callFunc 6 args).run Try.prog w = .ok (.enter 6 args) w := enters_of Try.func6 (by kernel_rfl) rfl
theorem Try.ent7 : ∀ args w, (callFunc 7 args).run Try.prog w = .ok (.enter 7 args) w := enters_of Try.func7 (by kernel_rfl) rfl
theorem Try.ent8 : ∀ args w, (callFunc 8 args).run Try.prog w = .ok (.enter 8 args) w := enters_of Try.func8 (by kernel_rfl) rfl
theorem Try.ent9 : ∀ args w, (callFunc 9 args).run Try.prog w = .ok (.enter 9 args) w := enters_of Try.func9 (by kernel_rfl) rfl
theorem Try.ent10 : ∀ args w, (callFunc 10 args).run Try.prog w = .ok (.enter 10 args) w := enters_of Try.func10 (by kernel_rfl) rfl
theorem Try.ent11 : ∀ args w, (callFunc 11 args).run Try.prog w = .ok (.enter 11 args) w := enters_of Try.func11 (by kernel_rfl) rfl
theorem Try.ent12 : ∀ args w, (callFunc 12 args).run Try.prog w = .ok (.enter 12 args) w := enters_of Try.func12 (by kernel_rfl) rfl
theorem Try.ent13 : ∀ args w, (callFunc 13 args).run Try.prog w = .ok (.enter 13 args) w := enters_of Try.func13 (by kernel_rfl) rfl
theorem Try.ent14 : ∀ args w, (callFunc 14 args).run Try.prog w = .ok (.enter 14 args) w := enters_of Try.func14 (by kernel_rfl) rfl
theorem Try.ent15 : ∀ args w, (callFunc 15 args).run Try.prog w = .ok (.enter 15 args) w := enters_of Try.func15 (by kernel_rfl) rfl
theorem Try.ent16 : ∀ args w, (callFunc 16 args).run Try.prog w = .ok (.enter 16 args) w := enters_of Try.func16 (by kernel_rfl) rfl
theorem Try.ent17 : ∀ args w, (callFunc 17 args).run Try.prog w = .ok (.enter 17 args) w := enters_of Try.func17 (by kernel_rfl) rfl
theorem Try.ent18 : ∀ args w, (callFunc 18 args).run Try.prog w = .ok (.enter 18 args) w := enters_of Try.func18 (by kernel_rfl) rfl
theorem Try.ent19 : ∀ args w, (callFunc 19 args).run Try.prog w = .ok (.enter 19 args) w := enters_of Try.func19 (by kernel_rfl) rfl
theorem Try.ent20 : ∀ args w, (callFunc 20 args).run Try.prog w = .ok (.enter 20 args) w := enters_of Try.func20 (by kernel_rfl) rfl
theorem Try.ent21 : ∀ args w, (callFunc 21 args).run Try.prog w = .ok (.enter 21 args) w := enters_of Try.func21 (by kernel_rfl) rfl
theorem Try.ent22 : ∀ args w, (callFunc 22 args).run Try.prog w = .ok (.enter 22 args) w := enters_of Try.func22 (by kernel_rfl) rfl
theorem Try.ent23 : ∀ args w, (callFunc 23 args).run Try.prog w = .ok (.enter 23 args) w := enters_of Try.func23 (by kernel_rfl) rfl
theorem Try.ent24 : ∀ args w, (callFunc 24 args).run Try.prog w = .ok (.enter 24 args) w := enters_of Try.func24 (by kernel_rfl) rfl
theorem Try.ent25 : ∀ args w, (callFunc 25 args).run Try.prog w = .ok (.enter 25 args) w := enters_of Try.func25 (by kernel_rfl) rfl
theorem Try.ent26 : ∀ args w, (callFunc 26 args).run Try.prog w = .ok (.enter 26 args) w := enters_of Try.func26 (by kernel_rfl) rfl
theorem Try.ent27 : ∀ args w, (callFunc 27 args).run Try.prog w = .ok (.enter 27 args) w := enters_of Try.func27 (by kernel_rfl) rfl
theorem Try.ent28 : ∀ args w, (callFunc 28 args).run Try.prog w = .ok (.enter 28 args) w := enters_of Try.func28 (by kernel_rfl) rfl
theorem Try.ent29 : ∀ args w, (callFunc 29 args).run Try.prog w = .ok (.enter 29 args) w := enters_of Try.func29 (by kernel_rfl) rfl
theorem Try.ent30 : ∀ args w, (callFunc 30 args).run Try.prog w = .ok (.enter 30 args) w := enters_of Try.func30 (by kernel_rfl) rfl
theorem Try.ent31 : ∀ args w, (callFunc 31 args).run Try.prog w = .ok (.enter 31 args) w := enters_of Try.func31 (by kernel_rfl) rfl
theorem Try.ent32 : ∀ args w, (callFunc 32 args).run Try.prog w = .ok (.enter 32 args) w := enters_of Try.func32 (by kernel_rfl) rfl
theorem Try.ent33 : ∀ args w, (callFunc 33 args).run Try.prog w = .ok (.enter 33 args) w := enters_of Try.func33 (by kernel_rfl) rfl
theorem Try.ent34 : ∀ args w, (callFunc 34 args).run Try.prog w = .ok (.enter 34 args) w := enters_of Try.func34 (by kernel_rfl) rfl
theorem Try.ent35 : ∀ args w, (callFunc 35 args).run Try.prog w = .ok (.enter 35 args) w := enters_of Try.func35 (by kernel_rfl) rfl
theorem Try.ent36 : ∀ args w, (callFunc 36 args).run Try.prog w = .ok (.enter 36 args) w := enters_of Try.func36 (by kernel_rfl) rfl
theorem Try.ent37 : ∀ args w, (callFunc 37 args).run Try.prog w = .ok (.enter 37 args) w := enters_of Try.func37 (by kernel_rfl) rfl
theorem Try.ent38 : ∀ args w, (callFunc 38 args).run Try.prog w = .ok (.enter 38 args) w := enters_of Try.func38 (by kernel_rfl) rfl
theorem Try.ent39 : ∀ args w, (callFunc 39 args).run Try.prog w = .ok (.enter 39 args) w := enters_of Try.func39 (by kernel_rfl) rfl
theorem Try.ent40 : ∀ args w, (callFunc 40 args).run Try.prog w = .ok (.enter 40 args) w := enters_of Try.func40 (by kernel_rfl) rfl
theorem Try.ent41 : ∀ args w, (callFunc 41 args).run Try.prog w = .ok (.enter 41 args) w := enters_of Try.func41 (by kernel_rfl) rfl
theorem Try.ent42 : ∀ args w, (callFunc 42 args).run Try.prog w = .ok (.enter 42 args) w := enters_of Try.func42 (by kernel_rfl) rfl
theorem Try.ent43 : ∀ args w, (callFunc 43 args).run Try.prog w = .ok (.enter 43 args) w := enters_of Try.func43 (by kernel_rfl) rfl
theorem Try.ent44 : ∀ args w, (callFunc 44 args).run Try.prog w = .ok (.enter 44 args) w := enters_of Try.func44 (by kernel_rfl) rfl
theorem Try.ent45 : ∀ args w, (callFunc 45 args).run Try.prog w = .ok (.enter 45 args) w := enters_of Try.func45 (by kernel_rfl) rfl
theorem Try.ent46 : ∀ args w, (callFunc 46 args).run Try.prog w = .ok (.enter 46 args) w := enters_of Try.func46 (by kernel_rfl) rfl
theorem Try.ent47 : ∀ args w, (callFunc 47 args).run Try.prog w = .ok (.enter 47 args) w := enters_of Try.func47 (by kernel_rfl) rfl
theorem Try.ent48 : ∀ args w, (callFunc 48 args).run Try.prog w = .ok (.enter 48 args) w := enters_of Try.func48 (by kernel_rfl) rfl
theorem Try.ent49 : ∀ args w, (callFunc 49 args).run Try.prog w = .ok (.enter 49 args) w := enters_of Try.func49 (by kernel_rfl) rfl
theorem Try.ent50 : ∀ args w, (callFunc 50 args).run Try.prog w = .ok (.enter 50 args) w := enters_of Try.func50 (by kernel_rfl) rfl
theorem Try.ent51 : ∀ args w, (callFunc 51 args).run Try.prog w = .ok (.enter 51 args) w := enters_of Try.func51 (by kernel_rfl) rfl
end Go.Proofs.Ytpicjibfbghonaa
