import Derived.Test.YtkjniggdldpnoaaRows
import Derived.Test.YtkjniggdldpnoaaQ5
import Derived.Test.YtkjniggdldpnoaaQ7
import Derived.Test.YtkjniggdldpnoaaQ4
import Derived.Test.YtkjniggdldpnoaaB2
import Derived.Test.YtkjniggdldpnoaaT0
import Derived.Shelf.Abstract
set_option linter.unusedVariables false
namespace Go.Proofs.Ytkjniggdldpnoaa
open Go Go.Abs
theorem Try.mixed : Try.prog.follows .mixedOrders = true := by kernel_rfl
theorem Try.c3 : cells? Try.prog 3 = some 1 := by kernel_rfl
theorem Try.g3 : agg? Try.prog 3 = some false := by kernel_rfl
theorem Try.c9 : cells? Try.prog 9 = some 1 := by kernel_rfl
theorem Try.g9 : agg? Try.prog 9 = some false := by kernel_rfl
theorem Try.c23 : cells? Try.prog 23 = some 2 := by kernel_rfl
theorem Try.g23 : agg? Try.prog 23 = some true := by kernel_rfl
theorem Try.fd23_0 : field? Try.prog 23 0 = some (0, 9) := by kernel_rfl
theorem Try.fd23_1 : field? Try.prog 23 1 = some (1, 9) := by kernel_rfl
theorem Try.c24 : cells? Try.prog 24 = some 2 := by kernel_rfl
theorem Try.g24 : agg? Try.prog 24 = some true := by kernel_rfl
theorem Try.fd24_0 : field? Try.prog 24 0 = some (0, 9) := by kernel_rfl
theorem Try.fd24_1 : field? Try.prog 24 1 = some (1, 9) := by kernel_rfl
theorem Try.pl24 : places? Try.prog 24 = some [(0, 1), (1, 1)] := by kernel_rfl
theorem Try.z24 : zeros? Try.prog 24 = some [.string ⟨#[]⟩, .string ⟨#[]⟩] := by kernel_rfl
theorem Try.g30 : agg? Try.prog 30 = some false := by kernel_rfl
theorem Try.e30 : elem? Try.prog 30 = some 31 := by kernel_rfl
theorem Try.c31 : cells? Try.prog 31 = some 1 := by kernel_rfl
theorem Try.g31 : agg? Try.prog 31 = some false := by kernel_rfl
theorem Try.e31 : elem? Try.prog 31 = some 42 := by kernel_rfl
theorem Try.ap31 : appT? Try.prog 31 = some (42, 2, 16) := by kernel_rfl
theorem Try.e32 : elem? Try.prog 32 = some 33 := by kernel_rfl
theorem Try.ap32 : appT? Try.prog 32 = some (33, 1, 24) := by kernel_rfl
theorem Try.c33 : cells? Try.prog 33 = some 1 := by kernel_rfl
theorem Try.g33 : agg? Try.prog 33 = some false := by kernel_rfl
theorem Try.e33 : elem? Try.prog 33 = some 43 := by kernel_rfl
theorem Try.ap33 : appT? Try.prog 33 = some (43, 2, 16) := by kernel_rfl
theorem Try.c42 : cells? Try.prog 42 = some 2 := by kernel_rfl
theorem Try.g42 : agg? Try.prog 42 = some true := by kernel_rfl
theorem Try.q42 : eqT? Try.prog 42 = some (.agg [.int .i64, .int .i64]) := by kernel_rfl
theorem Try.fd42_0 : field? Try.prog 42 0 = some (0, 3) := by kernel_rfl
theorem Try.fd42_1 : field? Try.prog 42 1 = some (1, 3) := by kernel_rfl
theorem Try.pl42 : places? Try.prog 42 = some [(0, 1), (1, 1)] := by kernel_rfl
theorem Try.z42 : zeros? Try.prog 42 = some [.int .i64 0, .int .i64 0] := by kernel_rfl
theorem Try.c43 : cells? Try.prog 43 = some 2 := by kernel_rfl
theorem Try.g43 : agg? Try.prog 43 = some true := by kernel_rfl
theorem Try.q43 : eqT? Try.prog 43 = some (.agg [.int .i64, .int .i64]) := by kernel_rfl
theorem Try.fd43_0 : field? Try.prog 43 0 = some (0, 3) := by kernel_rfl
theorem Try.fd43_1 : field? Try.prog 43 1 = some (1, 3) := by kernel_rfl
theorem Try.pl43 : places? Try.prog 43 = some [(0, 1), (1, 1)] := by kernel_rfl
theorem Try.z43 : zeros? Try.prog 43 = some [.int .i64 0, .int .i64 0] := by kernel_rfl
theorem Try.c52 : cells? Try.prog 52 = some 4 := by kernel_rfl
theorem Try.g52 : agg? Try.prog 52 = some true := by kernel_rfl
theorem Try.q52 : eqT? Try.prog 52 = some (.agg [.int .i64, .int .i64, .int .i64, .int .i64]) := by kernel_rfl
theorem Try.fd52_0 : field? Try.prog 52 0 = some (0, 3) := by kernel_rfl
theorem Try.fd52_1 : field? Try.prog 52 1 = some (1, 3) := by kernel_rfl
theorem Try.fd52_2 : field? Try.prog 52 2 = some (2, 3) := by kernel_rfl
theorem Try.fd52_3 : field? Try.prog 52 3 = some (3, 3) := by kernel_rfl
theorem Try.pl52 : places? Try.prog 52 = some [(0, 1), (1, 1), (2, 1), (3, 1)] := by kernel_rfl
theorem Try.z52 : zeros? Try.prog 52 = some [.int .i64 0, .int .i64 0, .int .i64 0, .int .i64 0] := by kernel_rfl
theorem Try.g53 : agg? Try.prog 53 = some true := by kernel_rfl
theorem Try.ar53 : arr? Try.prog 53 = some (2, 52) := by kernel_rfl
theorem Try.c54 : cells? Try.prog 54 = some 1 := by kernel_rfl
theorem Try.g54 : agg? Try.prog 54 = some false := by kernel_rfl
theorem Try.e54 : elem? Try.prog 54 = some 52 := by kernel_rfl
theorem Try.ap54 : appT? Try.prog 54 = some (52, 4, 32) := by kernel_rfl
theorem Try.c57 : cells? Try.prog 57 = some 4 := by kernel_rfl
theorem Try.g57 : agg? Try.prog 57 = some true := by kernel_rfl
theorem Try.q57 : eqT? Try.prog 57 = some (.agg [.agg [.int .i64, .int .i64], .int .i64, .int .i64]) := by kernel_rfl
theorem Try.fd57_0 : field? Try.prog 57 0 = some (0, 43) := by kernel_rfl
theorem Try.fd57_1 : field? Try.prog 57 1 = some (2, 3) := by kernel_rfl
theorem Try.fd57_2 : field? Try.prog 57 2 = some (3, 3) := by kernel_rfl
theorem Try.pl57 : places? Try.prog 57 = some [(0, 2), (2, 1), (3, 1)] := by kernel_rfl
theorem Try.z57 : zeros? Try.prog 57 = some [.int .i64 0, .int .i64 0, .int .i64 0, .int .i64 0] := by kernel_rfl
theorem Try.c61 : cells? Try.prog 61 = some 1 := by kernel_rfl
theorem Try.g61 : agg? Try.prog 61 = some false := by kernel_rfl
theorem Try.e61 : elem? Try.prog 61 = some 57 := by kernel_rfl
theorem Try.ap61 : appT? Try.prog 61 = some (57, 4, 32) := by kernel_rfl
theorem Try.g70 : agg? Try.prog 70 = some true := by kernel_rfl
theorem Try.ar70 : arr? Try.prog 70 = some (2, 54) := by kernel_rfl
theorem Try.g83 : agg? Try.prog 83 = some true := by kernel_rfl
theorem Try.ar83 : arr? Try.prog 83 = some (2, 31) := by kernel_rfl
theorem Try.e89 : elem? Try.prog 89 = some 9 := by kernel_rfl
theorem Try.ap89 : appT? Try.prog 89 = some (9, 1, 16) := by kernel_rfl
theorem Try.e96 : elem? Try.prog 96 = some 3 := by kernel_rfl
theorem Try.ap96 : appT? Try.prog 96 = some (3, 1, 8) := by kernel_rfl
theorem Try.e126 : elem? Try.prog 126 = some 61 := by kernel_rfl
theorem Try.ap126 : appT? Try.prog 126 = some (61, 1, 24) := by kernel_rfl
theorem Try.ent14 : ∀ args w, (callFunc 14 args).run Try.prog w = .ok (.enter 14 args) w := enters_of Try.func14 (by kernel_rfl) rfl
theorem Try.ent15 : ∀ args w, (callFunc 15 args).run Try.prog w = .ok (.enter 15 args) w := enters_of Try.func15 (by kernel_rfl) rfl
theorem Try.ent16 : ∀ args w, (callFunc 16 args).run Try.prog w = .ok (.enter 16 args) w := enters_of Try.func16 (by kernel_rfl) rfl
theorem Try.ent17 : ∀ args w, (callFunc 17 args).run Try.prog w = .ok (.enter 17 args) w := enters_of Try.func17 (by kernel_rfl) rfl
theorem Try.ent18 : ∀ args w, (callFunc 18 args).run Try.prog w = .ok (.enter 18 args) w := enters_of Try.func18 (by kernel_rfl) rfl
theorem Try.ent19 : ∀ args w, (callFunc 19 args).run Try.prog w = .ok (.enter 19 args) w := enters_of Try.func19 (by kernel_rfl) rfl
theorem Try.ent20 : ∀ args w, (callFunc 20 args).run Try.prog w = .ok (.enter 20 args) w := enters_of Try.func20 (by kernel_rfl) rfl
theorem Try.ent21 : ∀ args w, (callFunc 21 args).run Try.prog w = .ok (.enter 21 args) w := enters_of Try.func21 (by kernel_rfl) rfl
theorem Try.ent22 : ∀ args w, (callFunc 22 args).run Try.prog w = .ok (.enter 22 args) w := enters_of Try.func22 (by kernel_rfl) rfl
theorem Try.ent23 : ∀ args w, (callFunc 23 args).run Try.prog w = .ok (.enter 23 args) w := enters_of Try.func23 (by kernel_rfl) rfl
theorem Try.ent24 : ∀ args w, (callFunc 24 args).run Try.prog w = .ok (.enter 24 args) w := enters_of Try.func24 (by kernel_rfl) rfl
theorem Try.ent25 : ∀ args w, (callFunc 25 args).run Try.prog w = .ok (.enter 25 args) w := enters_of Try.func25 (by kernel_rfl) rfl
theorem Try.ent26 : ∀ args w, (callFunc 26 args).run Try.prog w = .ok (.enter 26 args) w := enters_of Try.func26 (by kernel_rfl) rfl
theorem Try.ent27 : ∀ args w, (callFunc 27 args).run Try.prog w = .ok (.enter 27 args) w := enters_of Try.func27 (by kernel_rfl) rfl
theorem Try.ent28 : ∀ args w, (callFunc 28 args).run Try.prog w = .ok (.enter 28 args) w := enters_of Try.func28 (by kernel_rfl) rfl
theorem Try.ent29 : ∀ args w, (callFunc 29 args).run Try.prog w = .ok (.enter 29 args) w := enters_of Try.func29 (by kernel_rfl) rfl
theorem Try.ent30 : ∀ args w, (callFunc 30 args).run Try.prog w = .ok (.enter 30 args) w := enters_of Try.func30 (by kernel_rfl) rfl
theorem Try.ent31 : ∀ args w, (callFunc 31 args).run Try.prog w = .ok (.enter 31 args) w := enters_of Try.func31 (by kernel_rfl) rfl
theorem Try.ent32 : ∀ args w, (callFunc 32 args).run Try.prog w = .ok (.enter 32 args) w := enters_of Try.func32 (by kernel_rfl) rfl
theorem Try.ent33 : ∀ args w, (callFunc 33 args).run Try.prog w = .ok (.enter 33 args) w := enters_of Try.func33 (by kernel_rfl) rfl
theorem Try.ent34 : ∀ args w, (callFunc 34 args).run Try.prog w = .ok (.enter 34 args) w := enters_of Try.func34 (by kernel_rfl) rfl
theorem Try.ent35 : ∀ args w, (callFunc 35 args).run Try.prog w = .ok (.enter 35 args) w := enters_of Try.func35 (by kernel_rfl) rfl
theorem Try.ent36 : ∀ args w, (callFunc 36 args).run Try.prog w = .ok (.enter 36 args) w := enters_of Try.func36 (by kernel_rfl) rfl
theorem Try.ent37 : ∀ args w, (callFunc 37 args).run Try.prog w = .ok (.enter 37 args) w := enters_of Try.func37 (by kernel_rfl) rfl
theorem Try.ent38 : ∀ args w, (callFunc 38 args).run Try.prog w = .ok (.enter 38 args) w := enters_of Try.func38 (by kernel_rfl) rfl
theorem Try.ent39 : ∀ args w, (callFunc 39 args).run Try.prog w = .ok (.enter 39 args) w := enters_of Try.func39 (by kernel_rfl) rfl
theorem Try.ent40 : ∀ args w, (callFunc 40 args).run Try.prog w = .ok (.enter 40 args) w := enters_of Try.func40 (by kernel_rfl) rfl
theorem Try.ent41 : ∀ args w, (callFunc 41 args).run Try.prog w = .ok (.enter 41 args) w := enters_of Try.func41 (by kernel_rfl) rfl
theorem Try.ent42 : ∀ args w, (callFunc 42 args).run Try.prog w = .ok (.enter 42 args) w := enters_of Try.func42 (by kernel_rfl) rfl
theorem Try.ent43 : ∀ args w, (callFunc 43 args).run Try.prog w = .ok (.enter 43 args) w := enters_of Try.func43 (by kernel_rfl) rfl
theorem Try.ent44 : ∀ args w, (callFunc 44 args).run Try.prog w = .ok (.enter 44 args) w := enters_of Try.func44 (by kernel_rfl) rfl
theorem Try.ent45 : ∀ args w, (callFunc 45 args).run Try.prog w = .ok (.enter 45 args) w := enters_of Try.func45 (by kernel_rfl) rfl
theorem Try.ent46 : ∀ args w, (callFunc 46 args).run Try.prog w = .ok (.enter 46 args) w := enters_of Try.func46 (by kernel_rfl) rfl
theorem Try.ent47 : ∀ args w, (callFunc 47 args).run Try.prog w = .ok (.enter 47 args) w := enters_of Try.func47 (by kernel_rfl) rfl
theorem Try.ent48 : ∀ args w, (callFunc 48 args).run Try.prog w = .ok (.enter 48 args) w := enters_of Try.func48 (by kernel_rfl) rfl
theorem Try.ent49 : ∀ args w, (callFunc 49 args).run Try.prog w = .ok (.enter 49 args) w := enters_of Try.func49 (by kernel_rfl) rfl
theorem Try.ent50 : ∀ args w, (callFunc 50 args).run Try.prog w = .ok (.enter 50 args) w := enters_of Try.func50 (by kernel_rfl) rfl
theorem Try.ent51 : ∀ args w, (callFunc 51 args).run Try.prog w = .ok (.enter 51 args) w := enters_of Try.func51 (by kernel_rfl) rfl
theorem Try.ent52 : ∀ args w, (callFunc 52 args).run Try.prog w = .ok (.enter 52 args) w := enters_of Try.func52 (by kernel_rfl) rfl
theorem Try.ent53 : ∀ args w, (callFunc 53 args).run Try.prog w = .ok (.enter 53 args) w := enters_of Try.func53 (by kernel_rfl) rfl
theorem Try.ent54 : ∀ args w, (callFunc 54 args).run Try.prog w = .ok (.enter 54 args) w := enters_of Try.func54 (by kernel_rfl) rfl
theorem Try.ent55 : ∀ args w, (callFunc 55 args).run Try.prog w = .ok (.enter 55 args) w := enters_of Try.func55 (by kernel_rfl) rfl
theorem Try.ent56 : ∀ args w, (callFunc 56 args).run Try.prog w = .ok (.enter 56 args) w := enters_of Try.func56 (by kernel_rfl) rfl
theorem Try.ent57 : ∀ args w, (callFunc 57 args).run Try.prog w = .ok (.enter 57 args) w := enters_of Try.func57 (by kernel_rfl) rfl
theorem Try.ent58 : ∀ args w, (callFunc 58 args).run Try.prog w = .ok (.enter 58 args) w := enters_of Try.func58 (by kernel_rfl) rfl
theorem Try.ent59 : ∀ args w, (callFunc 59 args).run Try.prog w = .ok (.enter 59 args) w := enters_of Try.func59 (by kernel_rfl) rfl
theorem Try.ent60 : ∀ args w, (callFunc 60 args).run Try.prog w = .ok (.enter 60 args) w := enters_of Try.func60 (by kernel_rfl) rfl
theorem Try.ent61 : ∀ args w, (callFunc 61 args).run Try.prog w = .ok (.enter 61 args) w := enters_of Try.func61 (by kernel_rfl) rfl
theorem Try.ent62 : ∀ args w, (callFunc 62 args).run Try.prog w = .ok (.enter 62 args) w := enters_of Try.func62 (by kernel_rfl) rfl
theorem Try.ent63 : ∀ args w, (callFunc 63 args).run Try.prog w = .ok (.enter 63 args) w := enters_of Try.func63 (by kernel_rfl) rfl
theorem Try.ent64 : ∀ args w, (callFunc 64 args).run Try.prog w = .ok (.enter 64 args) w := enters_of Try.func64 (by kernel_rfl) rfl
theorem Try.ent65 : ∀ args w, (callFunc 65 args).run Try.prog w = .ok (.enter 65 args) w := enters_of Try.func65 (by kernel_rfl) rfl
theorem Try.ent66 : ∀ args w, (callFunc 66 args).run Try.prog w = .ok (.enter 66 args) w := enters_of Try.func66 (by kernel_rfl) rfl
theorem Try.ent67 : ∀ args w, (callFunc 67 args).run Try.prog w = .ok (.enter 67 args) w := enters_of Try.func67 (by kernel_rfl) rfl
theorem Try.ent68 : ∀ args w, (callFunc 68 args).run Try.prog w = .ok (.enter 68 args) w := enters_of Try.func68 (by kernel_rfl) rfl
theorem Try.ent69 : ∀ args w, (callFunc 69 args).run Try.prog w = .ok (.enter 69 args) w := enters_of Try.func69 (by kernel_rfl) rfl
theorem Try.ent70 : ∀ args w, (callFunc 70 args).run Try.prog w = .ok (.enter 70 args) w := enters_of Try.func70 (by kernel_rfl) rfl
theorem Try.ent71 : ∀ args w, (callFunc 71 args).run Try.prog w = .ok (.enter 71 args) w := enters_of Try.func71 (by kernel_rfl) rfl
theorem Try.ent72 : ∀ args w, (callFunc 72 args).run Try.prog w = .ok (.enter 72 args) w := enters_of Try.func72 (by kernel_rfl) rfl
theorem Try.ent73 : ∀ args w, (callFunc 73 args).run Try.prog w = .ok (.enter 73 args) w := enters_of Try.func73 (by kernel_rfl) rfl
theorem Try.ent74 : ∀ args w, (callFunc 74 args).run Try.prog w = .ok (.enter 74 args) w := enters_of Try.func74 (by kernel_rfl) rfl
theorem Try.ent75 : ∀ args w, (callFunc 75 args).run Try.prog w = .ok (.enter 75 args) w := enters_of Try.func75 (by kernel_rfl) rfl
theorem Try.ent76 : ∀ args w, (callFunc 76 args).run Try.prog w = .ok (.enter 76 args) w := enters_of Try.func76 (by kernel_rfl) rfl
theorem Try.ent77 : ∀ args w, (callFunc 77 args).run Try.prog w = .ok (.enter 77 args) w := enters_of Try.func77 (by kernel_rfl) rfl
theorem Try.ent78 : ∀ args w, (callFunc 78 args).run Try.prog w = .ok (.enter 78 args) w := enters_of Try.func78 (by kernel_rfl) rfl
theorem Try.ent79 : ∀ args w, (callFunc 79 args).run Try.prog w = .ok (.enter 79 args) w := enters_of Try.func79 (by kernel_rfl) rfl
theorem Try.ent80 : ∀ args w, (callFunc 80 args).run Try.prog w = .ok (.enter 80 args) w := enters_of Try.func80 (by kernel_rfl) rfl
theorem Try.ent81 : ∀ args w, (callFunc 81 args).run Try.prog w = .ok (.enter 81 args) w := enters_of Try.func81 (by kernel_rfl) rfl
theorem Try.ent82 : ∀ args w, (callFunc 82 args).run Try.prog w = .ok (.enter 82 args) w := enters_of Try.func82 (by kernel_rfl) rfl
theorem Try.ent83 : ∀ args w, (callFunc 83 args).run Try.prog w = .ok (.enter 83 args) w := enters_of Try.func83 (by kernel_rfl) rfl
theorem Try.ent84 : ∀ args w, (callFunc 84 args).run Try.prog w = .ok (.enter 84 args) w := enters_of Try.func84 (by kernel_rfl) rfl
theorem Try.ent85 : ∀ args w, (callFunc 85 args).run Try.prog w = .ok (.enter 85 args) w := enters_of Try.func85 (by kernel_rfl) rfl
theorem Try.ent86 : ∀ args w, (callFunc 86 args).run Try.prog w = .ok (.enter 86 args) w := enters_of Try.func86 (by kernel_rfl) rfl
theorem Try.ent87 : ∀ args w, (callFunc 87 args).run Try.prog w = .ok (.enter 87 args) w := enters_of Try.func87 (by kernel_rfl) rfl
theorem Try.ent88 : ∀ args w, (callFunc 88 args).run Try.prog w = .ok (.enter 88 args) w := enters_of Try.func88 (by kernel_rfl) rfl
theorem Try.ent89 : ∀ args w, (callFunc 89 args).run Try.prog w = .ok (.enter 89 args) w := enters_of Try.func89 (by kernel_rfl) rfl
theorem Try.ent90 : ∀ args w, (callFunc 90 args).run Try.prog w = .ok (.enter 90 args) w := enters_of Try.func90 (by kernel_rfl) rfl
theorem Try.ent91 : ∀ args w, (callFunc 91 args).run Try.prog w = .ok (.enter 91 args) w := enters_of Try.func91 (by kernel_rfl) rfl
theorem Try.ent92 : ∀ args w, (callFunc 92 args).run Try.prog w = .ok (.enter 92 args) w := enters_of Try.func92 (by kernel_rfl) rfl
theorem Try.ent93 : ∀ args w, (callFunc 93 args).run Try.prog w = .ok (.enter 93 args) w := enters_of Try.func93 (by kernel_rfl) rfl
theorem Try.ent94 : ∀ args w, (callFunc 94 args).run Try.prog w = .ok (.enter 94 args) w := enters_of Try.func94 (by kernel_rfl) rfl
theorem Try.ent97 : ∀ args w, (callFunc 97 args).run Try.prog w = .ok (.enter 97 args) w := enters_of Try.func97 (by kernel_rfl) rfl
theorem Try.ent98 : ∀ args w, (callFunc 98 args).run Try.prog w = .ok (.enter 98 args) w := enters_of Try.func98 (by kernel_rfl) rfl
theorem Try.ent99 : ∀ args w, (callFunc 99 args).run Try.prog w = .ok (.enter 99 args) w := enters_of Try.func99 (by kernel_rfl) rfl
theorem Try.ent100 : ∀ args w, (callFunc 100 args).run Try.prog w = .ok (.enter 100 args) w := enters_of Try.func100 (by kernel_rfl) rfl
theorem Try.ent102 : ∀ args w, (callFunc 102 args).run Try.prog w = .ok (.enter 102 args) w := enters_of Try.func102 (by kernel_rfl) rfl
theorem Try.ent103 : ∀ args w, (callFunc 103 args).run Try.prog w = .ok (.enter 103 args) w := enters_of Try.func103 (by kernel_rfl) rfl
theorem Try.ent114 : ∀ args w, (callFunc 114 args).run Try.prog w = .ok (.enter 114 args) w := enters_of Try.func114 (by kernel_rfl) rfl
theorem Try.ent115 : ∀ args w, (callFunc 115 args).run Try.prog w = .ok (.enter 115 args) w := enters_of Try.func115 (by kernel_rfl) rfl
theorem Try.ent129 : ∀ args w, (callFunc 129 args).run Try.prog w = .ok (.enter 129 args) w := enters_of Try.func129 (by kernel_rfl) rfl
theorem Try.ent134 : ∀ args w, (callFunc 134 args).run Try.prog w = .ok (.enter 134 args) w := enters_of Try.func134 (by kernel_rfl) rfl
end Go.Proofs.Ytkjniggdldpnoaa
