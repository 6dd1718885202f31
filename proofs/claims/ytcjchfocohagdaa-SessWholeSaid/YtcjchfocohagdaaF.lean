import Derived.Test.YtcjchfocohagdaaRows
import Derived.Test.YtcjchfocohagdaaQ5
import Derived.Test.YtcjchfocohagdaaQ7
import Derived.Test.YtcjchfocohagdaaQ4
import Derived.Test.YtcjchfocohagdaaB2
import Derived.Test.YtcjchfocohagdaaT0
import Derived.Shelf.Abstract
set_option linter.unusedVariables false
namespace Go.Proofs.Ytcjchfocohagdaa
open Go Go.Abs
theorem Try.mixed : Try.prog.follows .mixedOrders = true := by kernel_rfl
theorem Try.c3 : cells? Try.prog 3 = some 1 := by kernel_rfl
theorem Try.g3 : agg? Try.prog 3 = some false := by kernel_rfl
theorem Try.c9 : cells? Try.prog 9 = some 1 := by kernel_rfl
theorem Try.g9 : agg? Try.prog 9 = some false := by kernel_rfl
theorem Try.c22 : cells? Try.prog 22 = some 1 := by kernel_rfl
theorem Try.g22 : agg? Try.prog 22 = some false := by kernel_rfl
theorem Try.e22 : elem? Try.prog 22 = some 24 := by kernel_rfl
theorem Try.ap22 : appT? Try.prog 22 = some (24, 4, 40) := by kernel_rfl
theorem Try.c24 : cells? Try.prog 24 = some 4 := by kernel_rfl
theorem Try.g24 : agg? Try.prog 24 = some true := by kernel_rfl
theorem Try.q24 : eqT? Try.prog 24 = some (.agg [.int .i64, .str, .int .i64, .int .i64]) := by kernel_rfl
theorem Try.fd24_0 : field? Try.prog 24 0 = some (0, 3) := by kernel_rfl
theorem Try.fd24_1 : field? Try.prog 24 1 = some (1, 9) := by kernel_rfl
theorem Try.fd24_2 : field? Try.prog 24 2 = some (2, 3) := by kernel_rfl
theorem Try.fd24_3 : field? Try.prog 24 3 = some (3, 3) := by kernel_rfl
theorem Try.pl24 : places? Try.prog 24 = some [(0, 1), (1, 1), (2, 1), (3, 1)] := by kernel_rfl
theorem Try.z24 : zeros? Try.prog 24 = some [.int .i64 0, .string ⟨#[]⟩, .int .i64 0, .int .i64 0] := by kernel_rfl
theorem Try.c26 : cells? Try.prog 26 = some 1 := by kernel_rfl
theorem Try.g26 : agg? Try.prog 26 = some false := by kernel_rfl
theorem Try.e26 : elem? Try.prog 26 = some 31 := by kernel_rfl
theorem Try.ap26 : appT? Try.prog 26 = some (31, 4, 40) := by kernel_rfl
theorem Try.c31 : cells? Try.prog 31 = some 4 := by kernel_rfl
theorem Try.g31 : agg? Try.prog 31 = some true := by kernel_rfl
theorem Try.q31 : eqT? Try.prog 31 = some (.agg [.int .i64, .str, .int .i64, .int .i64]) := by kernel_rfl
theorem Try.fd31_0 : field? Try.prog 31 0 = some (0, 3) := by kernel_rfl
theorem Try.fd31_1 : field? Try.prog 31 1 = some (1, 9) := by kernel_rfl
theorem Try.fd31_2 : field? Try.prog 31 2 = some (2, 3) := by kernel_rfl
theorem Try.fd31_3 : field? Try.prog 31 3 = some (3, 3) := by kernel_rfl
theorem Try.pl31 : places? Try.prog 31 = some [(0, 1), (1, 1), (2, 1), (3, 1)] := by kernel_rfl
theorem Try.z31 : zeros? Try.prog 31 = some [.int .i64 0, .string ⟨#[]⟩, .int .i64 0, .int .i64 0] := by kernel_rfl
theorem Try.g40 : agg? Try.prog 40 = some true := by kernel_rfl
theorem Try.fd40_0 : field? Try.prog 40 0 = some (0, 3) := by kernel_rfl
theorem Try.fd40_1 : field? Try.prog 40 1 = some (1, 9) := by kernel_rfl
theorem Try.fd40_2 : field? Try.prog 40 2 = some (2, 3) := by kernel_rfl
theorem Try.fd40_3 : field? Try.prog 40 3 = some (3, 3) := by kernel_rfl
theorem Try.c42 : cells? Try.prog 42 = some 2 := by kernel_rfl
theorem Try.g42 : agg? Try.prog 42 = some true := by kernel_rfl
theorem Try.q42 : eqT? Try.prog 42 = some (.agg [.int .i64, .int .i64]) := by kernel_rfl
theorem Try.fd42_0 : field? Try.prog 42 0 = some (0, 3) := by kernel_rfl
theorem Try.fd42_1 : field? Try.prog 42 1 = some (1, 3) := by kernel_rfl
theorem Try.pl42 : places? Try.prog 42 = some [(0, 1), (1, 1)] := by kernel_rfl
theorem Try.z42 : zeros? Try.prog 42 = some [.int .i64 0, .int .i64 0] := by kernel_rfl
theorem Try.c44 : cells? Try.prog 44 = some 4 := by kernel_rfl
theorem Try.g44 : agg? Try.prog 44 = some true := by kernel_rfl
theorem Try.fd44_0 : field? Try.prog 44 0 = some (0, 42) := by kernel_rfl
theorem Try.fd44_1 : field? Try.prog 44 1 = some (2, 3) := by kernel_rfl
theorem Try.fd44_2 : field? Try.prog 44 2 = some (3, 3) := by kernel_rfl
theorem Try.pl44 : places? Try.prog 44 = some [(0, 2), (2, 1), (3, 1)] := by kernel_rfl
theorem Try.z44 : zeros? Try.prog 44 = some [.int .i64 0, .int .i64 0, .int .i64 0, .int .i64 0] := by kernel_rfl
theorem Try.c48 : cells? Try.prog 48 = some 4 := by kernel_rfl
theorem Try.g48 : agg? Try.prog 48 = some true := by kernel_rfl
theorem Try.q48 : eqT? Try.prog 48 = some (.agg [.int .i64, .int .i64, .int .i64, .int .i64]) := by kernel_rfl
theorem Try.fd48_0 : field? Try.prog 48 0 = some (0, 3) := by kernel_rfl
theorem Try.fd48_1 : field? Try.prog 48 1 = some (1, 3) := by kernel_rfl
theorem Try.fd48_2 : field? Try.prog 48 2 = some (2, 3) := by kernel_rfl
theorem Try.fd48_3 : field? Try.prog 48 3 = some (3, 3) := by kernel_rfl
theorem Try.pl48 : places? Try.prog 48 = some [(0, 1), (1, 1), (2, 1), (3, 1)] := by kernel_rfl
theorem Try.z48 : zeros? Try.prog 48 = some [.int .i64 0, .int .i64 0, .int .i64 0, .int .i64 0] := by kernel_rfl
theorem Try.g59 : agg? Try.prog 59 = some true := by kernel_rfl
theorem Try.ar59 : arr? Try.prog 59 = some (2, 22) := by kernel_rfl
theorem Try.e61 : elem? Try.prog 61 = some 48 := by kernel_rfl
theorem Try.ap61 : appT? Try.prog 61 = some (48, 4, 32) := by kernel_rfl
theorem Try.e63 : elem? Try.prog 63 = some 44 := by kernel_rfl
theorem Try.ap63 : appT? Try.prog 63 = some (44, 4, 32) := by kernel_rfl
theorem Try.e67 : elem? Try.prog 67 = some 9 := by kernel_rfl
theorem Try.ap67 : appT? Try.prog 67 = some (9, 1, 16) := by kernel_rfl
theorem Try.g75 : agg? Try.prog 75 = some false := by kernel_rfl
theorem Try.e75 : elem? Try.prog 75 = some 3 := by kernel_rfl
theorem Try.ap75 : appT? Try.prog 75 = some (3, 1, 8) := by kernel_rfl
theorem Try.e76 : elem? Try.prog 76 = some 42 := by kernel_rfl
theorem Try.ap76 : appT? Try.prog 76 = some (42, 2, 16) := by kernel_rfl
theorem Try.e104 : elem? Try.prog 104 = some 26 := by kernel_rfl
theorem Try.ap104 : appT? Try.prog 104 = some (26, 1, 24) := by kernel_rfl
theorem Try.ent10 : ∀ args w, (callFunc 10 args).run Try.prog w = .ok (.enter 10 args) w := enters_of Try.func10 (by kernel_rfl) rfl
theorem Try.ent11 : ∀ args w, (callFunc 11 args).run Try.prog w = .ok (.enter 11 args) w := enters_of Try.func11 (by kernel_rfl) rfl
theorem Try.ent12 : ∀ args w, (callFunc 12 args).run Try.prog w = .ok (.enter 12 args) w := enters_of Try.func12 (by kernel_rfl) rfl
theorem Try.ent13 : ∀ args w, (callFunc 13 args).run Try.prog w = .ok (.enter 13 args) w := enters_of Try.func13 (by kernel_rfl) rfl
theorem Try.ent14 : ∀ args w, (callFunc 14 args).run Try.prog w = .ok (.enter 14 args) w := enters_of Try.func14 (by kernel_rfl) rfl
theorem Try.ent15 : ∀ args w, (callFunc 15 args).run Try.prog w = .ok (.enter 15 args) w := enters_of Try.func15 (by kernel_rfl) rfl
theorem Try.ent16 : ∀ args w, (callFunc 16 args).run Try.prog w = .ok (.enter 16 args) w := enters_of Try.func16 (by kernel_rfl) rfl
theorem Try.ent17 : ∀ args w, (callFunc 17 args).run Try.prog w = .ok (.enter 17 args) w := enters_of Try.func17 (by kernel_rfl) rfl
theorem Try.ent18 : ∀ args w, (callFunc 18 args).run Try.prog w = .ok (.enter 18 args) w := enters_of Try.func18 (by kernel_rfl) rfl
theorem Try.ent19 : ∀ args w, (callFunc 19 args).run Try.prog w = .ok (.enter 19 args) w := enters_of Try.func19 (by kernel_rfl) rfl
theorem Try.ent20 : ∀ args w, (callFunc 20 args).run Try.prog w = .ok (.enter 20 args) w := enters_of Try.func20 (by kernel_rfl) rfl
theorem Try.ent21 : ∀ args w, (callFunc 21 args).run Try.prog w = .ok (.enter 21 args) w := enters_of Try.func21 (by kernel_rfl) rfl
theorem Try.ent22 : ∀ args w, (callFunc 22 args).run Try.prog w = .ok (.enter 22 args) w := enters_of Try.func22 (by kernel_rfl) rfl
theorem Try.ent23 : ∀ args w, (callFunc 23 args).run Try.prog w = .ok (.enter 23 args) w := enters_of Try.func23 (by kernel_rfl) rfl
theorem Try.ent24 : ∀ args w, (callFunc 24 args).run Try.prog w = .ok (.enter 24 args) w := enters_of Try.func24 (by kernel_rfl) rfl
theorem Try.ent25 : ∀ args w, (callFunc 25 args).run Try.prog w = .ok (.enter 25 args) w := enters_of Try.func25 (by kernel_rfl) rfl
theorem Try.ent26 : ∀ args w, (callFunc 26 args).run Try.prog w = .ok (.enter 26 args) w := enters_of Try.func26 (by kernel_rfl) rfl
theorem Try.ent27 : ∀ args w, (callFunc 27 args).run Try.prog w = .ok (.enter 27 args) w := enters_of Try.func27 (by kernel_rfl) rfl
theorem Try.ent28 : ∀ args w, (callFunc 28 args).run Try.prog w = .ok (.enter 28 args) w := enters_of Try.func28 (by kernel_rfl) rfl
theorem Try.ent29 : ∀ args w, (callFunc 29 args).run Try.prog w = .ok (.enter 29 args) w := enters_of Try.func29 (by kernel_rfl) rfl
theorem Try.ent30 : ∀ args w, (callFunc 30 args).run Try.prog w = .ok (.enter 30 args) w := enters_of Try.func30 (by kernel_rfl) rfl
theorem Try.ent31 : ∀ args w, (callFunc 31 args).run Try.prog w = .ok (.enter 31 args) w := enters_of Try.func31 (by kernel_rfl) rfl
theorem Try.ent32 : ∀ args w, (callFunc 32 args).run Try.prog w = .ok (.enter 32 args) w := enters_of Try.func32 (by kernel_rfl) rfl
theorem Try.ent33 : ∀ args w, (callFunc 33 args).run Try.prog w = .ok (.enter 33 args) w := enters_of Try.func33 (by kernel_rfl) rfl
theorem Try.ent34 : ∀ args w, (callFunc 34 args).run Try.prog w = .ok (.enter 34 args) w := enters_of Try.func34 (by kernel_rfl) rfl
theorem Try.ent35 : ∀ args w, (callFunc 35 args).run Try.prog w = .ok (.enter 35 args) w := enters_of Try.func35 (by kernel_rfl) rfl
theorem Try.ent36 : ∀ args w, (callFunc 36 args).run Try.prog w = .ok (.enter 36 args) w := enters_of Try.func36 (by kernel_rfl) rfl
theorem Try.ent37 : ∀ args w, (callFunc 37 args).run Try.prog w = .ok (.enter 37 args) w := enters_of Try.func37 (by kernel_rfl) rfl
theorem Try.ent38 : ∀ args w, (callFunc 38 args).run Try.prog w = .ok (.enter 38 args) w := enters_of Try.func38 (by kernel_rfl) rfl
theorem Try.ent39 : ∀ args w, (callFunc 39 args).run Try.prog w = .ok (.enter 39 args) w := enters_of Try.func39 (by kernel_rfl) rfl
theorem Try.ent40 : ∀ args w, (callFunc 40 args).run Try.prog w = .ok (.enter 40 args) w := enters_of Try.func40 (by kernel_rfl) rfl
theorem Try.ent41 : ∀ args w, (callFunc 41 args).run Try.prog w = .ok (.enter 41 args) w := enters_of Try.func41 (by kernel_rfl) rfl
theorem Try.ent42 : ∀ args w, (callFunc 42 args).run Try.prog w = .ok (.enter 42 args) w := enters_of Try.func42 (by kernel_rfl) rfl
theorem Try.ent43 : ∀ args w, (callFunc 43 args).run Try.prog w = .ok (.enter 43 args) w := enters_of Try.func43 (by kernel_rfl) rfl
theorem Try.ent44 : ∀ args w, (callFunc 44 args).run Try.prog w = .ok (.enter 44 args) w := enters_of Try.func44 (by kernel_rfl) rfl
theorem Try.ent45 : ∀ args w, (callFunc 45 args).run Try.prog w = .ok (.enter 45 args) w := enters_of Try.func45 (by kernel_rfl) rfl
theorem Try.ent46 : ∀ args w, (callFunc 46 args).run Try.prog w = .ok (.enter 46 args) w := enters_of Try.func46 (by kernel_rfl) rfl
theorem Try.ent47 : ∀ args w, (callFunc 47 args).run Try.prog w = .ok (.enter 47 args) w := enters_of Try.func47 (by kernel_rfl) rfl
theorem Try.ent48 : ∀ args w, (callFunc 48 args).run Try.prog w = .ok (.enter 48 args) w := enters_of Try.func48 (by kernel_rfl) rfl
theorem Try.ent49 : ∀ args w, (callFunc 49 args).run Try.prog w = .ok (.enter 49 args) w := enters_of Try.func49 (by kernel_rfl) rfl
theorem Try.ent50 : ∀ args w, (callFunc 50 args).run Try.prog w = .ok (.enter 50 args) w := enters_of Try.func50 (by kernel_rfl) rfl
theorem Try.ent51 : ∀ args w, (callFunc 51 args).run Try.prog w = .ok (.enter 51 args) w := enters_of Try.func51 (by kernel_rfl) rfl
theorem Try.ent52 : ∀ args w, (callFunc 52 args).run Try.prog w = .ok (.enter 52 args) w := enters_of Try.func52 (by kernel_rfl) rfl
theorem Try.ent53 : ∀ args w, (callFunc 53 args).run Try.prog w = .ok (.enter 53 args) w := enters_of Try.func53 (by kernel_rfl) rfl
theorem Try.ent54 : ∀ args w, (callFunc 54 args).run Try.prog w = .ok (.enter 54 args) w := enters_of Try.func54 (by kernel_rfl) rfl
theorem Try.ent55 : ∀ args w, (callFunc 55 args).run Try.prog w = .ok (.enter 55 args) w := enters_of Try.func55 (by kernel_rfl) rfl
theorem Try.ent56 : ∀ args w, (callFunc 56 args).run Try.prog w = .ok (.enter 56 args) w := enters_of Try.func56 (by kernel_rfl) rfl
theorem Try.ent57 : ∀ args w, (callFunc 57 args).run Try.prog w = .ok (.enter 57 args) w := enters_of Try.func57 (by kernel_rfl) rfl
theorem Try.ent58 : ∀ args w, (callFunc 58 args).run Try.prog w = .ok (.enter 58 args) w := enters_of Try.func58 (by kernel_rfl) rfl
theorem Try.ent59 : ∀ args w, (callFunc 59 args).run Try.prog w = .ok (.enter 59 args) w := enters_of Try.func59 (by kernel_rfl) rfl
theorem Try.ent60 : ∀ args w, (callFunc 60 args).run Try.prog w = .ok (.enter 60 args) w := enters_of Try.func60 (by kernel_rfl) rfl
theorem Try.ent61 : ∀ args w, (callFunc 61 args).run Try.prog w = .ok (.enter 61 args) w := enters_of Try.func61 (by kernel_rfl) rfl
theorem Try.ent62 : ∀ args w, (callFunc 62 args).run Try.prog w = .ok (.enter 62 args) w := enters_of Try.func62 (by kernel_rfl) rfl
theorem Try.ent63 : ∀ args w, (callFunc 63 args).run Try.prog w = .ok (.enter 63 args) w := enters_of Try.func63 (by kernel_rfl) rfl
theorem Try.ent64 : ∀ args w, (callFunc 64 args).run Try.prog w = .ok (.enter 64 args) w := enters_of Try.func64 (by kernel_rfl) rfl
theorem Try.ent65 : ∀ args w, (callFunc 65 args).run Try.prog w = .ok (.enter 65 args) w := enters_of Try.func65 (by kernel_rfl) rfl
theorem Try.ent66 : ∀ args w, (callFunc 66 args).run Try.prog w = .ok (.enter 66 args) w := enters_of Try.func66 (by kernel_rfl) rfl
theorem Try.ent67 : ∀ args w, (callFunc 67 args).run Try.prog w = .ok (.enter 67 args) w := enters_of Try.func67 (by kernel_rfl) rfl
theorem Try.ent68 : ∀ args w, (callFunc 68 args).run Try.prog w = .ok (.enter 68 args) w := enters_of Try.func68 (by kernel_rfl) rfl
theorem Try.ent69 : ∀ args w, (callFunc 69 args).run Try.prog w = .ok (.enter 69 args) w := enters_of Try.func69 (by kernel_rfl) rfl
theorem Try.ent70 : ∀ args w, (callFunc 70 args).run Try.prog w = .ok (.enter 70 args) w := enters_of Try.func70 (by kernel_rfl) rfl
theorem Try.ent71 : ∀ args w, (callFunc 71 args).run Try.prog w = .ok (.enter 71 args) w := enters_of Try.func71 (by kernel_rfl) rfl
theorem Try.ent72 : ∀ args w, (callFunc 72 args).run Try.prog w = .ok (.enter 72 args) w := enters_of Try.func72 (by kernel_rfl) rfl
theorem Try.ent73 : ∀ args w, (callFunc 73 args).run Try.prog w = .ok (.enter 73 args) w := enters_of Try.func73 (by kernel_rfl) rfl
theorem Try.ent74 : ∀ args w, (callFunc 74 args).run Try.prog w = .ok (.enter 74 args) w := enters_of Try.func74 (by kernel_rfl) rfl
theorem Try.ent77 : ∀ args w, (callFunc 77 args).run Try.prog w = .ok (.enter 77 args) w := enters_of Try.func77 (by kernel_rfl) rfl
theorem Try.ent78 : ∀ args w, (callFunc 78 args).run Try.prog w = .ok (.enter 78 args) w := enters_of Try.func78 (by kernel_rfl) rfl
theorem Try.ent79 : ∀ args w, (callFunc 79 args).run Try.prog w = .ok (.enter 79 args) w := enters_of Try.func79 (by kernel_rfl) rfl
theorem Try.ent81 : ∀ args w, (callFunc 81 args).run Try.prog w = .ok (.enter 81 args) w := enters_of Try.func81 (by kernel_rfl) rfl
theorem Try.ent92 : ∀ args w, (callFunc 92 args).run Try.prog w = .ok (.enter 92 args) w := enters_of Try.func92 (by kernel_rfl) rfl
theorem Try.ent101 : ∀ args w, (callFunc 101 args).run Try.prog w = .ok (.enter 101 args) w := enters_of Try.func101 (by kernel_rfl) rfl
theorem Try.ent107 : ∀ args w, (callFunc 107 args).run Try.prog w = .ok (.enter 107 args) w := enters_of Try.func107 (by kernel_rfl) rfl
end Go.Proofs.Ytcjchfocohagdaa
