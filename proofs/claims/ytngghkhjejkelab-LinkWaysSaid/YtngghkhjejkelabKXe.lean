import Derived.Test.YtngghkhjejkelabKXc
import Derived.Test.YtngghkhjejkelabProg
import Derived.KernelRfl
set_option linter.unusedVariables false
set_option linter.unusedSimpArgs false
namespace Rx.S
open Go Rx Go.Proofs
set_option maxRecDepth 100000
abbrev z64 : K := .int .i64 (.n 0)
def tys : List (Nat × Ty) := [(1, ⟨.func, 1, 8, [.nilfn]⟩), (2, ⟨.int .i64, 1, 8, [z64]⟩), (3, ⟨.int .i64, 1, 8, [z64]⟩), (4, ⟨.bool, 1, 1, [.bool (.t false)]⟩), (5, ⟨.int .u8, 1, 1, [.int .u8 (.n 0)]⟩), (6, ⟨.int .u8, 1, 1, [.int .u8 (.n 0)]⟩), (7, ⟨.struct [(2, 0), (3, 1), (4, 2), (6, 3)], 4, 24, [z64, z64, .bool (.t false), .int .u8 (.n 0)]⟩), (8, ⟨.struct [(2, 0), (3, 1), (4, 2), (6, 3)], 4, 24, [z64, z64, .bool (.t false), .int .u8 (.n 0)]⟩), (9, ⟨.string, 1, 16, [.str (.s [])]⟩), (10, ⟨.string, 1, 16, [.str (.s [])]⟩), (11, ⟨.string, 1, 16, [.str (.s [])]⟩), (12, ⟨.int (.u64), 1, 8, [.int .u64 (.n 0)]⟩), (13, ⟨.struct [(9, 0), (12, 1)], 2, 24, [.str (.s []), .int .u64 (.n 0)]⟩), (14, ⟨.struct [(9, 0), (12, 1)], 2, 24, [.str (.s []), .int .u64 (.n 0)]⟩), (15, ⟨.ptr 88, 1, 8, [.nilptr]⟩), (16, ⟨.ptr 91, 1, 8, [.nilptr]⟩), (17, ⟨.ptr 101, 1, 8, [.nilptr]⟩), (18, ⟨.struct [(17, 0)], 1, 8, [.nilptr]⟩), (19, ⟨.struct [(17, 0)], 1, 8, [.nilptr]⟩), (21, ⟨.int (.i32), 1, 4, [.int .i32 (.n 0)]⟩), (22, ⟨.arr 8 3, 8, 64, [z64, z64, z64, z64, z64, z64, z64, z64]⟩), (23, ⟨.struct [(22, 0), (3, 8), (3, 9), (3, 10), (3, 11)], 12, 96, [z64, z64, z64, z64, z64, z64, z64, z64, z64, z64, z64, z64]⟩), (24, ⟨.struct [(22, 0), (3, 8), (3, 9), (3, 10), (3, 11)], 12, 96, [z64, z64, z64, z64, z64, z64, z64, z64, z64, z64, z64, z64]⟩), (25, ⟨.slice 30, 1, 24, [.nilslc]⟩), (26, ⟨.func, 1, 8, [.nilfn]⟩), (27, ⟨.func, 1, 8, [.nilfn]⟩), (28, ⟨.func, 1, 8, [.nilfn]⟩), (29, ⟨.func, 1, 8, [.nilfn]⟩), (30, ⟨.slice 32, 1, 24, [.nilslc]⟩), (31, ⟨.struct [(3, 0), (3, 1)], 2, 16, [z64, z64]⟩), (32, ⟨.struct [(3, 0), (3, 1)], 2, 16, [z64, z64]⟩), (33, ⟨.int .i64, 1, 8, [z64]⟩), (35, ⟨.func, 1, 8, [.nilfn]⟩), (36, ⟨.func, 1, 8, [.nilfn]⟩), (37, ⟨.arr 2 24, 24, 192, [z64, z64, z64, z64, z64, z64, z64, z64, z64, z64, z64, z64, z64, z64, z64, z64, z64, z64, z64, z64, z64, z64, z64, z64]⟩), (38, ⟨.arr 2 30, 2, 48, [.nilslc, .nilslc]⟩), (39, ⟨.arr 2 4, 2, 2, [.bool (.t false), .bool (.t false)]⟩), (40, ⟨.struct [(3, 0), (37, 1), (38, 25), (39, 27)], 29, 256, [z64, z64, z64, z64, z64, z64, z64, z64, z64, z64, z64, z64, z64, z64, z64, z64, z64, z64, z64, z64, z64, z64, z64, z64, z64, .nilslc, .nilslc, .bool (.t false), .bool (.t false)]⟩), (41, ⟨.struct [(3, 0), (37, 1), (38, 25), (39, 27)], 29, 256, [z64, z64, z64, z64, z64, z64, z64, z64, z64, z64, z64, z64, z64, z64, z64, z64, z64, z64, z64, z64, z64, z64, z64, z64, z64, .nilslc, .nilslc, .bool (.t false), .bool (.t false)]⟩), (42, ⟨.arr 2 32, 4, 32, [z64, z64, z64, z64]⟩), (44, ⟨.func, 1, 8, [.nilfn]⟩), (45, ⟨.func, 1, 8, [.nilfn]⟩), (47, ⟨.func, 1, 8, [.nilfn]⟩), (49, ⟨.func, 1, 8, [.nilfn]⟩), (50, ⟨.func, 1, 8, [.nilfn]⟩), (51, ⟨.func, 1, 8, [.nilfn]⟩), (52, ⟨.func, 1, 8, [.nilfn]⟩), (53, ⟨.func, 1, 8, [.nilfn]⟩), (54, ⟨.func, 1, 8, [.nilfn]⟩), (55, ⟨.struct [(24, 0), (30, 12)], 13, 120, [z64, z64, z64, z64, z64, z64, z64, z64, z64, z64, z64, z64, .nilslc]⟩), (56, ⟨.struct [(24, 0), (30, 12)], 13, 120, [z64, z64, z64, z64, z64, z64, z64, z64, z64, z64, z64, z64, .nilslc]⟩), (57, ⟨.arr 2 56, 26, 240, [z64, z64, z64, z64, z64, z64, z64, z64, z64, z64, z64, z64, .nilslc, z64, z64, z64, z64, z64, z64, z64, z64, z64, z64, z64, z64, .nilslc]⟩), (58, ⟨.func, 1, 8, [.nilfn]⟩), (60, ⟨.func, 1, 8, [.nilfn]⟩), (61, ⟨.func, 1, 8, [.nilfn]⟩), (62, ⟨.slice 67, 1, 24, [.nilslc]⟩), (63, ⟨.func, 1, 8, [.nilfn]⟩), (64, ⟨.ptr 24, 1, 8, [.nilptr]⟩), (65, ⟨.ptr 3, 1, 8, [.nilptr]⟩), (66, ⟨.struct [(65, 0), (3, 1)], 2, 16, [.nilptr, z64]⟩), (67, ⟨.struct [(65, 0), (3, 1)], 2, 16, [.nilptr, z64]⟩), (68, ⟨.func, 1, 8, [.nilfn]⟩), (69, ⟨.func, 1, 8, [.nilfn]⟩), (71, ⟨.func, 1, 8, [.nilfn]⟩), (72, ⟨.func, 1, 8, [.nilfn]⟩), (74, ⟨.func, 1, 8, [.nilfn]⟩), (75, ⟨.slice 3, 1, 24, [.nilslc]⟩), (76, ⟨.func, 1, 8, [.nilfn]⟩), (77, ⟨.func, 1, 8, [.nilfn]⟩), (78, ⟨.func, 1, 8, [.nilfn]⟩), (79, ⟨.func, 1, 8, [.nilfn]⟩), (80, ⟨.func, 1, 8, [.nilfn]⟩), (81, ⟨.func, 1, 8, [.nilfn]⟩), (82, ⟨.func, 1, 8, [.nilfn]⟩), (84, ⟨.func, 1, 8, [.nilfn]⟩), (85, ⟨.func, 1, 8, [.nilfn]⟩), (86, ⟨.func, 1, 8, [.nilfn]⟩), (87, ⟨.struct [(17, 0), (17, 1), (17, 2), (9, 3)], 4, 40, [.nilptr, .nilptr, .nilptr, .str (.s [])]⟩), (88, ⟨.struct [(17, 0), (17, 1), (17, 2), (9, 3)], 4, 40, [.nilptr, .nilptr, .nilptr, .str (.s [])]⟩), (89, ⟨.arr 0 16, 0, 0, []⟩), (90, ⟨.struct [(89, 0)], 0, 0, []⟩), (91, ⟨.struct [(89, 0)], 0, 0, []⟩), (92, ⟨.func, 1, 8, [.nilfn]⟩), (93, ⟨.int (.u32), 1, 4, [.int .u32 (.n 0)]⟩), (94, ⟨.int .u8, 1, 1, [.int .u8 (.n 0)]⟩), (95, ⟨.int .u8, 1, 1, [.int .u8 (.n 0)]⟩), (96, ⟨.func, 1, 8, [.nilfn]⟩), (97, ⟨.ptr 5, 1, 8, [.nilptr]⟩), (98, ⟨.int (.i32), 1, 4, [.int .i32 (.n 0)]⟩), (99, ⟨.int (.i32), 1, 4, [.int .i32 (.n 0)]⟩), (100, ⟨.struct [(12, 0), (12, 1), (93, 2), (94, 3), (5, 4), (5, 5), (95, 6), (96, 7), (97, 8), (98, 9), (99, 10)], 11, 48, [.int .u64 (.n 0), .int .u64 (.n 0), .int .u32 (.n 0), .int .u8 (.n 0), .int .u8 (.n 0), .int .u8 (.n 0), .int .u8 (.n 0), .nilfn, .nilptr, .int .i32 (.n 0), .int .i32 (.n 0)]⟩), (101, ⟨.struct [(12, 0), (12, 1), (93, 2), (94, 3), (5, 4), (5, 5), (95, 6), (96, 7), (97, 8), (98, 9), (99, 10)], 11, 48, [.int .u64 (.n 0), .int .u64 (.n 0), .int .u32 (.n 0), .int .u8 (.n 0), .int .u8 (.n 0), .int .u8 (.n 0), .int .u8 (.n 0), .nilfn, .nilptr, .int .i32 (.n 0), .int .i32 (.n 0)]⟩)]
def eqs : List (Nat × List (Nat × Srt)) := [(7, [(0, .int (.i64)), (1, .int (.i64)), (2, .bool), (3, .int (.u8))]), (8, [(0, .int (.i64)), (1, .int (.i64)), (2, .bool), (3, .int (.u8))]), (22, [(0, .int (.i64)), (1, .int (.i64)), (2, .int (.i64)), (3, .int (.i64)), (4, .int (.i64)), (5, .int (.i64)), (6, .int (.i64)), (7, .int (.i64))]), (23, [(0, .int (.i64)), (1, .int (.i64)), (2, .int (.i64)), (3, .int (.i64)), (4, .int (.i64)), (5, .int (.i64)), (6, .int (.i64)), (7, .int (.i64)), (8, .int (.i64)), (9, .int (.i64)), (10, .int (.i64)), (11, .int (.i64))]), (24, [(0, .int (.i64)), (1, .int (.i64)), (2, .int (.i64)), (3, .int (.i64)), (4, .int (.i64)), (5, .int (.i64)), (6, .int (.i64)), (7, .int (.i64)), (8, .int (.i64)), (9, .int (.i64)), (10, .int (.i64)), (11, .int (.i64))]), (31, [(0, .int (.i64)), (1, .int (.i64))]), (32, [(0, .int (.i64)), (1, .int (.i64))]), (37, [(0, .int (.i64)), (1, .int (.i64)), (2, .int (.i64)), (3, .int (.i64)), (4, .int (.i64)), (5, .int (.i64)), (6, .int (.i64)), (7, .int (.i64)), (8, .int (.i64)), (9, .int (.i64)), (10, .int (.i64)), (11, .int (.i64)), (12, .int (.i64)), (13, .int (.i64)), (14, .int (.i64)), (15, .int (.i64)), (16, .int (.i64)), (17, .int (.i64)), (18, .int (.i64)), (19, .int (.i64)), (20, .int (.i64)), (21, .int (.i64)), (22, .int (.i64)), (23, .int (.i64))]), (39, [(0, .bool), (1, .bool)]), (42, [(0, .int (.i64)), (1, .int (.i64)), (2, .int (.i64)), (3, .int (.i64))])]
theorem tysB : tys.all (fun x => x.2.okB Try.prog x.1) = true := by kernel_rfl
theorem tysOk : TysOK Try.prog tys := tysOK tysB
theorem eqsOk : EqsOK Try.prog eqs := eqsOK (by kernel_rfl)
theorem mixed : Try.prog.follows .mixedOrders = true := by kernel_rfl
theorem fn3 : FnOK Try.prog 3 Try.f3 := ⟨Try.func3, by kernel_rfl, by kernel_rfl⟩
theorem fn4 : FnOK Try.prog 4 Try.f4 := ⟨Try.func4, by kernel_rfl, by kernel_rfl⟩
theorem fn5 : FnOK Try.prog 5 Try.f5 := ⟨Try.func5, by kernel_rfl, by kernel_rfl⟩
theorem fn7 : FnOK Try.prog 7 Try.f7 := ⟨Try.func7, by kernel_rfl, by kernel_rfl⟩
theorem fn8 : FnOK Try.prog 8 Try.f8 := ⟨Try.func8, by kernel_rfl, by kernel_rfl⟩
theorem fn9 : FnOK Try.prog 9 Try.f9 := ⟨Try.func9, by kernel_rfl, by kernel_rfl⟩
theorem fn10 : FnOK Try.prog 10 Try.f10 := ⟨Try.func10, by kernel_rfl, by kernel_rfl⟩
theorem fn11 : FnOK Try.prog 11 Try.f11 := ⟨Try.func11, by kernel_rfl, by kernel_rfl⟩
theorem fn12 : FnOK Try.prog 12 Try.f12 := ⟨Try.func12, by kernel_rfl, by kernel_rfl⟩
theorem fn13 : FnOK Try.prog 13 Try.f13 := ⟨Try.func13, by kernel_rfl, by kernel_rfl⟩
theorem fn14 : FnOK Try.prog 14 Try.f14 := ⟨Try.func14, by kernel_rfl, by kernel_rfl⟩
theorem fn18 : FnOK Try.prog 18 Try.f18 := ⟨Try.func18, by kernel_rfl, by kernel_rfl⟩
theorem fn19 : FnOK Try.prog 19 Try.f19 := ⟨Try.func19, by kernel_rfl, by kernel_rfl⟩
theorem fn20 : FnOK Try.prog 20 Try.f20 := ⟨Try.func20, by kernel_rfl, by kernel_rfl⟩
theorem fn21 : FnOK Try.prog 21 Try.f21 := ⟨Try.func21, by kernel_rfl, by kernel_rfl⟩
theorem fn22 : FnOK Try.prog 22 Try.f22 := ⟨Try.func22, by kernel_rfl, by kernel_rfl⟩
theorem fn23 : FnOK Try.prog 23 Try.f23 := ⟨Try.func23, by kernel_rfl, by kernel_rfl⟩
theorem fn24 : FnOK Try.prog 24 Try.f24 := ⟨Try.func24, by kernel_rfl, by kernel_rfl⟩
theorem fn25 : FnOK Try.prog 25 Try.f25 := ⟨Try.func25, by kernel_rfl, by kernel_rfl⟩
theorem fn26 : FnOK Try.prog 26 Try.f26 := ⟨Try.func26, by kernel_rfl, by kernel_rfl⟩
theorem fn27 : FnOK Try.prog 27 Try.f27 := ⟨Try.func27, by kernel_rfl, by kernel_rfl⟩
theorem fn30 : FnOK Try.prog 30 Try.f30 := ⟨Try.func30, by kernel_rfl, by kernel_rfl⟩
theorem fn32 : FnOK Try.prog 32 Try.f32 := ⟨Try.func32, by kernel_rfl, by kernel_rfl⟩
theorem fn33 : FnOK Try.prog 33 Try.f33 := ⟨Try.func33, by kernel_rfl, by kernel_rfl⟩
theorem fn34 : FnOK Try.prog 34 Try.f34 := ⟨Try.func34, by kernel_rfl, by kernel_rfl⟩
theorem fn35 : FnOK Try.prog 35 Try.f35 := ⟨Try.func35, by kernel_rfl, by kernel_rfl⟩
theorem fn36 : FnOK Try.prog 36 Try.f36 := ⟨Try.func36, by kernel_rfl, by kernel_rfl⟩
theorem fn37 : FnOK Try.prog 37 Try.f37 := ⟨Try.func37, by kernel_rfl, by kernel_rfl⟩
theorem fn38 : FnOK Try.prog 38 Try.f38 := ⟨Try.func38, by kernel_rfl, by kernel_rfl⟩
theorem fn39 : FnOK Try.prog 39 Try.f39 := ⟨Try.func39, by kernel_rfl, by kernel_rfl⟩
theorem fn40 : FnOK Try.prog 40 Try.f40 := ⟨Try.func40, by kernel_rfl, by kernel_rfl⟩
theorem fn41 : FnOK Try.prog 41 Try.f41 := ⟨Try.func41, by kernel_rfl, by kernel_rfl⟩
theorem fn42 : FnOK Try.prog 42 Try.f42 := ⟨Try.func42, by kernel_rfl, by kernel_rfl⟩
theorem fn43 : FnOK Try.prog 43 Try.f43 := ⟨Try.func43, by kernel_rfl, by kernel_rfl⟩
theorem fn44 : FnOK Try.prog 44 Try.f44 := ⟨Try.func44, by kernel_rfl, by kernel_rfl⟩
theorem fn49 : FnOK Try.prog 49 Try.f49 := ⟨Try.func49, by kernel_rfl, by kernel_rfl⟩
theorem fn50 : FnOK Try.prog 50 Try.f50 := ⟨Try.func50, by kernel_rfl, by kernel_rfl⟩
theorem fn53 : FnOK Try.prog 53 Try.f53 := ⟨Try.func53, by kernel_rfl, by kernel_rfl⟩
theorem fn54 : FnOK Try.prog 54 Try.f54 := ⟨Try.func54, by kernel_rfl, by kernel_rfl⟩
theorem fn55 : FnOK Try.prog 55 Try.f55 := ⟨Try.func55, by kernel_rfl, by kernel_rfl⟩
theorem fn56 : FnOK Try.prog 56 Try.f56 := ⟨Try.func56, by kernel_rfl, by kernel_rfl⟩
theorem fn57 : FnOK Try.prog 57 Try.f57 := ⟨Try.func57, by kernel_rfl, by kernel_rfl⟩
theorem fn58 : FnOK Try.prog 58 Try.f58 := ⟨Try.func58, by kernel_rfl, by kernel_rfl⟩
theorem fn59 : FnOK Try.prog 59 Try.f59 := ⟨Try.func59, by kernel_rfl, by kernel_rfl⟩
theorem fn66 : FnOK Try.prog 66 Try.f66 := ⟨Try.func66, by kernel_rfl, by kernel_rfl⟩
end Rx.S
