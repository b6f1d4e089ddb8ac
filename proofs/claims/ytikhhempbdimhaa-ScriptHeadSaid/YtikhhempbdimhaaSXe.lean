import Derived.Test.YtikhhempbdimhaaSXc
import Derived.Test.YtikhhempbdimhaaProg
import Derived.KernelRfl
set_option linter.unusedVariables false
set_option linter.unusedSimpArgs false
namespace Rx.S
open Go Rx Go.Proofs
set_option maxRecDepth 100000
abbrev A3 : K := .int .i64 (.n 0)
def Ay : List (Nat × Ty) := [(1, ⟨.func, 1, 8, [.nilfn]⟩), (2, ⟨.int .i64, 1, 8, [A3]⟩), (3, ⟨.int .i64, 1, 8, [A3]⟩), (4, ⟨.bool, 1, 1, [.bool (.t false)]⟩), (5, ⟨.int .u8, 1, 1, [.int .u8 (.n 0)]⟩), (6, ⟨.int .u8, 1, 1, [.int .u8 (.n 0)]⟩), (7, ⟨.struct [(2, 0), (3, 1), (4, 2), (6, 3)], 4, 24, [A3, A3, .bool (.t false), .int .u8 (.n 0)]⟩), (8, ⟨.struct [(2, 0), (3, 1), (4, 2), (6, 3)], 4, 24, [A3, A3, .bool (.t false), .int .u8 (.n 0)]⟩), (9, ⟨.string, 1, 16, [.str (.s [])]⟩), (10, ⟨.string, 1, 16, [.str (.s [])]⟩), (11, ⟨.string, 1, 16, [.str (.s [])]⟩), (12, ⟨.int (.u64), 1, 8, [.int .u64 (.n 0)]⟩), (13, ⟨.struct [(9, 0), (12, 1)], 2, 24, [.str (.s []), .int .u64 (.n 0)]⟩), (14, ⟨.struct [(9, 0), (12, 1)], 2, 24, [.str (.s []), .int .u64 (.n 0)]⟩), (15, ⟨.ptr 103, 1, 8, [.nilptr]⟩), (16, ⟨.ptr 106, 1, 8, [.nilptr]⟩), (17, ⟨.ptr 114, 1, 8, [.nilptr]⟩), (18, ⟨.struct [(17, 0)], 1, 8, [.nilptr]⟩), (19, ⟨.struct [(17, 0)], 1, 8, [.nilptr]⟩), (21, ⟨.int (.i32), 1, 4, [.int .i32 (.n 0)]⟩), (22, ⟨.func, 1, 8, [.nilfn]⟩), (23, ⟨.func, 1, 8, [.nilfn]⟩), (24, ⟨.slice 3, 1, 24, [.nilslc]⟩), (25, ⟨.struct [(3, 0), (3, 1)], 2, 16, [A3, A3]⟩), (26, ⟨.struct [(3, 0), (3, 1)], 2, 16, [A3, A3]⟩), (27, ⟨.slice 76, 1, 24, [.nilslc]⟩), (28, ⟨.arr 8 3, 8, 64, [A3, A3, A3, A3, A3, A3, A3, A3]⟩), (29, ⟨.struct [(28, 0), (3, 8), (3, 9), (3, 10), (3, 11)], 12, 96, [A3, A3, A3, A3, A3, A3, A3, A3, A3, A3, A3, A3]⟩), (30, ⟨.struct [(28, 0), (3, 8), (3, 9), (3, 10), (3, 11)], 12, 96, [A3, A3, A3, A3, A3, A3, A3, A3, A3, A3, A3, A3]⟩), (31, ⟨.arr 2 30, 24, 192, [A3, A3, A3, A3, A3, A3, A3, A3, A3, A3, A3, A3, A3, A3, A3, A3, A3, A3, A3, A3, A3, A3, A3, A3]⟩), (32, ⟨.slice 54, 1, 24, [.nilslc]⟩), (33, ⟨.struct [(3, 0), (24, 1), (26, 2), (4, 4), (27, 5), (31, 6), (32, 30)], 31, 296, [A3, .nilslc, A3, A3, .bool (.t false), .nilslc, A3, A3, A3, A3, A3, A3, A3, A3, A3, A3, A3, A3, A3, A3, A3, A3, A3, A3, A3, A3, A3, A3, A3, A3, .nilslc]⟩), (34, ⟨.struct [(3, 0), (24, 1), (26, 2), (4, 4), (27, 5), (31, 6), (32, 30)], 31, 296, [A3, .nilslc, A3, A3, .bool (.t false), .nilslc, A3, A3, A3, A3, A3, A3, A3, A3, A3, A3, A3, A3, A3, A3, A3, A3, A3, A3, A3, A3, A3, A3, A3, A3, .nilslc]⟩), (35, ⟨.func, 1, 8, [.nilfn]⟩), (36, ⟨.func, 1, 8, [.nilfn]⟩), (37, ⟨.func, 1, 8, [.nilfn]⟩), (38, ⟨.int .i64, 1, 8, [A3]⟩), (40, ⟨.func, 1, 8, [.nilfn]⟩), (41, ⟨.func, 1, 8, [.nilfn]⟩), (42, ⟨.func, 1, 8, [.nilfn]⟩), (43, ⟨.func, 1, 8, [.nilfn]⟩), (44, ⟨.ptr 46, 1, 8, [.nilptr]⟩), (45, ⟨.struct [(9, 0), (3, 1)], 2, 24, [.str (.s []), A3]⟩), (46, ⟨.struct [(9, 0), (3, 1)], 2, 24, [.str (.s []), A3]⟩), (47, ⟨.ptr 34, 1, 8, [.nilptr]⟩), (48, ⟨.func, 1, 8, [.nilfn]⟩), (49, ⟨.func, 1, 8, [.nilfn]⟩), (50, ⟨.func, 1, 8, [.nilfn]⟩), (51, ⟨.func, 1, 8, [.nilfn]⟩), (52, ⟨.arr 2 9, 2, 32, [.str (.s []), .str (.s [])]⟩), (53, ⟨.struct [(52, 0), (24, 2), (3, 3)], 4, 64, [.str (.s []), .str (.s []), .nilslc, A3]⟩), (54, ⟨.struct [(52, 0), (24, 2), (3, 3)], 4, 64, [.str (.s []), .str (.s []), .nilslc, A3]⟩), (55, ⟨.func, 1, 8, [.nilfn]⟩), (57, ⟨.func, 1, 8, [.nilfn]⟩), (58, ⟨.func, 1, 8, [.nilfn]⟩), (60, ⟨.func, 1, 8, [.nilfn]⟩), (61, ⟨.func, 1, 8, [.nilfn]⟩), (62, ⟨.func, 1, 8, [.nilfn]⟩), (63, ⟨.func, 1, 8, [.nilfn]⟩), (64, ⟨.ptr 67, 1, 8, [.nilptr]⟩), (65, ⟨.slice 5, 1, 24, [.nilslc]⟩), (66, ⟨.struct [(65, 0), (4, 1)], 2, 32, [.nilslc, .bool (.t false)]⟩), (67, ⟨.struct [(65, 0), (4, 1)], 2, 32, [.nilslc, .bool (.t false)]⟩), (68, ⟨.func, 1, 8, [.nilfn]⟩), (69, ⟨.func, 1, 8, [.nilfn]⟩), (70, ⟨.int (.u64), 1, 8, [.int .u64 (.n 0)]⟩), (71, ⟨.func, 1, 8, [.nilfn]⟩), (72, ⟨.func, 1, 8, [.nilfn]⟩), (73, ⟨.func, 1, 8, [.nilfn]⟩), (74, ⟨.func, 1, 8, [.nilfn]⟩), (75, ⟨.struct [(3, 0), (3, 1), (3, 2), (3, 3)], 4, 32, [A3, A3, A3, A3]⟩), (76, ⟨.struct [(3, 0), (3, 1), (3, 2), (3, 3)], 4, 32, [A3, A3, A3, A3]⟩), (77, ⟨.ptr 76, 1, 8, [.nilptr]⟩), (78, ⟨.ptr 30, 1, 8, [.nilptr]⟩), (79, ⟨.ptr 3, 1, 8, [.nilptr]⟩), (80, ⟨.slice 79, 1, 24, [.nilslc]⟩), (81, ⟨.func, 1, 8, [.nilfn]⟩), (82, ⟨.func, 1, 8, [.nilfn]⟩), (84, ⟨.func, 1, 8, [.nilfn]⟩), (85, ⟨.func, 1, 8, [.nilfn]⟩), (86, ⟨.func, 1, 8, [.nilfn]⟩), (87, ⟨.func, 1, 8, [.nilfn]⟩), (88, ⟨.func, 1, 8, [.nilfn]⟩), (89, ⟨.func, 1, 8, [.nilfn]⟩), (90, ⟨.func, 1, 8, [.nilfn]⟩), (91, ⟨.func, 1, 8, [.nilfn]⟩), (92, ⟨.func, 1, 8, [.nilfn]⟩), (93, ⟨.struct [(3, 0), (3, 1)], 2, 16, [A3, A3]⟩), (94, ⟨.struct [(3, 0), (3, 1)], 2, 16, [A3, A3]⟩), (95, ⟨.func, 1, 8, [.nilfn]⟩), (96, ⟨.func, 1, 8, [.nilfn]⟩), (97, ⟨.func, 1, 8, [.nilfn]⟩), (98, ⟨.int (.u32), 1, 4, [.int .u32 (.n 0)]⟩), (99, ⟨.func, 1, 8, [.nilfn]⟩), (100, ⟨.func, 1, 8, [.nilfn]⟩), (101, ⟨.func, 1, 8, [.nilfn]⟩), (102, ⟨.struct [(17, 0), (17, 1), (17, 2), (9, 3)], 4, 40, [.nilptr, .nilptr, .nilptr, .str (.s [])]⟩), (103, ⟨.struct [(17, 0), (17, 1), (17, 2), (9, 3)], 4, 40, [.nilptr, .nilptr, .nilptr, .str (.s [])]⟩), (104, ⟨.arr 0 16, 0, 0, []⟩), (105, ⟨.struct [(104, 0)], 0, 0, []⟩), (106, ⟨.struct [(104, 0)], 0, 0, []⟩), (107, ⟨.int .u8, 1, 1, [.int .u8 (.n 0)]⟩), (108, ⟨.int .u8, 1, 1, [.int .u8 (.n 0)]⟩), (109, ⟨.func, 1, 8, [.nilfn]⟩), (110, ⟨.ptr 5, 1, 8, [.nilptr]⟩), (111, ⟨.int (.i32), 1, 4, [.int .i32 (.n 0)]⟩), (112, ⟨.int (.i32), 1, 4, [.int .i32 (.n 0)]⟩), (113, ⟨.struct [(12, 0), (12, 1), (98, 2), (107, 3), (5, 4), (5, 5), (108, 6), (109, 7), (110, 8), (111, 9), (112, 10)], 11, 48, [.int .u64 (.n 0), .int .u64 (.n 0), .int .u32 (.n 0), .int .u8 (.n 0), .int .u8 (.n 0), .int .u8 (.n 0), .int .u8 (.n 0), .nilfn, .nilptr, .int .i32 (.n 0), .int .i32 (.n 0)]⟩), (114, ⟨.struct [(12, 0), (12, 1), (98, 2), (107, 3), (5, 4), (5, 5), (108, 6), (109, 7), (110, 8), (111, 9), (112, 10)], 11, 48, [.int .u64 (.n 0), .int .u64 (.n 0), .int .u32 (.n 0), .int .u8 (.n 0), .int .u8 (.n 0), .int .u8 (.n 0), .int .u8 (.n 0), .nilfn, .nilptr, .int .i32 (.n 0), .int .i32 (.n 0)]⟩)]
def eqs : List (Nat × List (Nat × Au)) := [(7, [(0, .int (.i64)), (1, .int (.i64)), (2, .bool), (3, .int (.u8))]), (8, [(0, .int (.i64)), (1, .int (.i64)), (2, .bool), (3, .int (.u8))]), (25, [(0, .int (.i64)), (1, .int (.i64))]), (26, [(0, .int (.i64)), (1, .int (.i64))]), (28, [(0, .int (.i64)), (1, .int (.i64)), (2, .int (.i64)), (3, .int (.i64)), (4, .int (.i64)), (5, .int (.i64)), (6, .int (.i64)), (7, .int (.i64))]), (29, [(0, .int (.i64)), (1, .int (.i64)), (2, .int (.i64)), (3, .int (.i64)), (4, .int (.i64)), (5, .int (.i64)), (6, .int (.i64)), (7, .int (.i64)), (8, .int (.i64)), (9, .int (.i64)), (10, .int (.i64)), (11, .int (.i64))]), (30, [(0, .int (.i64)), (1, .int (.i64)), (2, .int (.i64)), (3, .int (.i64)), (4, .int (.i64)), (5, .int (.i64)), (6, .int (.i64)), (7, .int (.i64)), (8, .int (.i64)), (9, .int (.i64)), (10, .int (.i64)), (11, .int (.i64))]), (31, [(0, .int (.i64)), (1, .int (.i64)), (2, .int (.i64)), (3, .int (.i64)), (4, .int (.i64)), (5, .int (.i64)), (6, .int (.i64)), (7, .int (.i64)), (8, .int (.i64)), (9, .int (.i64)), (10, .int (.i64)), (11, .int (.i64)), (12, .int (.i64)), (13, .int (.i64)), (14, .int (.i64)), (15, .int (.i64)), (16, .int (.i64)), (17, .int (.i64)), (18, .int (.i64)), (19, .int (.i64)), (20, .int (.i64)), (21, .int (.i64)), (22, .int (.i64)), (23, .int (.i64))]), (45, [(0, .str), (1, .int (.i64))]), (46, [(0, .str), (1, .int (.i64))]), (52, [(0, .str), (1, .str)]), (75, [(0, .int (.i64)), (1, .int (.i64)), (2, .int (.i64)), (3, .int (.i64))]), (76, [(0, .int (.i64)), (1, .int (.i64)), (2, .int (.i64)), (3, .int (.i64))]), (93, [(0, .int (.i64)), (1, .int (.i64))]), (94, [(0, .int (.i64)), (1, .int (.i64))])]
theorem Adl : Ay.all (fun x => x.2.okB Try.prog x.1) = true := by kernel_rfl
theorem AZ : B5 Try.prog Ay := Acq Adl
theorem A4 : W8 Try.prog eqs := Acr (by kernel_rfl)
theorem mixed : Try.prog.follows .mixedOrders = true := by kernel_rfl
theorem fn3 : BQ Try.prog 3 Try.f3 := ⟨Try.func3, by kernel_rfl, by kernel_rfl⟩
theorem fn4 : BQ Try.prog 4 Try.f4 := ⟨Try.func4, by kernel_rfl, by kernel_rfl⟩
theorem fn7 : BQ Try.prog 7 Try.f7 := ⟨Try.func7, by kernel_rfl, by kernel_rfl⟩
theorem fn8 : BQ Try.prog 8 Try.f8 := ⟨Try.func8, by kernel_rfl, by kernel_rfl⟩
theorem fn9 : BQ Try.prog 9 Try.f9 := ⟨Try.func9, by kernel_rfl, by kernel_rfl⟩
theorem Ab6 : BQ Try.prog 10 Try.f10 := ⟨Try.func10, by kernel_rfl, by kernel_rfl⟩
theorem Adm : BQ Try.prog 12 Try.f12 := ⟨Try.func12, by kernel_rfl, by kernel_rfl⟩
theorem Ab7 : BQ Try.prog 15 Try.f15 := ⟨Try.func15, by kernel_rfl, by kernel_rfl⟩
theorem AcE : BQ Try.prog 16 Try.f16 := ⟨Try.func16, by kernel_rfl, by kernel_rfl⟩
theorem AcF : BQ Try.prog 17 Try.f17 := ⟨Try.func17, by kernel_rfl, by kernel_rfl⟩
theorem AcG : BQ Try.prog 18 Try.f18 := ⟨Try.func18, by kernel_rfl, by kernel_rfl⟩
theorem AcH : BQ Try.prog 19 Try.f19 := ⟨Try.func19, by kernel_rfl, by kernel_rfl⟩
theorem AcI : BQ Try.prog 20 Try.f20 := ⟨Try.func20, by kernel_rfl, by kernel_rfl⟩
theorem AcJ : BQ Try.prog 21 Try.f21 := ⟨Try.func21, by kernel_rfl, by kernel_rfl⟩
theorem AcK : BQ Try.prog 22 Try.f22 := ⟨Try.func22, by kernel_rfl, by kernel_rfl⟩
theorem AcL : BQ Try.prog 23 Try.f23 := ⟨Try.func23, by kernel_rfl, by kernel_rfl⟩
theorem Adn : BQ Try.prog 24 Try.f24 := ⟨Try.func24, by kernel_rfl, by kernel_rfl⟩
theorem Ado : BQ Try.prog 25 Try.f25 := ⟨Try.func25, by kernel_rfl, by kernel_rfl⟩
theorem Ab8 : BQ Try.prog 26 Try.f26 := ⟨Try.func26, by kernel_rfl, by kernel_rfl⟩
theorem Adp : BQ Try.prog 27 Try.f27 := ⟨Try.func27, by kernel_rfl, by kernel_rfl⟩
theorem Adq : BQ Try.prog 29 Try.f29 := ⟨Try.func29, by kernel_rfl, by kernel_rfl⟩
theorem Adr : BQ Try.prog 30 Try.f30 := ⟨Try.func30, by kernel_rfl, by kernel_rfl⟩
theorem Ads : BQ Try.prog 31 Try.f31 := ⟨Try.func31, by kernel_rfl, by kernel_rfl⟩
theorem Adt : BQ Try.prog 32 Try.f32 := ⟨Try.func32, by kernel_rfl, by kernel_rfl⟩
theorem Adu : BQ Try.prog 33 Try.f33 := ⟨Try.func33, by kernel_rfl, by kernel_rfl⟩
theorem AcM : BQ Try.prog 39 Try.f39 := ⟨Try.func39, by kernel_rfl, by kernel_rfl⟩
theorem AcN : BQ Try.prog 40 Try.f40 := ⟨Try.func40, by kernel_rfl, by kernel_rfl⟩
theorem AcO : BQ Try.prog 41 Try.f41 := ⟨Try.func41, by kernel_rfl, by kernel_rfl⟩
theorem Adv : BQ Try.prog 43 Try.f43 := ⟨Try.func43, by kernel_rfl, by kernel_rfl⟩
theorem Adw : BQ Try.prog 44 Try.f44 := ⟨Try.func44, by kernel_rfl, by kernel_rfl⟩
theorem Adx : BQ Try.prog 45 Try.f45 := ⟨Try.func45, by kernel_rfl, by kernel_rfl⟩
theorem Ady : BQ Try.prog 46 Try.f46 := ⟨Try.func46, by kernel_rfl, by kernel_rfl⟩
theorem Adz : BQ Try.prog 47 Try.f47 := ⟨Try.func47, by kernel_rfl, by kernel_rfl⟩
theorem Ab9 : BQ Try.prog 50 Try.f50 := ⟨Try.func50, by kernel_rfl, by kernel_rfl⟩
theorem AcP : BQ Try.prog 51 Try.f51 := ⟨Try.func51, by kernel_rfl, by kernel_rfl⟩
theorem AcQ : BQ Try.prog 52 Try.f52 := ⟨Try.func52, by kernel_rfl, by kernel_rfl⟩
theorem AdA : BQ Try.prog 53 Try.f53 := ⟨Try.func53, by kernel_rfl, by kernel_rfl⟩
theorem AdB : BQ Try.prog 54 Try.f54 := ⟨Try.func54, by kernel_rfl, by kernel_rfl⟩
theorem AcR : BQ Try.prog 55 Try.f55 := ⟨Try.func55, by kernel_rfl, by kernel_rfl⟩
theorem AcS : BQ Try.prog 56 Try.f56 := ⟨Try.func56, by kernel_rfl, by kernel_rfl⟩
theorem AcT : BQ Try.prog 57 Try.f57 := ⟨Try.func57, by kernel_rfl, by kernel_rfl⟩
theorem AcU : BQ Try.prog 58 Try.f58 := ⟨Try.func58, by kernel_rfl, by kernel_rfl⟩
theorem AcV : BQ Try.prog 59 Try.f59 := ⟨Try.func59, by kernel_rfl, by kernel_rfl⟩
theorem AcW : BQ Try.prog 60 Try.f60 := ⟨Try.func60, by kernel_rfl, by kernel_rfl⟩
theorem AcX : BQ Try.prog 61 Try.f61 := ⟨Try.func61, by kernel_rfl, by kernel_rfl⟩
theorem AcY : BQ Try.prog 62 Try.f62 := ⟨Try.func62, by kernel_rfl, by kernel_rfl⟩
end Rx.S
