import Derived.Test.YtkdhdjcngafocaaPXc
import Derived.Test.YtkdhdjcngafocaaProg
import Derived.KernelRfl
set_option linter.unusedVariables false
set_option linter.unusedSimpArgs false
namespace Rx.S
open Go Rx Go.Proofs
set_option maxRecDepth 100000
abbrev NU : K := .int .i64 (.n 0)
def Aw : List (Nat × Ty) := [(1, ⟨.func, 1, 8, [.nilfn]⟩), (2, ⟨.int .i64, 1, 8, [NU]⟩), (3, ⟨.int .i64, 1, 8, [NU]⟩), (4, ⟨.bool, 1, 1, [.bool (.t false)]⟩), (5, ⟨.int .u8, 1, 1, [.int .u8 (.n 0)]⟩), (6, ⟨.int .u8, 1, 1, [.int .u8 (.n 0)]⟩), (7, ⟨.struct [(2, 0), (3, 1), (4, 2), (6, 3)], 4, 24, [NU, NU, .bool (.t false), .int .u8 (.n 0)]⟩), (8, ⟨.struct [(2, 0), (3, 1), (4, 2), (6, 3)], 4, 24, [NU, NU, .bool (.t false), .int .u8 (.n 0)]⟩), (9, ⟨.string, 1, 16, [.str (.s [])]⟩), (10, ⟨.string, 1, 16, [.str (.s [])]⟩), (11, ⟨.string, 1, 16, [.str (.s [])]⟩), (12, ⟨.int (.u64), 1, 8, [.int .u64 (.n 0)]⟩), (13, ⟨.struct [(9, 0), (12, 1)], 2, 24, [.str (.s []), .int .u64 (.n 0)]⟩), (14, ⟨.struct [(9, 0), (12, 1)], 2, 24, [.str (.s []), .int .u64 (.n 0)]⟩), (15, ⟨.ptr 74, 1, 8, [.nilptr]⟩), (16, ⟨.ptr 77, 1, 8, [.nilptr]⟩), (17, ⟨.ptr 86, 1, 8, [.nilptr]⟩), (18, ⟨.struct [(17, 0)], 1, 8, [.nilptr]⟩), (19, ⟨.struct [(17, 0)], 1, 8, [.nilptr]⟩), (21, ⟨.int (.i32), 1, 4, [.int .i32 (.n 0)]⟩), (22, ⟨.slice 27, 1, 24, [.nilslc]⟩), (23, ⟨.struct [(3, 0), (3, 1)], 2, 16, [NU, NU]⟩), (24, ⟨.struct [(3, 0), (3, 1)], 2, 16, [NU, NU]⟩), (25, ⟨.func, 1, 8, [.nilfn]⟩), (26, ⟨.slice 3, 1, 24, [.nilslc]⟩), (27, ⟨.int (.u16), 1, 2, [.int .u16 (.n 0)]⟩), (28, ⟨.func, 1, 8, [.nilfn]⟩), (29, ⟨.func, 1, 8, [.nilfn]⟩), (30, ⟨.func, 1, 8, [.nilfn]⟩), (31, ⟨.func, 1, 8, [.nilfn]⟩), (32, ⟨.func, 1, 8, [.nilfn]⟩), (33, ⟨.struct [(3, 0), (26, 1), (24, 2), (3, 4), (3, 5)], 6, 64, [NU, .nilslc, NU, NU, NU, NU]⟩), (34, ⟨.struct [(3, 0), (26, 1), (24, 2), (3, 4), (3, 5)], 6, 64, [NU, .nilslc, NU, NU, NU, NU]⟩), (35, ⟨.int .i64, 1, 8, [NU]⟩), (37, ⟨.func, 1, 8, [.nilfn]⟩), (38, ⟨.func, 1, 8, [.nilfn]⟩), (39, ⟨.func, 1, 8, [.nilfn]⟩), (40, ⟨.func, 1, 8, [.nilfn]⟩), (41, ⟨.func, 1, 8, [.nilfn]⟩), (42, ⟨.func, 1, 8, [.nilfn]⟩), (43, ⟨.func, 1, 8, [.nilfn]⟩), (44, ⟨.func, 1, 8, [.nilfn]⟩), (45, ⟨.func, 1, 8, [.nilfn]⟩), (46, ⟨.func, 1, 8, [.nilfn]⟩), (47, ⟨.func, 1, 8, [.nilfn]⟩), (48, ⟨.func, 1, 8, [.nilfn]⟩), (49, ⟨.int (.u64), 1, 8, [.int .u64 (.n 0)]⟩), (50, ⟨.func, 1, 8, [.nilfn]⟩), (51, ⟨.func, 1, 8, [.nilfn]⟩), (52, ⟨.int .i64, 1, 8, [NU]⟩), (54, ⟨.func, 1, 8, [.nilfn]⟩), (55, ⟨.func, 1, 8, [.nilfn]⟩), (56, ⟨.func, 1, 8, [.nilfn]⟩), (58, ⟨.func, 1, 8, [.nilfn]⟩), (59, ⟨.func, 1, 8, [.nilfn]⟩), (60, ⟨.int (.u32), 1, 4, [.int .u32 (.n 0)]⟩), (61, ⟨.func, 1, 8, [.nilfn]⟩), (62, ⟨.int (.u64), 1, 8, [.int .u64 (.n 0)]⟩), (63, ⟨.int (.u64), 1, 8, [.int .u64 (.n 0)]⟩), (64, ⟨.func, 1, 8, [.nilfn]⟩), (65, ⟨.func, 1, 8, [.nilfn]⟩), (66, ⟨.func, 1, 8, [.nilfn]⟩), (67, ⟨.ptr 3, 1, 8, [.nilptr]⟩), (68, ⟨.func, 1, 8, [.nilfn]⟩), (69, ⟨.ptr 63, 1, 8, [.nilptr]⟩), (71, ⟨.func, 1, 8, [.nilfn]⟩), (72, ⟨.func, 1, 8, [.nilfn]⟩), (73, ⟨.struct [(17, 0), (17, 1), (17, 2), (9, 3)], 4, 40, [.nilptr, .nilptr, .nilptr, .str (.s [])]⟩), (74, ⟨.struct [(17, 0), (17, 1), (17, 2), (9, 3)], 4, 40, [.nilptr, .nilptr, .nilptr, .str (.s [])]⟩), (75, ⟨.arr 0 16, 0, 0, []⟩), (76, ⟨.struct [(75, 0)], 0, 0, []⟩), (77, ⟨.struct [(75, 0)], 0, 0, []⟩), (78, ⟨.func, 1, 8, [.nilfn]⟩), (79, ⟨.int .u8, 1, 1, [.int .u8 (.n 0)]⟩), (80, ⟨.int .u8, 1, 1, [.int .u8 (.n 0)]⟩), (81, ⟨.func, 1, 8, [.nilfn]⟩), (82, ⟨.ptr 5, 1, 8, [.nilptr]⟩), (83, ⟨.int (.i32), 1, 4, [.int .i32 (.n 0)]⟩), (84, ⟨.int (.i32), 1, 4, [.int .i32 (.n 0)]⟩), (85, ⟨.struct [(12, 0), (12, 1), (60, 2), (79, 3), (5, 4), (5, 5), (80, 6), (81, 7), (82, 8), (83, 9), (84, 10)], 11, 48, [.int .u64 (.n 0), .int .u64 (.n 0), .int .u32 (.n 0), .int .u8 (.n 0), .int .u8 (.n 0), .int .u8 (.n 0), .int .u8 (.n 0), .nilfn, .nilptr, .int .i32 (.n 0), .int .i32 (.n 0)]⟩), (86, ⟨.struct [(12, 0), (12, 1), (60, 2), (79, 3), (5, 4), (5, 5), (80, 6), (81, 7), (82, 8), (83, 9), (84, 10)], 11, 48, [.int .u64 (.n 0), .int .u64 (.n 0), .int .u32 (.n 0), .int .u8 (.n 0), .int .u8 (.n 0), .int .u8 (.n 0), .int .u8 (.n 0), .nilfn, .nilptr, .int .i32 (.n 0), .int .i32 (.n 0)]⟩)]
def eqs : List (Nat × List (Nat × Ak)) := [(7, [(0, .int (.i64)), (1, .int (.i64)), (2, .bool), (3, .int (.u8))]), (8, [(0, .int (.i64)), (1, .int (.i64)), (2, .bool), (3, .int (.u8))]), (23, [(0, .int (.i64)), (1, .int (.i64))]), (24, [(0, .int (.i64)), (1, .int (.i64))])]
theorem YR : Aw.all (fun x => x.2.okB Try.prog x.1) = true := by kernel_rfl
theorem Be : BE Try.prog Aw := XR YR
theorem Bo : S4 Try.prog eqs := XS (by kernel_rfl)
theorem mixed : Try.prog.follows .mixedOrders = true := by kernel_rfl
theorem Y8 : DG Try.prog 5 Try.f5 := ⟨Try.func5, by kernel_rfl, by kernel_rfl⟩
theorem Y1 : DG Try.prog 6 Try.f6 := ⟨Try.func6, by kernel_rfl, by kernel_rfl⟩
theorem YS : DG Try.prog 7 Try.f7 := ⟨Try.func7, by kernel_rfl, by kernel_rfl⟩
theorem Ys : DG Try.prog 8 Try.f8 := ⟨Try.func8, by kernel_rfl, by kernel_rfl⟩
theorem Y2 : DG Try.prog 9 Try.f9 := ⟨Try.func9, by kernel_rfl, by kernel_rfl⟩
theorem Xv : DG Try.prog 10 Try.f10 := ⟨Try.func10, by kernel_rfl, by kernel_rfl⟩
theorem X4 : DG Try.prog 11 Try.f11 := ⟨Try.func11, by kernel_rfl, by kernel_rfl⟩
theorem Xw : DG Try.prog 12 Try.f12 := ⟨Try.func12, by kernel_rfl, by kernel_rfl⟩
theorem X5 : DG Try.prog 13 Try.f13 := ⟨Try.func13, by kernel_rfl, by kernel_rfl⟩
theorem X6 : DG Try.prog 14 Try.f14 := ⟨Try.func14, by kernel_rfl, by kernel_rfl⟩
theorem Wx : DG Try.prog 15 Try.f15 := ⟨Try.func15, by kernel_rfl, by kernel_rfl⟩
theorem X7 : DG Try.prog 16 Try.f16 := ⟨Try.func16, by kernel_rfl, by kernel_rfl⟩
theorem X8 : DG Try.prog 17 Try.f17 := ⟨Try.func17, by kernel_rfl, by kernel_rfl⟩
theorem X9 : DG Try.prog 18 Try.f18 := ⟨Try.func18, by kernel_rfl, by kernel_rfl⟩
theorem Ya : DG Try.prog 19 Try.f19 := ⟨Try.func19, by kernel_rfl, by kernel_rfl⟩
theorem YT : DG Try.prog 20 Try.f20 := ⟨Try.func20, by kernel_rfl, by kernel_rfl⟩
theorem Xx : DG Try.prog 21 Try.f21 := ⟨Try.func21, by kernel_rfl, by kernel_rfl⟩
theorem Yb : DG Try.prog 22 Try.f22 := ⟨Try.func22, by kernel_rfl, by kernel_rfl⟩
theorem Xy : DG Try.prog 23 Try.f23 := ⟨Try.func23, by kernel_rfl, by kernel_rfl⟩
theorem Yc : DG Try.prog 24 Try.f24 := ⟨Try.func24, by kernel_rfl, by kernel_rfl⟩
theorem YU : DG Try.prog 25 Try.f25 := ⟨Try.func25, by kernel_rfl, by kernel_rfl⟩
theorem Yd : DG Try.prog 26 Try.f26 := ⟨Try.func26, by kernel_rfl, by kernel_rfl⟩
theorem Ye : DG Try.prog 27 Try.f27 := ⟨Try.func27, by kernel_rfl, by kernel_rfl⟩
theorem Yf : DG Try.prog 28 Try.f28 := ⟨Try.func28, by kernel_rfl, by kernel_rfl⟩
theorem YV : DG Try.prog 31 Try.f31 := ⟨Try.func31, by kernel_rfl, by kernel_rfl⟩
end Rx.S
