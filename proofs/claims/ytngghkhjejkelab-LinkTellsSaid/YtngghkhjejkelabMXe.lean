import Derived.Test.YtngghkhjejkelabMXc
import Derived.Test.YtngghkhjejkelabProg
import Derived.KernelRfl
set_option linter.unusedVariables false
set_option linter.unusedSimpArgs false
namespace Rx.S
open Go Rx Go.Proofs
set_option maxRecDepth 100000
abbrev A0 : K := .int .i64 (.n 0)
def At : List (Nat × Ty) := [(1, ⟨.func, 1, 8, [.nilfn]⟩), (2, ⟨.int .i64, 1, 8, [A0]⟩), (3, ⟨.int .i64, 1, 8, [A0]⟩), (4, ⟨.bool, 1, 1, [.bool (.t false)]⟩), (5, ⟨.int .u8, 1, 1, [.int .u8 (.n 0)]⟩), (6, ⟨.int .u8, 1, 1, [.int .u8 (.n 0)]⟩), (7, ⟨.struct [(2, 0), (3, 1), (4, 2), (6, 3)], 4, 24, [A0, A0, .bool (.t false), .int .u8 (.n 0)]⟩), (8, ⟨.struct [(2, 0), (3, 1), (4, 2), (6, 3)], 4, 24, [A0, A0, .bool (.t false), .int .u8 (.n 0)]⟩), (9, ⟨.string, 1, 16, [.str (.s [])]⟩), (10, ⟨.string, 1, 16, [.str (.s [])]⟩), (11, ⟨.string, 1, 16, [.str (.s [])]⟩), (12, ⟨.int (.u64), 1, 8, [.int .u64 (.n 0)]⟩), (13, ⟨.struct [(9, 0), (12, 1)], 2, 24, [.str (.s []), .int .u64 (.n 0)]⟩), (14, ⟨.struct [(9, 0), (12, 1)], 2, 24, [.str (.s []), .int .u64 (.n 0)]⟩), (15, ⟨.ptr 88, 1, 8, [.nilptr]⟩), (16, ⟨.ptr 91, 1, 8, [.nilptr]⟩), (17, ⟨.ptr 101, 1, 8, [.nilptr]⟩), (18, ⟨.struct [(17, 0)], 1, 8, [.nilptr]⟩), (19, ⟨.struct [(17, 0)], 1, 8, [.nilptr]⟩), (21, ⟨.int (.i32), 1, 4, [.int .i32 (.n 0)]⟩), (22, ⟨.arr 8 3, 8, 64, [A0, A0, A0, A0, A0, A0, A0, A0]⟩), (23, ⟨.struct [(22, 0), (3, 8), (3, 9), (3, 10), (3, 11)], 12, 96, [A0, A0, A0, A0, A0, A0, A0, A0, A0, A0, A0, A0]⟩), (24, ⟨.struct [(22, 0), (3, 8), (3, 9), (3, 10), (3, 11)], 12, 96, [A0, A0, A0, A0, A0, A0, A0, A0, A0, A0, A0, A0]⟩), (25, ⟨.slice 30, 1, 24, [.nilslc]⟩), (26, ⟨.func, 1, 8, [.nilfn]⟩), (27, ⟨.func, 1, 8, [.nilfn]⟩), (28, ⟨.func, 1, 8, [.nilfn]⟩), (29, ⟨.func, 1, 8, [.nilfn]⟩), (30, ⟨.slice 32, 1, 24, [.nilslc]⟩), (31, ⟨.struct [(3, 0), (3, 1)], 2, 16, [A0, A0]⟩), (32, ⟨.struct [(3, 0), (3, 1)], 2, 16, [A0, A0]⟩), (33, ⟨.int .i64, 1, 8, [A0]⟩), (35, ⟨.func, 1, 8, [.nilfn]⟩), (36, ⟨.func, 1, 8, [.nilfn]⟩), (37, ⟨.arr 2 24, 24, 192, [A0, A0, A0, A0, A0, A0, A0, A0, A0, A0, A0, A0, A0, A0, A0, A0, A0, A0, A0, A0, A0, A0, A0, A0]⟩), (38, ⟨.arr 2 30, 2, 48, [.nilslc, .nilslc]⟩), (39, ⟨.arr 2 4, 2, 2, [.bool (.t false), .bool (.t false)]⟩), (40, ⟨.struct [(3, 0), (37, 1), (38, 25), (39, 27)], 29, 256, [A0, A0, A0, A0, A0, A0, A0, A0, A0, A0, A0, A0, A0, A0, A0, A0, A0, A0, A0, A0, A0, A0, A0, A0, A0, .nilslc, .nilslc, .bool (.t false), .bool (.t false)]⟩), (41, ⟨.struct [(3, 0), (37, 1), (38, 25), (39, 27)], 29, 256, [A0, A0, A0, A0, A0, A0, A0, A0, A0, A0, A0, A0, A0, A0, A0, A0, A0, A0, A0, A0, A0, A0, A0, A0, A0, .nilslc, .nilslc, .bool (.t false), .bool (.t false)]⟩), (42, ⟨.arr 2 32, 4, 32, [A0, A0, A0, A0]⟩), (44, ⟨.func, 1, 8, [.nilfn]⟩), (45, ⟨.func, 1, 8, [.nilfn]⟩), (47, ⟨.func, 1, 8, [.nilfn]⟩), (49, ⟨.func, 1, 8, [.nilfn]⟩), (50, ⟨.func, 1, 8, [.nilfn]⟩), (51, ⟨.func, 1, 8, [.nilfn]⟩), (52, ⟨.func, 1, 8, [.nilfn]⟩), (53, ⟨.func, 1, 8, [.nilfn]⟩), (54, ⟨.func, 1, 8, [.nilfn]⟩), (55, ⟨.struct [(24, 0), (30, 12)], 13, 120, [A0, A0, A0, A0, A0, A0, A0, A0, A0, A0, A0, A0, .nilslc]⟩), (56, ⟨.struct [(24, 0), (30, 12)], 13, 120, [A0, A0, A0, A0, A0, A0, A0, A0, A0, A0, A0, A0, .nilslc]⟩), (57, ⟨.arr 2 56, 26, 240, [A0, A0, A0, A0, A0, A0, A0, A0, A0, A0, A0, A0, .nilslc, A0, A0, A0, A0, A0, A0, A0, A0, A0, A0, A0, A0, .nilslc]⟩), (58, ⟨.func, 1, 8, [.nilfn]⟩), (60, ⟨.func, 1, 8, [.nilfn]⟩), (61, ⟨.func, 1, 8, [.nilfn]⟩), (62, ⟨.slice 67, 1, 24, [.nilslc]⟩), (63, ⟨.func, 1, 8, [.nilfn]⟩), (64, ⟨.ptr 24, 1, 8, [.nilptr]⟩), (65, ⟨.ptr 3, 1, 8, [.nilptr]⟩), (66, ⟨.struct [(65, 0), (3, 1)], 2, 16, [.nilptr, A0]⟩), (67, ⟨.struct [(65, 0), (3, 1)], 2, 16, [.nilptr, A0]⟩), (68, ⟨.func, 1, 8, [.nilfn]⟩), (69, ⟨.func, 1, 8, [.nilfn]⟩), (71, ⟨.func, 1, 8, [.nilfn]⟩), (72, ⟨.func, 1, 8, [.nilfn]⟩), (74, ⟨.func, 1, 8, [.nilfn]⟩), (75, ⟨.slice 3, 1, 24, [.nilslc]⟩), (76, ⟨.func, 1, 8, [.nilfn]⟩), (77, ⟨.func, 1, 8, [.nilfn]⟩), (78, ⟨.func, 1, 8, [.nilfn]⟩), (79, ⟨.func, 1, 8, [.nilfn]⟩), (80, ⟨.func, 1, 8, [.nilfn]⟩), (81, ⟨.func, 1, 8, [.nilfn]⟩), (82, ⟨.func, 1, 8, [.nilfn]⟩), (84, ⟨.func, 1, 8, [.nilfn]⟩), (85, ⟨.func, 1, 8, [.nilfn]⟩), (86, ⟨.func, 1, 8, [.nilfn]⟩), (87, ⟨.struct [(17, 0), (17, 1), (17, 2), (9, 3)], 4, 40, [.nilptr, .nilptr, .nilptr, .str (.s [])]⟩), (88, ⟨.struct [(17, 0), (17, 1), (17, 2), (9, 3)], 4, 40, [.nilptr, .nilptr, .nilptr, .str (.s [])]⟩), (89, ⟨.arr 0 16, 0, 0, []⟩), (90, ⟨.struct [(89, 0)], 0, 0, []⟩), (91, ⟨.struct [(89, 0)], 0, 0, []⟩), (92, ⟨.func, 1, 8, [.nilfn]⟩), (93, ⟨.int (.u32), 1, 4, [.int .u32 (.n 0)]⟩), (94, ⟨.int .u8, 1, 1, [.int .u8 (.n 0)]⟩), (95, ⟨.int .u8, 1, 1, [.int .u8 (.n 0)]⟩), (96, ⟨.func, 1, 8, [.nilfn]⟩), (97, ⟨.ptr 5, 1, 8, [.nilptr]⟩), (98, ⟨.int (.i32), 1, 4, [.int .i32 (.n 0)]⟩), (99, ⟨.int (.i32), 1, 4, [.int .i32 (.n 0)]⟩), (100, ⟨.struct [(12, 0), (12, 1), (93, 2), (94, 3), (5, 4), (5, 5), (95, 6), (96, 7), (97, 8), (98, 9), (99, 10)], 11, 48, [.int .u64 (.n 0), .int .u64 (.n 0), .int .u32 (.n 0), .int .u8 (.n 0), .int .u8 (.n 0), .int .u8 (.n 0), .int .u8 (.n 0), .nilfn, .nilptr, .int .i32 (.n 0), .int .i32 (.n 0)]⟩), (101, ⟨.struct [(12, 0), (12, 1), (93, 2), (94, 3), (5, 4), (5, 5), (95, 6), (96, 7), (97, 8), (98, 9), (99, 10)], 11, 48, [.int .u64 (.n 0), .int .u64 (.n 0), .int .u32 (.n 0), .int .u8 (.n 0), .int .u8 (.n 0), .int .u8 (.n 0), .int .u8 (.n 0), .nilfn, .nilptr, .int .i32 (.n 0), .int .i32 (.n 0)]⟩)]
def eqs : List (Nat × List (Nat × Ay)) := [(7, [(0, .int (.i64)), (1, .int (.i64)), (2, .bool), (3, .int (.u8))]), (8, [(0, .int (.i64)), (1, .int (.i64)), (2, .bool), (3, .int (.u8))]), (22, [(0, .int (.i64)), (1, .int (.i64)), (2, .int (.i64)), (3, .int (.i64)), (4, .int (.i64)), (5, .int (.i64)), (6, .int (.i64)), (7, .int (.i64))]), (23, [(0, .int (.i64)), (1, .int (.i64)), (2, .int (.i64)), (3, .int (.i64)), (4, .int (.i64)), (5, .int (.i64)), (6, .int (.i64)), (7, .int (.i64)), (8, .int (.i64)), (9, .int (.i64)), (10, .int (.i64)), (11, .int (.i64))]), (24, [(0, .int (.i64)), (1, .int (.i64)), (2, .int (.i64)), (3, .int (.i64)), (4, .int (.i64)), (5, .int (.i64)), (6, .int (.i64)), (7, .int (.i64)), (8, .int (.i64)), (9, .int (.i64)), (10, .int (.i64)), (11, .int (.i64))]), (31, [(0, .int (.i64)), (1, .int (.i64))]), (32, [(0, .int (.i64)), (1, .int (.i64))]), (37, [(0, .int (.i64)), (1, .int (.i64)), (2, .int (.i64)), (3, .int (.i64)), (4, .int (.i64)), (5, .int (.i64)), (6, .int (.i64)), (7, .int (.i64)), (8, .int (.i64)), (9, .int (.i64)), (10, .int (.i64)), (11, .int (.i64)), (12, .int (.i64)), (13, .int (.i64)), (14, .int (.i64)), (15, .int (.i64)), (16, .int (.i64)), (17, .int (.i64)), (18, .int (.i64)), (19, .int (.i64)), (20, .int (.i64)), (21, .int (.i64)), (22, .int (.i64)), (23, .int (.i64))]), (39, [(0, .bool), (1, .bool)]), (42, [(0, .int (.i64)), (1, .int (.i64)), (2, .int (.i64)), (3, .int (.i64))])]
theorem AhN : At.all (fun x => x.2.okB Try.prog x.1) = true := by kernel_rfl
theorem AL : CO Try.prog At := AgG AhN
theorem AP : AaV Try.prog eqs := AgH (by kernel_rfl)
theorem mixed : Try.prog.follows .mixedOrders = true := by kernel_rfl
theorem fn6 : BD Try.prog 6 Try.f6 := ⟨Try.func6, by kernel_rfl, by kernel_rfl⟩
theorem fn8 : BD Try.prog 8 Try.f8 := ⟨Try.func8, by kernel_rfl, by kernel_rfl⟩
theorem AeT : BD Try.prog 10 Try.f10 := ⟨Try.func10, by kernel_rfl, by kernel_rfl⟩
theorem AgT : BD Try.prog 11 Try.f11 := ⟨Try.func11, by kernel_rfl, by kernel_rfl⟩
theorem AgU : BD Try.prog 12 Try.f12 := ⟨Try.func12, by kernel_rfl, by kernel_rfl⟩
theorem Agl : BD Try.prog 13 Try.f13 := ⟨Try.func13, by kernel_rfl, by kernel_rfl⟩
theorem Agm : BD Try.prog 14 Try.f14 := ⟨Try.func14, by kernel_rfl, by kernel_rfl⟩
theorem AgV : BD Try.prog 15 Try.f15 := ⟨Try.func15, by kernel_rfl, by kernel_rfl⟩
theorem AgW : BD Try.prog 16 Try.f16 := ⟨Try.func16, by kernel_rfl, by kernel_rfl⟩
theorem AgX : BD Try.prog 17 Try.f17 := ⟨Try.func17, by kernel_rfl, by kernel_rfl⟩
theorem AbJ : BD Try.prog 18 Try.f18 := ⟨Try.func18, by kernel_rfl, by kernel_rfl⟩
theorem AgY : BD Try.prog 19 Try.f19 := ⟨Try.func19, by kernel_rfl, by kernel_rfl⟩
theorem Yp : BD Try.prog 20 Try.f20 := ⟨Try.func20, by kernel_rfl, by kernel_rfl⟩
theorem AgZ : BD Try.prog 21 Try.f21 := ⟨Try.func21, by kernel_rfl, by kernel_rfl⟩
theorem Ag0 : BD Try.prog 22 Try.f22 := ⟨Try.func22, by kernel_rfl, by kernel_rfl⟩
theorem Ag1 : BD Try.prog 23 Try.f23 := ⟨Try.func23, by kernel_rfl, by kernel_rfl⟩
theorem Ag2 : BD Try.prog 24 Try.f24 := ⟨Try.func24, by kernel_rfl, by kernel_rfl⟩
theorem ZM : BD Try.prog 25 Try.f25 := ⟨Try.func25, by kernel_rfl, by kernel_rfl⟩
theorem Agn : BD Try.prog 26 Try.f26 := ⟨Try.func26, by kernel_rfl, by kernel_rfl⟩
theorem Ag3 : BD Try.prog 27 Try.f27 := ⟨Try.func27, by kernel_rfl, by kernel_rfl⟩
theorem Ag4 : BD Try.prog 28 Try.f28 := ⟨Try.func28, by kernel_rfl, by kernel_rfl⟩
theorem Ag5 : BD Try.prog 29 Try.f29 := ⟨Try.func29, by kernel_rfl, by kernel_rfl⟩
theorem Ago : BD Try.prog 30 Try.f30 := ⟨Try.func30, by kernel_rfl, by kernel_rfl⟩
theorem Ag6 : BD Try.prog 31 Try.f31 := ⟨Try.func31, by kernel_rfl, by kernel_rfl⟩
theorem Ag7 : BD Try.prog 32 Try.f32 := ⟨Try.func32, by kernel_rfl, by kernel_rfl⟩
theorem Ag8 : BD Try.prog 33 Try.f33 := ⟨Try.func33, by kernel_rfl, by kernel_rfl⟩
theorem Ag9 : BD Try.prog 34 Try.f34 := ⟨Try.func34, by kernel_rfl, by kernel_rfl⟩
theorem Aha : BD Try.prog 35 Try.f35 := ⟨Try.func35, by kernel_rfl, by kernel_rfl⟩
theorem Ahb : BD Try.prog 36 Try.f36 := ⟨Try.func36, by kernel_rfl, by kernel_rfl⟩
theorem Agp : BD Try.prog 37 Try.f37 := ⟨Try.func37, by kernel_rfl, by kernel_rfl⟩
theorem Ahc : BD Try.prog 38 Try.f38 := ⟨Try.func38, by kernel_rfl, by kernel_rfl⟩
theorem Ahd : BD Try.prog 39 Try.f39 := ⟨Try.func39, by kernel_rfl, by kernel_rfl⟩
theorem ZN : BD Try.prog 40 Try.f40 := ⟨Try.func40, by kernel_rfl, by kernel_rfl⟩
theorem Ahe : BD Try.prog 41 Try.f41 := ⟨Try.func41, by kernel_rfl, by kernel_rfl⟩
theorem Ahf : BD Try.prog 42 Try.f42 := ⟨Try.func42, by kernel_rfl, by kernel_rfl⟩
theorem Agq : BD Try.prog 43 Try.f43 := ⟨Try.func43, by kernel_rfl, by kernel_rfl⟩
theorem Ahg : BD Try.prog 44 Try.f44 := ⟨Try.func44, by kernel_rfl, by kernel_rfl⟩
theorem Ahh : BD Try.prog 45 Try.f45 := ⟨Try.func45, by kernel_rfl, by kernel_rfl⟩
theorem Ahi : BD Try.prog 46 Try.f46 := ⟨Try.func46, by kernel_rfl, by kernel_rfl⟩
theorem Ahj : BD Try.prog 47 Try.f47 := ⟨Try.func47, by kernel_rfl, by kernel_rfl⟩
theorem Ahk : BD Try.prog 48 Try.f48 := ⟨Try.func48, by kernel_rfl, by kernel_rfl⟩
theorem Ahl : BD Try.prog 49 Try.f49 := ⟨Try.func49, by kernel_rfl, by kernel_rfl⟩
theorem Ahm : BD Try.prog 50 Try.f50 := ⟨Try.func50, by kernel_rfl, by kernel_rfl⟩
theorem Ahn : BD Try.prog 51 Try.f51 := ⟨Try.func51, by kernel_rfl, by kernel_rfl⟩
theorem AeU : BD Try.prog 52 Try.f52 := ⟨Try.func52, by kernel_rfl, by kernel_rfl⟩
theorem Agr : BD Try.prog 53 Try.f53 := ⟨Try.func53, by kernel_rfl, by kernel_rfl⟩
theorem AhO : BD Try.prog 54 Try.f54 := ⟨Try.func54, by kernel_rfl, by kernel_rfl⟩
theorem AhP : BD Try.prog 55 Try.f55 := ⟨Try.func55, by kernel_rfl, by kernel_rfl⟩
theorem AhQ : BD Try.prog 56 Try.f56 := ⟨Try.func56, by kernel_rfl, by kernel_rfl⟩
theorem AhR : BD Try.prog 57 Try.f57 := ⟨Try.func57, by kernel_rfl, by kernel_rfl⟩
theorem AhS : BD Try.prog 58 Try.f58 := ⟨Try.func58, by kernel_rfl, by kernel_rfl⟩
theorem Aho : BD Try.prog 59 Try.f59 := ⟨Try.func59, by kernel_rfl, by kernel_rfl⟩
theorem Ahp : BD Try.prog 60 Try.f60 := ⟨Try.func60, by kernel_rfl, by kernel_rfl⟩
theorem Ahq : BD Try.prog 61 Try.f61 := ⟨Try.func61, by kernel_rfl, by kernel_rfl⟩
theorem Ahr : BD Try.prog 62 Try.f62 := ⟨Try.func62, by kernel_rfl, by kernel_rfl⟩
theorem Ags : BD Try.prog 63 Try.f63 := ⟨Try.func63, by kernel_rfl, by kernel_rfl⟩
theorem Ahs : BD Try.prog 64 Try.f64 := ⟨Try.func64, by kernel_rfl, by kernel_rfl⟩
theorem Agt : BD Try.prog 65 Try.f65 := ⟨Try.func65, by kernel_rfl, by kernel_rfl⟩
theorem Aht : BD Try.prog 66 Try.f66 := ⟨Try.func66, by kernel_rfl, by kernel_rfl⟩
theorem Ahu : BD Try.prog 68 Try.f68 := ⟨Try.func68, by kernel_rfl, by kernel_rfl⟩
theorem Ahv : BD Try.prog 69 Try.f69 := ⟨Try.func69, by kernel_rfl, by kernel_rfl⟩
end Rx.S
