import Derived.Test.YtngghkhjejkelaaVXc
import Derived.Test.YtngghkhjejkelaaProg
import Derived.KernelRfl
set_option linter.unusedVariables false
set_option linter.unusedSimpArgs false
namespace Rx.S
open Go Rx Go.Proofs
set_option maxRecDepth 100000
abbrev BE : K := .int .i64 (.n 0)
def As : List (Nat × Ty) := [(1, ⟨.func, 1, 8, [.nilfn]⟩), (2, ⟨.int .i64, 1, 8, [BE]⟩), (3, ⟨.int .i64, 1, 8, [BE]⟩), (4, ⟨.bool, 1, 1, [.bool (.t false)]⟩), (5, ⟨.int .u8, 1, 1, [.int .u8 (.n 0)]⟩), (6, ⟨.int .u8, 1, 1, [.int .u8 (.n 0)]⟩), (7, ⟨.struct [(2, 0), (3, 1), (4, 2), (6, 3)], 4, 24, [BE, BE, .bool (.t false), .int .u8 (.n 0)]⟩), (8, ⟨.struct [(2, 0), (3, 1), (4, 2), (6, 3)], 4, 24, [BE, BE, .bool (.t false), .int .u8 (.n 0)]⟩), (9, ⟨.string, 1, 16, [.str (.s [])]⟩), (10, ⟨.string, 1, 16, [.str (.s [])]⟩), (11, ⟨.string, 1, 16, [.str (.s [])]⟩), (12, ⟨.int (.u64), 1, 8, [.int .u64 (.n 0)]⟩), (13, ⟨.struct [(9, 0), (12, 1)], 2, 24, [.str (.s []), .int .u64 (.n 0)]⟩), (14, ⟨.struct [(9, 0), (12, 1)], 2, 24, [.str (.s []), .int .u64 (.n 0)]⟩), (15, ⟨.ptr 108, 1, 8, [.nilptr]⟩), (16, ⟨.ptr 111, 1, 8, [.nilptr]⟩), (17, ⟨.ptr 120, 1, 8, [.nilptr]⟩), (18, ⟨.struct [(17, 0)], 1, 8, [.nilptr]⟩), (19, ⟨.struct [(17, 0)], 1, 8, [.nilptr]⟩), (21, ⟨.int (.i32), 1, 4, [.int .i32 (.n 0)]⟩), (22, ⟨.struct [(3, 0), (3, 1)], 2, 16, [BE, BE]⟩), (23, ⟨.struct [(3, 0), (3, 1)], 2, 16, [BE, BE]⟩), (24, ⟨.arr 2 9, 2, 32, [.str (.s []), .str (.s [])]⟩), (25, ⟨.slice 3, 1, 24, [.nilslc]⟩), (26, ⟨.struct [(24, 0), (25, 2), (3, 3)], 4, 64, [.str (.s []), .str (.s []), .nilslc, BE]⟩), (27, ⟨.struct [(24, 0), (25, 2), (3, 3)], 4, 64, [.str (.s []), .str (.s []), .nilslc, BE]⟩), (28, ⟨.struct [(3, 0), (3, 1)], 2, 16, [BE, BE]⟩), (29, ⟨.struct [(3, 0), (3, 1)], 2, 16, [BE, BE]⟩), (30, ⟨.struct [(3, 0), (23, 1), (27, 3), (3, 7), (3, 8), (29, 9)], 11, 120, [BE, BE, BE, .str (.s []), .str (.s []), .nilslc, BE, BE, BE, BE, BE]⟩), (31, ⟨.struct [(3, 0), (23, 1), (27, 3), (3, 7), (3, 8), (29, 9)], 11, 120, [BE, BE, BE, .str (.s []), .str (.s []), .nilslc, BE, BE, BE, BE, BE]⟩), (32, ⟨.func, 1, 8, [.nilfn]⟩), (33, ⟨.func, 1, 8, [.nilfn]⟩), (34, ⟨.func, 1, 8, [.nilfn]⟩), (35, ⟨.func, 1, 8, [.nilfn]⟩), (36, ⟨.func, 1, 8, [.nilfn]⟩), (37, ⟨.func, 1, 8, [.nilfn]⟩), (38, ⟨.arr 2 4, 2, 2, [.bool (.t false), .bool (.t false)]⟩), (39, ⟨.func, 1, 8, [.nilfn]⟩), (40, ⟨.func, 1, 8, [.nilfn]⟩), (41, ⟨.int .i64, 1, 8, [BE]⟩), (43, ⟨.func, 1, 8, [.nilfn]⟩), (44, ⟨.func, 1, 8, [.nilfn]⟩), (45, ⟨.struct [(3, 0), (3, 1), (3, 2), (3, 3)], 4, 32, [BE, BE, BE, BE]⟩), (46, ⟨.struct [(3, 0), (3, 1), (3, 2), (3, 3)], 4, 32, [BE, BE, BE, BE]⟩), (47, ⟨.arr 2 29, 4, 32, [BE, BE, BE, BE]⟩), (48, ⟨.func, 1, 8, [.nilfn]⟩), (50, ⟨.func, 1, 8, [.nilfn]⟩), (51, ⟨.func, 1, 8, [.nilfn]⟩), (52, ⟨.func, 1, 8, [.nilfn]⟩), (53, ⟨.struct [(5, 0), (46, 1), (46, 5), (5, 9)], 10, 80, [.int .u8 (.n 0), BE, BE, BE, BE, BE, BE, BE, BE, .int .u8 (.n 0)]⟩), (54, ⟨.struct [(5, 0), (46, 1), (46, 5), (5, 9)], 10, 80, [.int .u8 (.n 0), BE, BE, BE, BE, BE, BE, BE, BE, .int .u8 (.n 0)]⟩), (55, ⟨.func, 1, 8, [.nilfn]⟩), (56, ⟨.struct [(3, 0), (46, 1), (47, 5), (3, 9)], 10, 80, [BE, BE, BE, BE, BE, BE, BE, BE, BE, BE]⟩), (57, ⟨.struct [(3, 0), (46, 1), (47, 5), (3, 9)], 10, 80, [BE, BE, BE, BE, BE, BE, BE, BE, BE, BE]⟩), (58, ⟨.func, 1, 8, [.nilfn]⟩), (59, ⟨.func, 1, 8, [.nilfn]⟩), (60, ⟨.int (.u16), 1, 2, [.int .u16 (.n 0)]⟩), (61, ⟨.struct [(5, 0), (5, 1), (5, 2), (60, 3)], 4, 6, [.int .u8 (.n 0), .int .u8 (.n 0), .int .u8 (.n 0), .int .u16 (.n 0)]⟩), (62, ⟨.struct [(5, 0), (5, 1), (5, 2), (60, 3)], 4, 6, [.int .u8 (.n 0), .int .u8 (.n 0), .int .u8 (.n 0), .int .u16 (.n 0)]⟩), (63, ⟨.func, 1, 8, [.nilfn]⟩), (64, ⟨.slice 5, 1, 24, [.nilslc]⟩), (65, ⟨.func, 1, 8, [.nilfn]⟩), (66, ⟨.func, 1, 8, [.nilfn]⟩), (67, ⟨.int (.u32), 1, 4, [.int .u32 (.n 0)]⟩), (68, ⟨.func, 1, 8, [.nilfn]⟩), (69, ⟨.func, 1, 8, [.nilfn]⟩), (70, ⟨.func, 1, 8, [.nilfn]⟩), (71, ⟨.func, 1, 8, [.nilfn]⟩), (74, ⟨.func, 1, 8, [.nilfn]⟩), (76, ⟨.func, 1, 8, [.nilfn]⟩), (77, ⟨.ptr 79, 1, 8, [.nilptr]⟩), (78, ⟨.struct [(46, 0), (3, 4), (47, 5), (4, 9)], 10, 80, [BE, BE, BE, BE, BE, BE, BE, BE, BE, .bool (.t false)]⟩), (79, ⟨.struct [(46, 0), (3, 4), (47, 5), (4, 9)], 10, 80, [BE, BE, BE, BE, BE, BE, BE, BE, BE, .bool (.t false)]⟩), (80, ⟨.func, 1, 8, [.nilfn]⟩), (82, ⟨.func, 1, 8, [.nilfn]⟩), (83, ⟨.func, 1, 8, [.nilfn]⟩), (84, ⟨.func, 1, 8, [.nilfn]⟩), (85, ⟨.func, 1, 8, [.nilfn]⟩), (86, ⟨.func, 1, 8, [.nilfn]⟩), (87, ⟨.func, 1, 8, [.nilfn]⟩), (88, ⟨.func, 1, 8, [.nilfn]⟩), (89, ⟨.func, 1, 8, [.nilfn]⟩), (90, ⟨.func, 1, 8, [.nilfn]⟩), (91, ⟨.func, 1, 8, [.nilfn]⟩), (92, ⟨.int (.u64), 1, 8, [.int .u64 (.n 0)]⟩), (93, ⟨.func, 1, 8, [.nilfn]⟩), (94, ⟨.func, 1, 8, [.nilfn]⟩), (96, ⟨.func, 1, 8, [.nilfn]⟩), (97, ⟨.func, 1, 8, [.nilfn]⟩), (98, ⟨.slice 29, 1, 24, [.nilslc]⟩), (99, ⟨.func, 1, 8, [.nilfn]⟩), (100, ⟨.func, 1, 8, [.nilfn]⟩), (101, ⟨.func, 1, 8, [.nilfn]⟩), (102, ⟨.func, 1, 8, [.nilfn]⟩), (103, ⟨.func, 1, 8, [.nilfn]⟩), (105, ⟨.func, 1, 8, [.nilfn]⟩), (106, ⟨.func, 1, 8, [.nilfn]⟩), (107, ⟨.struct [(17, 0), (17, 1), (17, 2), (9, 3)], 4, 40, [.nilptr, .nilptr, .nilptr, .str (.s [])]⟩), (108, ⟨.struct [(17, 0), (17, 1), (17, 2), (9, 3)], 4, 40, [.nilptr, .nilptr, .nilptr, .str (.s [])]⟩), (109, ⟨.arr 0 16, 0, 0, []⟩), (110, ⟨.struct [(109, 0)], 0, 0, []⟩), (111, ⟨.struct [(109, 0)], 0, 0, []⟩), (112, ⟨.func, 1, 8, [.nilfn]⟩), (113, ⟨.int .u8, 1, 1, [.int .u8 (.n 0)]⟩), (114, ⟨.int .u8, 1, 1, [.int .u8 (.n 0)]⟩), (115, ⟨.func, 1, 8, [.nilfn]⟩), (116, ⟨.ptr 5, 1, 8, [.nilptr]⟩), (117, ⟨.int (.i32), 1, 4, [.int .i32 (.n 0)]⟩), (118, ⟨.int (.i32), 1, 4, [.int .i32 (.n 0)]⟩), (119, ⟨.struct [(12, 0), (12, 1), (67, 2), (113, 3), (5, 4), (5, 5), (114, 6), (115, 7), (116, 8), (117, 9), (118, 10)], 11, 48, [.int .u64 (.n 0), .int .u64 (.n 0), .int .u32 (.n 0), .int .u8 (.n 0), .int .u8 (.n 0), .int .u8 (.n 0), .int .u8 (.n 0), .nilfn, .nilptr, .int .i32 (.n 0), .int .i32 (.n 0)]⟩), (120, ⟨.struct [(12, 0), (12, 1), (67, 2), (113, 3), (5, 4), (5, 5), (114, 6), (115, 7), (116, 8), (117, 9), (118, 10)], 11, 48, [.int .u64 (.n 0), .int .u64 (.n 0), .int .u32 (.n 0), .int .u8 (.n 0), .int .u8 (.n 0), .int .u8 (.n 0), .int .u8 (.n 0), .nilfn, .nilptr, .int .i32 (.n 0), .int .i32 (.n 0)]⟩)]
def eqs : List (Nat × List (Nat × Ax)) := [(7, [(0, .int (.i64)), (1, .int (.i64)), (2, .bool), (3, .int (.u8))]), (8, [(0, .int (.i64)), (1, .int (.i64)), (2, .bool), (3, .int (.u8))]), (22, [(0, .int (.i64)), (1, .int (.i64))]), (23, [(0, .int (.i64)), (1, .int (.i64))]), (24, [(0, .str), (1, .str)]), (28, [(0, .int (.i64)), (1, .int (.i64))]), (29, [(0, .int (.i64)), (1, .int (.i64))]), (38, [(0, .bool), (1, .bool)]), (45, [(0, .int (.i64)), (1, .int (.i64)), (2, .int (.i64)), (3, .int (.i64))]), (46, [(0, .int (.i64)), (1, .int (.i64)), (2, .int (.i64)), (3, .int (.i64))]), (47, [(0, .int (.i64)), (1, .int (.i64)), (2, .int (.i64)), (3, .int (.i64))]), (53, [(0, .int (.u8)), (1, .int (.i64)), (2, .int (.i64)), (3, .int (.i64)), (4, .int (.i64)), (5, .int (.i64)), (6, .int (.i64)), (7, .int (.i64)), (8, .int (.i64)), (9, .int (.u8))]), (54, [(0, .int (.u8)), (1, .int (.i64)), (2, .int (.i64)), (3, .int (.i64)), (4, .int (.i64)), (5, .int (.i64)), (6, .int (.i64)), (7, .int (.i64)), (8, .int (.i64)), (9, .int (.u8))]), (56, [(0, .int (.i64)), (1, .int (.i64)), (2, .int (.i64)), (3, .int (.i64)), (4, .int (.i64)), (5, .int (.i64)), (6, .int (.i64)), (7, .int (.i64)), (8, .int (.i64)), (9, .int (.i64))]), (57, [(0, .int (.i64)), (1, .int (.i64)), (2, .int (.i64)), (3, .int (.i64)), (4, .int (.i64)), (5, .int (.i64)), (6, .int (.i64)), (7, .int (.i64)), (8, .int (.i64)), (9, .int (.i64))]), (61, [(0, .int (.u8)), (1, .int (.u8)), (2, .int (.u8)), (3, .int (.u16))]), (62, [(0, .int (.u8)), (1, .int (.u8)), (2, .int (.u8)), (3, .int (.u16))]), (78, [(0, .int (.i64)), (1, .int (.i64)), (2, .int (.i64)), (3, .int (.i64)), (4, .int (.i64)), (5, .int (.i64)), (6, .int (.i64)), (7, .int (.i64)), (8, .int (.i64)), (9, .bool)]), (79, [(0, .int (.i64)), (1, .int (.i64)), (2, .int (.i64)), (3, .int (.i64)), (4, .int (.i64)), (5, .int (.i64)), (6, .int (.i64)), (7, .int (.i64)), (8, .int (.i64)), (9, .bool)])]
theorem Aa1 : As.all (fun x => x.2.okB Try.prog x.1) = true := by kernel_rfl
theorem AM : Cd Try.prog As := Aac Aa1
theorem AY : Vf Try.prog eqs := Aad (by kernel_rfl)
theorem mixed : Try.prog.follows .mixedOrders = true := by kernel_rfl
theorem fn5 : Bg Try.prog 5 Try.f5 := ⟨Try.func5, by kernel_rfl, by kernel_rfl⟩
theorem fn6 : Bg Try.prog 6 Try.f6 := ⟨Try.func6, by kernel_rfl, by kernel_rfl⟩
theorem fn7 : Bg Try.prog 7 Try.f7 := ⟨Try.func7, by kernel_rfl, by kernel_rfl⟩
theorem ZQ : Bg Try.prog 26 Try.f26 := ⟨Try.func26, by kernel_rfl, by kernel_rfl⟩
theorem Yy : Bg Try.prog 27 Try.f27 := ⟨Try.func27, by kernel_rfl, by kernel_rfl⟩
theorem SK : Bg Try.prog 28 Try.f28 := ⟨Try.func28, by kernel_rfl, by kernel_rfl⟩
theorem V5 : Bg Try.prog 29 Try.f29 := ⟨Try.func29, by kernel_rfl, by kernel_rfl⟩
theorem ZR : Bg Try.prog 30 Try.f30 := ⟨Try.func30, by kernel_rfl, by kernel_rfl⟩
theorem Aao : Bg Try.prog 31 Try.f31 := ⟨Try.func31, by kernel_rfl, by kernel_rfl⟩
theorem Aap : Bg Try.prog 32 Try.f32 := ⟨Try.func32, by kernel_rfl, by kernel_rfl⟩
theorem ZS : Bg Try.prog 37 Try.f37 := ⟨Try.func37, by kernel_rfl, by kernel_rfl⟩
theorem Yz : Bg Try.prog 38 Try.f38 := ⟨Try.func38, by kernel_rfl, by kernel_rfl⟩
theorem YA : Bg Try.prog 40 Try.f40 := ⟨Try.func40, by kernel_rfl, by kernel_rfl⟩
theorem V6 : Bg Try.prog 41 Try.f41 := ⟨Try.func41, by kernel_rfl, by kernel_rfl⟩
theorem Xn : Bg Try.prog 42 Try.f42 := ⟨Try.func42, by kernel_rfl, by kernel_rfl⟩
theorem Aaq : Bg Try.prog 43 Try.f43 := ⟨Try.func43, by kernel_rfl, by kernel_rfl⟩
theorem Aar : Bg Try.prog 44 Try.f44 := ⟨Try.func44, by kernel_rfl, by kernel_rfl⟩
theorem Aas : Bg Try.prog 45 Try.f45 := ⟨Try.func45, by kernel_rfl, by kernel_rfl⟩
theorem ZT : Bg Try.prog 46 Try.f46 := ⟨Try.func46, by kernel_rfl, by kernel_rfl⟩
theorem Aat : Bg Try.prog 47 Try.f47 := ⟨Try.func47, by kernel_rfl, by kernel_rfl⟩
theorem ZU : Bg Try.prog 48 Try.f48 := ⟨Try.func48, by kernel_rfl, by kernel_rfl⟩
theorem Aau : Bg Try.prog 49 Try.f49 := ⟨Try.func49, by kernel_rfl, by kernel_rfl⟩
theorem Aa2 : Bg Try.prog 54 Try.f54 := ⟨Try.func54, by kernel_rfl, by kernel_rfl⟩
theorem Aa3 : Bg Try.prog 55 Try.f55 := ⟨Try.func55, by kernel_rfl, by kernel_rfl⟩
theorem Aa4 : Bg Try.prog 56 Try.f56 := ⟨Try.func56, by kernel_rfl, by kernel_rfl⟩
theorem Aav : Bg Try.prog 57 Try.f57 := ⟨Try.func57, by kernel_rfl, by kernel_rfl⟩
theorem Aaw : Bg Try.prog 58 Try.f58 := ⟨Try.func58, by kernel_rfl, by kernel_rfl⟩
theorem Aax : Bg Try.prog 59 Try.f59 := ⟨Try.func59, by kernel_rfl, by kernel_rfl⟩
theorem Aay : Bg Try.prog 60 Try.f60 := ⟨Try.func60, by kernel_rfl, by kernel_rfl⟩
theorem Aaz : Bg Try.prog 61 Try.f61 := ⟨Try.func61, by kernel_rfl, by kernel_rfl⟩
theorem AaA : Bg Try.prog 62 Try.f62 := ⟨Try.func62, by kernel_rfl, by kernel_rfl⟩
theorem AaB : Bg Try.prog 63 Try.f63 := ⟨Try.func63, by kernel_rfl, by kernel_rfl⟩
theorem AaC : Bg Try.prog 64 Try.f64 := ⟨Try.func64, by kernel_rfl, by kernel_rfl⟩
theorem ZV : Bg Try.prog 65 Try.f65 := ⟨Try.func65, by kernel_rfl, by kernel_rfl⟩
theorem ZW : Bg Try.prog 66 Try.f66 := ⟨Try.func66, by kernel_rfl, by kernel_rfl⟩
theorem ZX : Bg Try.prog 68 Try.f68 := ⟨Try.func68, by kernel_rfl, by kernel_rfl⟩
theorem YB : Bg Try.prog 69 Try.f69 := ⟨Try.func69, by kernel_rfl, by kernel_rfl⟩
theorem AaD : Bg Try.prog 70 Try.f70 := ⟨Try.func70, by kernel_rfl, by kernel_rfl⟩
theorem ZY : Bg Try.prog 71 Try.f71 := ⟨Try.func71, by kernel_rfl, by kernel_rfl⟩
theorem ZZ : Bg Try.prog 72 Try.f72 := ⟨Try.func72, by kernel_rfl, by kernel_rfl⟩
theorem AaE : Bg Try.prog 73 Try.f73 := ⟨Try.func73, by kernel_rfl, by kernel_rfl⟩
theorem AaF : Bg Try.prog 74 Try.f74 := ⟨Try.func74, by kernel_rfl, by kernel_rfl⟩
theorem YC : Bg Try.prog 75 Try.f75 := ⟨Try.func75, by kernel_rfl, by kernel_rfl⟩
theorem AaG : Bg Try.prog 76 Try.f76 := ⟨Try.func76, by kernel_rfl, by kernel_rfl⟩
theorem AaH : Bg Try.prog 77 Try.f77 := ⟨Try.func77, by kernel_rfl, by kernel_rfl⟩
theorem AaI : Bg Try.prog 78 Try.f78 := ⟨Try.func78, by kernel_rfl, by kernel_rfl⟩
theorem AaJ : Bg Try.prog 79 Try.f79 := ⟨Try.func79, by kernel_rfl, by kernel_rfl⟩
theorem AaK : Bg Try.prog 80 Try.f80 := ⟨Try.func80, by kernel_rfl, by kernel_rfl⟩
theorem AaL : Bg Try.prog 81 Try.f81 := ⟨Try.func81, by kernel_rfl, by kernel_rfl⟩
theorem AaM : Bg Try.prog 82 Try.f82 := ⟨Try.func82, by kernel_rfl, by kernel_rfl⟩
theorem Z0 : Bg Try.prog 83 Try.f83 := ⟨Try.func83, by kernel_rfl, by kernel_rfl⟩
theorem Aa5 : Bg Try.prog 84 Try.f84 := ⟨Try.func84, by kernel_rfl, by kernel_rfl⟩
theorem Aa6 : Bg Try.prog 85 Try.f85 := ⟨Try.func85, by kernel_rfl, by kernel_rfl⟩
theorem YD : Bg Try.prog 86 Try.f86 := ⟨Try.func86, by kernel_rfl, by kernel_rfl⟩
theorem Aa7 : Bg Try.prog 87 Try.f87 := ⟨Try.func87, by kernel_rfl, by kernel_rfl⟩
theorem Aa8 : Bg Try.prog 88 Try.f88 := ⟨Try.func88, by kernel_rfl, by kernel_rfl⟩
theorem AaN : Bg Try.prog 89 Try.f89 := ⟨Try.func89, by kernel_rfl, by kernel_rfl⟩
theorem Z1 : Bg Try.prog 90 Try.f90 := ⟨Try.func90, by kernel_rfl, by kernel_rfl⟩
theorem Z2 : Bg Try.prog 91 Try.f91 := ⟨Try.func91, by kernel_rfl, by kernel_rfl⟩
theorem Z3 : Bg Try.prog 92 Try.f92 := ⟨Try.func92, by kernel_rfl, by kernel_rfl⟩
theorem Aa9 : Bg Try.prog 93 Try.f93 := ⟨Try.func93, by kernel_rfl, by kernel_rfl⟩
end Rx.S
