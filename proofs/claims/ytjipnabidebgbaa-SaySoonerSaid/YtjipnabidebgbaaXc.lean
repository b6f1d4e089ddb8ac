import Derived.Test.YtjipnabidebgbaaXb
import Derived.Test.YtjipnabidebgbaaProg
import Derived.KernelRfl
set_option linter.unusedVariables false
set_option linter.unusedSimpArgs false
namespace Rx.S
open Go Rx Go.Proofs
set_option maxRecDepth 100000
def tys : List (Nat × Ty) := [(1, { kind := TK.func, size := 1, bytes := 8, zero := [K.nilfn] }),
 (2, { kind := TK.int (IntKind.i64), size := 1, bytes := 8, zero := [K.int (IntKind.i64) (L.n 0)] }),
 (3, { kind := TK.int (IntKind.i64), size := 1, bytes := 8, zero := [K.int (IntKind.i64) (L.n 0)] }),
 (4, { kind := TK.bool, size := 1, bytes := 1, zero := [K.bool (L.t false)] }),
 (5, { kind := TK.int (IntKind.u8), size := 1, bytes := 1, zero := [K.int (IntKind.u8) (L.n 0)] }),
 (6, { kind := TK.int (IntKind.u8), size := 1, bytes := 1, zero := [K.int (IntKind.u8) (L.n 0)] }),
 (7,
  { kind := TK.struct [(2, 0), (3, 1), (4, 2), (6, 3)],
    size := 4,
    bytes := 24,
    zero := [K.int (IntKind.i64) (L.n 0),
             K.int (IntKind.i64) (L.n 0),
             K.bool (L.t false),
             K.int (IntKind.u8) (L.n 0)] }),
 (8,
  { kind := TK.struct [(2, 0), (3, 1), (4, 2), (6, 3)],
    size := 4,
    bytes := 24,
    zero := [K.int (IntKind.i64) (L.n 0),
             K.int (IntKind.i64) (L.n 0),
             K.bool (L.t false),
             K.int (IntKind.u8) (L.n 0)] }),
 (9, { kind := TK.string, size := 1, bytes := 16, zero := [K.str (L.s [])] }),
 (10, { kind := TK.string, size := 1, bytes := 16, zero := [K.str (L.s [])] }),
 (11, { kind := TK.string, size := 1, bytes := 16, zero := [K.str (L.s [])] }),
 (12, { kind := TK.int (IntKind.u64), size := 1, bytes := 8, zero := [K.int (IntKind.u64) (L.n 0)] }),
 (13,
  { kind := TK.struct [(9, 0), (12, 1)],
    size := 2,
    bytes := 24,
    zero := [K.str (L.s []), K.int (IntKind.u64) (L.n 0)] }),
 (14,
  { kind := TK.struct [(9, 0), (12, 1)],
    size := 2,
    bytes := 24,
    zero := [K.str (L.s []), K.int (IntKind.u64) (L.n 0)] }),
 (15, { kind := TK.ptr 179, size := 1, bytes := 8, zero := [K.nilptr] }),
 (16, { kind := TK.ptr 182, size := 1, bytes := 8, zero := [K.nilptr] }),
 (17, { kind := TK.ptr 191, size := 1, bytes := 8, zero := [K.nilptr] }),
 (18, { kind := TK.struct [(17, 0)], size := 1, bytes := 8, zero := [K.nilptr] }),
 (19, { kind := TK.struct [(17, 0)], size := 1, bytes := 8, zero := [K.nilptr] }),
 (21, { kind := TK.int (IntKind.i32), size := 1, bytes := 4, zero := [K.int (IntKind.i32) (L.n 0)] }),
 (22,
  { kind := TK.arr 2 5,
    size := 2,
    bytes := 2,
    zero := [K.int (IntKind.u8) (L.n 0), K.int (IntKind.u8) (L.n 0)] }),
 (23, { kind := TK.int (IntKind.u32), size := 1, bytes := 4, zero := [K.int (IntKind.u32) (L.n 0)] }),
 (24,
  { kind := TK.struct [(5, 0), (3, 1), (22, 2), (23, 4)],
    size := 5,
    bytes := 24,
    zero := [K.int (IntKind.u8) (L.n 0),
             K.int (IntKind.i64) (L.n 0),
             K.int (IntKind.u8) (L.n 0),
             K.int (IntKind.u8) (L.n 0),
             K.int (IntKind.u32) (L.n 0)] }),
 (25,
  { kind := TK.struct [(5, 0), (3, 1), (22, 2), (23, 4)],
    size := 5,
    bytes := 24,
    zero := [K.int (IntKind.u8) (L.n 0),
             K.int (IntKind.i64) (L.n 0),
             K.int (IntKind.u8) (L.n 0),
             K.int (IntKind.u8) (L.n 0),
             K.int (IntKind.u32) (L.n 0)] }),
 (26, { kind := TK.func, size := 1, bytes := 8, zero := [K.nilfn] }),
 (27, { kind := TK.func, size := 1, bytes := 8, zero := [K.nilfn] }),
 (28, { kind := TK.func, size := 1, bytes := 8, zero := [K.nilfn] }),
 (29, { kind := TK.func, size := 1, bytes := 8, zero := [K.nilfn] }),
 (30, { kind := TK.int (IntKind.u16), size := 1, bytes := 2, zero := [K.int (IntKind.u16) (L.n 0)] }),
 (31,
  { kind := TK.struct [(5, 0), (5, 1), (5, 2), (30, 3)],
    size := 4,
    bytes := 6,
    zero := [K.int (IntKind.u8) (L.n 0),
             K.int (IntKind.u8) (L.n 0),
             K.int (IntKind.u8) (L.n 0),
             K.int (IntKind.u16) (L.n 0)] }),
 (32,
  { kind := TK.struct [(5, 0), (5, 1), (5, 2), (30, 3)],
    size := 4,
    bytes := 6,
    zero := [K.int (IntKind.u8) (L.n 0),
             K.int (IntKind.u8) (L.n 0),
             K.int (IntKind.u8) (L.n 0),
             K.int (IntKind.u16) (L.n 0)] }),
 (33, { kind := TK.func, size := 1, bytes := 8, zero := [K.nilfn] }),
 (34, { kind := TK.int (IntKind.i64), size := 1, bytes := 8, zero := [K.int (IntKind.i64) (L.n 0)] }),
 (36, { kind := TK.func, size := 1, bytes := 8, zero := [K.nilfn] }),
 (37, { kind := TK.func, size := 1, bytes := 8, zero := [K.nilfn] }),
 (38, { kind := TK.func, size := 1, bytes := 8, zero := [K.nilfn] }),
 (39, { kind := TK.func, size := 1, bytes := 8, zero := [K.nilfn] }),
 (40, { kind := TK.func, size := 1, bytes := 8, zero := [K.nilfn] }),
 (41,
  { kind := TK.struct [(3, 0), (3, 1), (3, 2), (3, 3)],
    size := 4,
    bytes := 32,
    zero := [K.int (IntKind.i64) (L.n 0),
             K.int (IntKind.i64) (L.n 0),
             K.int (IntKind.i64) (L.n 0),
             K.int (IntKind.i64) (L.n 0)] }),
 (42,
  { kind := TK.struct [(3, 0), (3, 1), (3, 2), (3, 3)],
    size := 4,
    bytes := 32,
    zero := [K.int (IntKind.i64) (L.n 0),
             K.int (IntKind.i64) (L.n 0),
             K.int (IntKind.i64) (L.n 0),
             K.int (IntKind.i64) (L.n 0)] }),
 (44, { kind := TK.func, size := 1, bytes := 8, zero := [K.nilfn] }),
 (45, { kind := TK.func, size := 1, bytes := 8, zero := [K.nilfn] }),
 (46, { kind := TK.func, size := 1, bytes := 8, zero := [K.nilfn] }),
 (47, { kind := TK.func, size := 1, bytes := 8, zero := [K.nilfn] }),
 (48, { kind := TK.func, size := 1, bytes := 8, zero := [K.nilfn] }),
 (49, { kind := TK.func, size := 1, bytes := 8, zero := [K.nilfn] }),
 (50,
  { kind := TK.struct [(3, 0), (3, 1)],
    size := 2,
    bytes := 16,
    zero := [K.int (IntKind.i64) (L.n 0), K.int (IntKind.i64) (L.n 0)] }),
 (51,
  { kind := TK.struct [(3, 0), (3, 1)],
    size := 2,
    bytes := 16,
    zero := [K.int (IntKind.i64) (L.n 0), K.int (IntKind.i64) (L.n 0)] }),
 (52, { kind := TK.arr 2 9, size := 2, bytes := 32, zero := [K.str (L.s []), K.str (L.s [])] }),
 (53, { kind := TK.slice 3, size := 1, bytes := 24, zero := [K.nilslc] }),
 (54,
  { kind := TK.struct [(52, 0), (53, 2), (3, 3)],
    size := 4,
    bytes := 64,
    zero := [K.str (L.s []), K.str (L.s []), K.nilslc, K.int (IntKind.i64) (L.n 0)] }),
 (55,
  { kind := TK.struct [(52, 0), (53, 2), (3, 3)],
    size := 4,
    bytes := 64,
    zero := [K.str (L.s []), K.str (L.s []), K.nilslc, K.int (IntKind.i64) (L.n 0)] }),
 (56,
  { kind := TK.struct [(3, 0), (3, 1)],
    size := 2,
    bytes := 16,
    zero := [K.int (IntKind.i64) (L.n 0), K.int (IntKind.i64) (L.n 0)] }),
 (57,
  { kind := TK.struct [(3, 0), (3, 1)],
    size := 2,
    bytes := 16,
    zero := [K.int (IntKind.i64) (L.n 0), K.int (IntKind.i64) (L.n 0)] }),
 (58,
  { kind := TK.struct [(3, 0), (51, 1), (55, 3), (3, 7), (3, 8), (57, 9)],
    size := 11,
    bytes := 120,
    zero := [K.int (IntKind.i64) (L.n 0),
             K.int (IntKind.i64) (L.n 0),
             K.int (IntKind.i64) (L.n 0),
             K.str (L.s []),
             K.str (L.s []),
             K.nilslc,
             K.int (IntKind.i64) (L.n 0),
             K.int (IntKind.i64) (L.n 0),
             K.int (IntKind.i64) (L.n 0),
             K.int (IntKind.i64) (L.n 0),
             K.int (IntKind.i64) (L.n 0)] }),
 (59,
  { kind := TK.struct [(3, 0), (51, 1), (55, 3), (3, 7), (3, 8), (57, 9)],
    size := 11,
    bytes := 120,
    zero := [K.int (IntKind.i64) (L.n 0),
             K.int (IntKind.i64) (L.n 0),
             K.int (IntKind.i64) (L.n 0),
             K.str (L.s []),
             K.str (L.s []),
             K.nilslc,
             K.int (IntKind.i64) (L.n 0),
             K.int (IntKind.i64) (L.n 0),
             K.int (IntKind.i64) (L.n 0),
             K.int (IntKind.i64) (L.n 0),
             K.int (IntKind.i64) (L.n 0)] }),
 (60, { kind := TK.func, size := 1, bytes := 8, zero := [K.nilfn] }),
 (61, { kind := TK.func, size := 1, bytes := 8, zero := [K.nilfn] }),
 (62, { kind := TK.func, size := 1, bytes := 8, zero := [K.nilfn] }),
 (63, { kind := TK.func, size := 1, bytes := 8, zero := [K.nilfn] }),
 (64, { kind := TK.func, size := 1, bytes := 8, zero := [K.nilfn] }),
 (65, { kind := TK.arr 2 4, size := 2, bytes := 2, zero := [K.bool (L.t false), K.bool (L.t false)] }),
 (66, { kind := TK.func, size := 1, bytes := 8, zero := [K.nilfn] }),
 (67, { kind := TK.func, size := 1, bytes := 8, zero := [K.nilfn] }),
 (69, { kind := TK.func, size := 1, bytes := 8, zero := [K.nilfn] }),
 (70, { kind := TK.func, size := 1, bytes := 8, zero := [K.nilfn] }),
 (72, { kind := TK.func, size := 1, bytes := 8, zero := [K.nilfn] }),
 (73, { kind := TK.func, size := 1, bytes := 8, zero := [K.nilfn] }),
 (74, { kind := TK.func, size := 1, bytes := 8, zero := [K.nilfn] }),
 (75,
  { kind := TK.arr 8 3,
    size := 8,
    bytes := 64,
    zero := [K.int (IntKind.i64) (L.n 0),
             K.int (IntKind.i64) (L.n 0),
             K.int (IntKind.i64) (L.n 0),
             K.int (IntKind.i64) (L.n 0),
             K.int (IntKind.i64) (L.n 0),
             K.int (IntKind.i64) (L.n 0),
             K.int (IntKind.i64) (L.n 0),
             K.int (IntKind.i64) (L.n 0)] }),
 (76,
  { kind := TK.struct [(75, 0), (3, 8), (3, 9), (3, 10), (3, 11)],
    size := 12,
    bytes := 96,
    zero := [K.int (IntKind.i64) (L.n 0),
             K.int (IntKind.i64) (L.n 0),
             K.int (IntKind.i64) (L.n 0),
             K.int (IntKind.i64) (L.n 0),
             K.int (IntKind.i64) (L.n 0),
             K.int (IntKind.i64) (L.n 0),
             K.int (IntKind.i64) (L.n 0),
             K.int (IntKind.i64) (L.n 0),
             K.int (IntKind.i64) (L.n 0),
             K.int (IntKind.i64) (L.n 0),
             K.int (IntKind.i64) (L.n 0),
             K.int (IntKind.i64) (L.n 0)] }),
 (77,
  { kind := TK.struct [(75, 0), (3, 8), (3, 9), (3, 10), (3, 11)],
    size := 12,
    bytes := 96,
    zero := [K.int (IntKind.i64) (L.n 0),
             K.int (IntKind.i64) (L.n 0),
             K.int (IntKind.i64) (L.n 0),
             K.int (IntKind.i64) (L.n 0),
             K.int (IntKind.i64) (L.n 0),
             K.int (IntKind.i64) (L.n 0),
             K.int (IntKind.i64) (L.n 0),
             K.int (IntKind.i64) (L.n 0),
             K.int (IntKind.i64) (L.n 0),
             K.int (IntKind.i64) (L.n 0),
             K.int (IntKind.i64) (L.n 0),
             K.int (IntKind.i64) (L.n 0)] }),
 (79, { kind := TK.func, size := 1, bytes := 8, zero := [K.nilfn] }),
 (81, { kind := TK.func, size := 1, bytes := 8, zero := [K.nilfn] }),
 (82, { kind := TK.func, size := 1, bytes := 8, zero := [K.nilfn] }),
 (83, { kind := TK.func, size := 1, bytes := 8, zero := [K.nilfn] }),
 (84, { kind := TK.func, size := 1, bytes := 8, zero := [K.nilfn] }),
 (85, { kind := TK.func, size := 1, bytes := 8, zero := [K.nilfn] }),
 (86, { kind := TK.func, size := 1, bytes := 8, zero := [K.nilfn] }),
 (87, { kind := TK.slice 57, size := 1, bytes := 24, zero := [K.nilslc] }),
 (88, { kind := TK.func, size := 1, bytes := 8, zero := [K.nilfn] }),
 (90, { kind := TK.func, size := 1, bytes := 8, zero := [K.nilfn] }),
 (91, { kind := TK.func, size := 1, bytes := 8, zero := [K.nilfn] }),
 (92, { kind := TK.func, size := 1, bytes := 8, zero := [K.nilfn] }),
 (93, { kind := TK.func, size := 1, bytes := 8, zero := [K.nilfn] }),
 (94,
  { kind := TK.arr 2 57,
    size := 4,
    bytes := 32,
    zero := [K.int (IntKind.i64) (L.n 0),
             K.int (IntKind.i64) (L.n 0),
             K.int (IntKind.i64) (L.n 0),
             K.int (IntKind.i64) (L.n 0)] }),
 (95, { kind := TK.func, size := 1, bytes := 8, zero := [K.nilfn] }),
 (96, { kind := TK.func, size := 1, bytes := 8, zero := [K.nilfn] }),
 (97, { kind := TK.func, size := 1, bytes := 8, zero := [K.nilfn] }),
 (98,
  { kind := TK.struct [(5, 0), (42, 1), (42, 5), (5, 9)],
    size := 10,
    bytes := 80,
    zero := [K.int (IntKind.u8) (L.n 0),
             K.int (IntKind.i64) (L.n 0),
             K.int (IntKind.i64) (L.n 0),
             K.int (IntKind.i64) (L.n 0),
             K.int (IntKind.i64) (L.n 0),
             K.int (IntKind.i64) (L.n 0),
             K.int (IntKind.i64) (L.n 0),
             K.int (IntKind.i64) (L.n 0),
             K.int (IntKind.i64) (L.n 0),
             K.int (IntKind.u8) (L.n 0)] }),
 (99,
  { kind := TK.struct [(5, 0), (42, 1), (42, 5), (5, 9)],
    size := 10,
    bytes := 80,
    zero := [K.int (IntKind.u8) (L.n 0),
             K.int (IntKind.i64) (L.n 0),
             K.int (IntKind.i64) (L.n 0),
             K.int (IntKind.i64) (L.n 0),
             K.int (IntKind.i64) (L.n 0),
             K.int (IntKind.i64) (L.n 0),
             K.int (IntKind.i64) (L.n 0),
             K.int (IntKind.i64) (L.n 0),
             K.int (IntKind.i64) (L.n 0),
             K.int (IntKind.u8) (L.n 0)] }),
 (100, { kind := TK.func, size := 1, bytes := 8, zero := [K.nilfn] }),
 (101,
  { kind := TK.struct [(3, 0), (42, 1), (94, 5), (3, 9)],
    size := 10,
    bytes := 80,
    zero := [K.int (IntKind.i64) (L.n 0),
             K.int (IntKind.i64) (L.n 0),
             K.int (IntKind.i64) (L.n 0),
             K.int (IntKind.i64) (L.n 0),
             K.int (IntKind.i64) (L.n 0),
             K.int (IntKind.i64) (L.n 0),
             K.int (IntKind.i64) (L.n 0),
             K.int (IntKind.i64) (L.n 0),
             K.int (IntKind.i64) (L.n 0),
             K.int (IntKind.i64) (L.n 0)] }),
 (102,
  { kind := TK.struct [(3, 0), (42, 1), (94, 5), (3, 9)],
    size := 10,
    bytes := 80,
    zero := [K.int (IntKind.i64) (L.n 0),
             K.int (IntKind.i64) (L.n 0),
             K.int (IntKind.i64) (L.n 0),
             K.int (IntKind.i64) (L.n 0),
             K.int (IntKind.i64) (L.n 0),
             K.int (IntKind.i64) (L.n 0),
             K.int (IntKind.i64) (L.n 0),
             K.int (IntKind.i64) (L.n 0),
             K.int (IntKind.i64) (L.n 0),
             K.int (IntKind.i64) (L.n 0)] }),
 (103, { kind := TK.func, size := 1, bytes := 8, zero := [K.nilfn] }),
 (104, { kind := TK.func, size := 1, bytes := 8, zero := [K.nilfn] }),
 (105,
  { kind := TK.struct [(5, 0), (5, 1), (5, 2), (30, 3)],
    size := 4,
    bytes := 6,
    zero := [K.int (IntKind.u8) (L.n 0),
             K.int (IntKind.u8) (L.n 0),
             K.int (IntKind.u8) (L.n 0),
             K.int (IntKind.u16) (L.n 0)] }),
 (106,
  { kind := TK.struct [(5, 0), (5, 1), (5, 2), (30, 3)],
    size := 4,
    bytes := 6,
    zero := [K.int (IntKind.u8) (L.n 0),
             K.int (IntKind.u8) (L.n 0),
             K.int (IntKind.u8) (L.n 0),
             K.int (IntKind.u16) (L.n 0)] }),
 (107, { kind := TK.func, size := 1, bytes := 8, zero := [K.nilfn] }),
 (108, { kind := TK.slice 87, size := 1, bytes := 24, zero := [K.nilslc] }),
 (109, { kind := TK.func, size := 1, bytes := 8, zero := [K.nilfn] }),
 (110, { kind := TK.func, size := 1, bytes := 8, zero := [K.nilfn] }),
 (111, { kind := TK.slice 5, size := 1, bytes := 24, zero := [K.nilslc] }),
 (112,
  { kind := TK.struct [(5, 0), (77, 1), (5, 13), (111, 14)],
    size := 15,
    bytes := 136,
    zero := [K.int (IntKind.u8) (L.n 0),
             K.int (IntKind.i64) (L.n 0),
             K.int (IntKind.i64) (L.n 0),
             K.int (IntKind.i64) (L.n 0),
             K.int (IntKind.i64) (L.n 0),
             K.int (IntKind.i64) (L.n 0),
             K.int (IntKind.i64) (L.n 0),
             K.int (IntKind.i64) (L.n 0),
             K.int (IntKind.i64) (L.n 0),
             K.int (IntKind.i64) (L.n 0),
             K.int (IntKind.i64) (L.n 0),
             K.int (IntKind.i64) (L.n 0),
             K.int (IntKind.i64) (L.n 0),
             K.int (IntKind.u8) (L.n 0),
             K.nilslc] }),
 (113,
  { kind := TK.struct [(5, 0), (77, 1), (5, 13), (111, 14)],
    size := 15,
    bytes := 136,
    zero := [K.int (IntKind.u8) (L.n 0),
             K.int (IntKind.i64) (L.n 0),
             K.int (IntKind.i64) (L.n 0),
             K.int (IntKind.i64) (L.n 0),
             K.int (IntKind.i64) (L.n 0),
             K.int (IntKind.i64) (L.n 0),
             K.int (IntKind.i64) (L.n 0),
             K.int (IntKind.i64) (L.n 0),
             K.int (IntKind.i64) (L.n 0),
             K.int (IntKind.i64) (L.n 0),
             K.int (IntKind.i64) (L.n 0),
             K.int (IntKind.i64) (L.n 0),
             K.int (IntKind.i64) (L.n 0),
             K.int (IntKind.u8) (L.n 0),
             K.nilslc] }),
 (114, { kind := TK.func, size := 1, bytes := 8, zero := [K.nilfn] }),
 (115, { kind := TK.func, size := 1, bytes := 8, zero := [K.nilfn] }),
 (117, { kind := TK.func, size := 1, bytes := 8, zero := [K.nilfn] }),
 (118, { kind := TK.func, size := 1, bytes := 8, zero := [K.nilfn] }),
 (119, { kind := TK.func, size := 1, bytes := 8, zero := [K.nilfn] }),
 (120,
  { kind := TK.arr 2 77,
    size := 24,
    bytes := 192,
    zero := [K.int (IntKind.i64) (L.n 0),
             K.int (IntKind.i64) (L.n 0),
             K.int (IntKind.i64) (L.n 0),
             K.int (IntKind.i64) (L.n 0),
             K.int (IntKind.i64) (L.n 0),
             K.int (IntKind.i64) (L.n 0),
             K.int (IntKind.i64) (L.n 0),
             K.int (IntKind.i64) (L.n 0),
             K.int (IntKind.i64) (L.n 0),
             K.int (IntKind.i64) (L.n 0),
             K.int (IntKind.i64) (L.n 0),
             K.int (IntKind.i64) (L.n 0),
             K.int (IntKind.i64) (L.n 0),
             K.int (IntKind.i64) (L.n 0),
             K.int (IntKind.i64) (L.n 0),
             K.int (IntKind.i64) (L.n 0),
             K.int (IntKind.i64) (L.n 0),
             K.int (IntKind.i64) (L.n 0),
             K.int (IntKind.i64) (L.n 0),
             K.int (IntKind.i64) (L.n 0),
             K.int (IntKind.i64) (L.n 0),
             K.int (IntKind.i64) (L.n 0),
             K.int (IntKind.i64) (L.n 0),
             K.int (IntKind.i64) (L.n 0)] }),
 (121, { kind := TK.arr 2 87, size := 2, bytes := 48, zero := [K.nilslc, K.nilslc] }),
 (122,
  { kind := TK.struct [(3, 0), (120, 1), (121, 25), (65, 27)],
    size := 29,
    bytes := 256,
    zero := [K.int (IntKind.i64) (L.n 0),
             K.int (IntKind.i64) (L.n 0),
             K.int (IntKind.i64) (L.n 0),
             K.int (IntKind.i64) (L.n 0),
             K.int (IntKind.i64) (L.n 0),
             K.int (IntKind.i64) (L.n 0),
             K.int (IntKind.i64) (L.n 0),
             K.int (IntKind.i64) (L.n 0),
             K.int (IntKind.i64) (L.n 0),
             K.int (IntKind.i64) (L.n 0),
             K.int (IntKind.i64) (L.n 0),
             K.int (IntKind.i64) (L.n 0),
             K.int (IntKind.i64) (L.n 0),
             K.int (IntKind.i64) (L.n 0),
             K.int (IntKind.i64) (L.n 0),
             K.int (IntKind.i64) (L.n 0),
             K.int (IntKind.i64) (L.n 0),
             K.int (IntKind.i64) (L.n 0),
             K.int (IntKind.i64) (L.n 0),
             K.int (IntKind.i64) (L.n 0),
             K.int (IntKind.i64) (L.n 0),
             K.int (IntKind.i64) (L.n 0),
             K.int (IntKind.i64) (L.n 0),
             K.int (IntKind.i64) (L.n 0),
             K.int (IntKind.i64) (L.n 0),
             K.nilslc,
             K.nilslc,
             K.bool (L.t false),
             K.bool (L.t false)] }),
 (123,
  { kind := TK.struct [(3, 0), (120, 1), (121, 25), (65, 27)],
    size := 29,
    bytes := 256,
    zero := [K.int (IntKind.i64) (L.n 0),
             K.int (IntKind.i64) (L.n 0),
             K.int (IntKind.i64) (L.n 0),
             K.int (IntKind.i64) (L.n 0),
             K.int (IntKind.i64) (L.n 0),
             K.int (IntKind.i64) (L.n 0),
             K.int (IntKind.i64) (L.n 0),
             K.int (IntKind.i64) (L.n 0),
             K.int (IntKind.i64) (L.n 0),
             K.int (IntKind.i64) (L.n 0),
             K.int (IntKind.i64) (L.n 0),
             K.int (IntKind.i64) (L.n 0),
             K.int (IntKind.i64) (L.n 0),
             K.int (IntKind.i64) (L.n 0),
             K.int (IntKind.i64) (L.n 0),
             K.int (IntKind.i64) (L.n 0),
             K.int (IntKind.i64) (L.n 0),
             K.int (IntKind.i64) (L.n 0),
             K.int (IntKind.i64) (L.n 0),
             K.int (IntKind.i64) (L.n 0),
             K.int (IntKind.i64) (L.n 0),
             K.int (IntKind.i64) (L.n 0),
             K.int (IntKind.i64) (L.n 0),
             K.int (IntKind.i64) (L.n 0),
             K.int (IntKind.i64) (L.n 0),
             K.nilslc,
             K.nilslc,
             K.bool (L.t false),
             K.bool (L.t false)] }),
 (125, { kind := TK.func, size := 1, bytes := 8, zero := [K.nilfn] }),
 (126, { kind := TK.func, size := 1, bytes := 8, zero := [K.nilfn] }),
 (128, { kind := TK.func, size := 1, bytes := 8, zero := [K.nilfn] }),
 (129, { kind := TK.func, size := 1, bytes := 8, zero := [K.nilfn] }),
 (130, { kind := TK.func, size := 1, bytes := 8, zero := [K.nilfn] }),
 (131, { kind := TK.func, size := 1, bytes := 8, zero := [K.nilfn] }),
 (132, { kind := TK.func, size := 1, bytes := 8, zero := [K.nilfn] }),
 (133, { kind := TK.func, size := 1, bytes := 8, zero := [K.nilfn] }),
 (134, { kind := TK.func, size := 1, bytes := 8, zero := [K.nilfn] }),
 (135, { kind := TK.slice 140, size := 1, bytes := 24, zero := [K.nilslc] }),
 (136, { kind := TK.func, size := 1, bytes := 8, zero := [K.nilfn] }),
 (137, { kind := TK.ptr 77, size := 1, bytes := 8, zero := [K.nilptr] }),
 (138, { kind := TK.ptr 3, size := 1, bytes := 8, zero := [K.nilptr] }),
 (139,
  { kind := TK.struct [(138, 0), (3, 1)],
    size := 2,
    bytes := 16,
    zero := [K.nilptr, K.int (IntKind.i64) (L.n 0)] }),
 (140,
  { kind := TK.struct [(138, 0), (3, 1)],
    size := 2,
    bytes := 16,
    zero := [K.nilptr, K.int (IntKind.i64) (L.n 0)] }),
 (141, { kind := TK.func, size := 1, bytes := 8, zero := [K.nilfn] }),
 (142, { kind := TK.func, size := 1, bytes := 8, zero := [K.nilfn] }),
 (143, { kind := TK.func, size := 1, bytes := 8, zero := [K.nilfn] }),
 (144, { kind := TK.func, size := 1, bytes := 8, zero := [K.nilfn] }),
 (145, { kind := TK.func, size := 1, bytes := 8, zero := [K.nilfn] }),
 (146, { kind := TK.func, size := 1, bytes := 8, zero := [K.nilfn] }),
 (148, { kind := TK.func, size := 1, bytes := 8, zero := [K.nilfn] }),
 (151, { kind := TK.func, size := 1, bytes := 8, zero := [K.nilfn] }),
 (152, { kind := TK.ptr 154, size := 1, bytes := 8, zero := [K.nilptr] }),
 (153,
  { kind := TK.struct [(42, 0), (3, 4), (94, 5), (4, 9)],
    size := 10,
    bytes := 80,
    zero := [K.int (IntKind.i64) (L.n 0),
             K.int (IntKind.i64) (L.n 0),
             K.int (IntKind.i64) (L.n 0),
             K.int (IntKind.i64) (L.n 0),
             K.int (IntKind.i64) (L.n 0),
             K.int (IntKind.i64) (L.n 0),
             K.int (IntKind.i64) (L.n 0),
             K.int (IntKind.i64) (L.n 0),
             K.int (IntKind.i64) (L.n 0),
             K.bool (L.t false)] }),
 (154,
  { kind := TK.struct [(42, 0), (3, 4), (94, 5), (4, 9)],
    size := 10,
    bytes := 80,
    zero := [K.int (IntKind.i64) (L.n 0),
             K.int (IntKind.i64) (L.n 0),
             K.int (IntKind.i64) (L.n 0),
             K.int (IntKind.i64) (L.n 0),
             K.int (IntKind.i64) (L.n 0),
             K.int (IntKind.i64) (L.n 0),
             K.int (IntKind.i64) (L.n 0),
             K.int (IntKind.i64) (L.n 0),
             K.int (IntKind.i64) (L.n 0),
             K.bool (L.t false)] }),
 (155, { kind := TK.func, size := 1, bytes := 8, zero := [K.nilfn] }),
 (157, { kind := TK.func, size := 1, bytes := 8, zero := [K.nilfn] }),
 (158, { kind := TK.func, size := 1, bytes := 8, zero := [K.nilfn] }),
 (159, { kind := TK.func, size := 1, bytes := 8, zero := [K.nilfn] }),
 (160,
  { kind := TK.struct [(77, 0), (87, 12)],
    size := 13,
    bytes := 120,
    zero := [K.int (IntKind.i64) (L.n 0),
             K.int (IntKind.i64) (L.n 0),
             K.int (IntKind.i64) (L.n 0),
             K.int (IntKind.i64) (L.n 0),
             K.int (IntKind.i64) (L.n 0),
             K.int (IntKind.i64) (L.n 0),
             K.int (IntKind.i64) (L.n 0),
             K.int (IntKind.i64) (L.n 0),
             K.int (IntKind.i64) (L.n 0),
             K.int (IntKind.i64) (L.n 0),
             K.int (IntKind.i64) (L.n 0),
             K.int (IntKind.i64) (L.n 0),
             K.nilslc] }),
 (161,
  { kind := TK.struct [(77, 0), (87, 12)],
    size := 13,
    bytes := 120,
    zero := [K.int (IntKind.i64) (L.n 0),
             K.int (IntKind.i64) (L.n 0),
             K.int (IntKind.i64) (L.n 0),
             K.int (IntKind.i64) (L.n 0),
             K.int (IntKind.i64) (L.n 0),
             K.int (IntKind.i64) (L.n 0),
             K.int (IntKind.i64) (L.n 0),
             K.int (IntKind.i64) (L.n 0),
             K.int (IntKind.i64) (L.n 0),
             K.int (IntKind.i64) (L.n 0),
             K.int (IntKind.i64) (L.n 0),
             K.int (IntKind.i64) (L.n 0),
             K.nilslc] }),
 (162,
  { kind := TK.arr 2 161,
    size := 26,
    bytes := 240,
    zero := [K.int (IntKind.i64) (L.n 0),
             K.int (IntKind.i64) (L.n 0),
             K.int (IntKind.i64) (L.n 0),
             K.int (IntKind.i64) (L.n 0),
             K.int (IntKind.i64) (L.n 0),
             K.int (IntKind.i64) (L.n 0),
             K.int (IntKind.i64) (L.n 0),
             K.int (IntKind.i64) (L.n 0),
             K.int (IntKind.i64) (L.n 0),
             K.int (IntKind.i64) (L.n 0),
             K.int (IntKind.i64) (L.n 0),
             K.int (IntKind.i64) (L.n 0),
             K.nilslc,
             K.int (IntKind.i64) (L.n 0),
             K.int (IntKind.i64) (L.n 0),
             K.int (IntKind.i64) (L.n 0),
             K.int (IntKind.i64) (L.n 0),
             K.int (IntKind.i64) (L.n 0),
             K.int (IntKind.i64) (L.n 0),
             K.int (IntKind.i64) (L.n 0),
             K.int (IntKind.i64) (L.n 0),
             K.int (IntKind.i64) (L.n 0),
             K.int (IntKind.i64) (L.n 0),
             K.int (IntKind.i64) (L.n 0),
             K.int (IntKind.i64) (L.n 0),
             K.nilslc] }),
 (163, { kind := TK.func, size := 1, bytes := 8, zero := [K.nilfn] }),
 (165, { kind := TK.func, size := 1, bytes := 8, zero := [K.nilfn] }),
 (167, { kind := TK.func, size := 1, bytes := 8, zero := [K.nilfn] }),
 (168, { kind := TK.func, size := 1, bytes := 8, zero := [K.nilfn] }),
 (169, { kind := TK.func, size := 1, bytes := 8, zero := [K.nilfn] }),
 (170, { kind := TK.func, size := 1, bytes := 8, zero := [K.nilfn] }),
 (171, { kind := TK.int (IntKind.u64), size := 1, bytes := 8, zero := [K.int (IntKind.u64) (L.n 0)] }),
 (172, { kind := TK.func, size := 1, bytes := 8, zero := [K.nilfn] }),
 (173, { kind := TK.func, size := 1, bytes := 8, zero := [K.nilfn] }),
 (174, { kind := TK.func, size := 1, bytes := 8, zero := [K.nilfn] }),
 (175, { kind := TK.func, size := 1, bytes := 8, zero := [K.nilfn] }),
 (176, { kind := TK.func, size := 1, bytes := 8, zero := [K.nilfn] }),
 (177, { kind := TK.func, size := 1, bytes := 8, zero := [K.nilfn] }),
 (178,
  { kind := TK.struct [(17, 0), (17, 1), (17, 2), (9, 3)],
    size := 4,
    bytes := 40,
    zero := [K.nilptr, K.nilptr, K.nilptr, K.str (L.s [])] }),
 (179,
  { kind := TK.struct [(17, 0), (17, 1), (17, 2), (9, 3)],
    size := 4,
    bytes := 40,
    zero := [K.nilptr, K.nilptr, K.nilptr, K.str (L.s [])] }),
 (180, { kind := TK.arr 0 16, size := 0, bytes := 0, zero := [] }),
 (181, { kind := TK.struct [(180, 0)], size := 0, bytes := 0, zero := [] }),
 (182, { kind := TK.struct [(180, 0)], size := 0, bytes := 0, zero := [] }),
 (183, { kind := TK.func, size := 1, bytes := 8, zero := [K.nilfn] }),
 (184, { kind := TK.int (IntKind.u8), size := 1, bytes := 1, zero := [K.int (IntKind.u8) (L.n 0)] }),
 (185, { kind := TK.int (IntKind.u8), size := 1, bytes := 1, zero := [K.int (IntKind.u8) (L.n 0)] }),
 (186, { kind := TK.func, size := 1, bytes := 8, zero := [K.nilfn] }),
 (187, { kind := TK.ptr 5, size := 1, bytes := 8, zero := [K.nilptr] }),
 (188, { kind := TK.int (IntKind.i32), size := 1, bytes := 4, zero := [K.int (IntKind.i32) (L.n 0)] }),
 (189, { kind := TK.int (IntKind.i32), size := 1, bytes := 4, zero := [K.int (IntKind.i32) (L.n 0)] }),
 (190,
  { kind := TK.struct
              [(12, 0), (12, 1), (23, 2), (184, 3), (5, 4), (5, 5), (185, 6), (186, 7), (187, 8), (188, 9), (189, 10)],
    size := 11,
    bytes := 48,
    zero := [K.int (IntKind.u64) (L.n 0),
             K.int (IntKind.u64) (L.n 0),
             K.int (IntKind.u32) (L.n 0),
             K.int (IntKind.u8) (L.n 0),
             K.int (IntKind.u8) (L.n 0),
             K.int (IntKind.u8) (L.n 0),
             K.int (IntKind.u8) (L.n 0),
             K.nilfn,
             K.nilptr,
             K.int (IntKind.i32) (L.n 0),
             K.int (IntKind.i32) (L.n 0)] }),
 (191,
  { kind := TK.struct
              [(12, 0), (12, 1), (23, 2), (184, 3), (5, 4), (5, 5), (185, 6), (186, 7), (187, 8), (188, 9), (189, 10)],
    size := 11,
    bytes := 48,
    zero := [K.int (IntKind.u64) (L.n 0),
             K.int (IntKind.u64) (L.n 0),
             K.int (IntKind.u32) (L.n 0),
             K.int (IntKind.u8) (L.n 0),
             K.int (IntKind.u8) (L.n 0),
             K.int (IntKind.u8) (L.n 0),
             K.int (IntKind.u8) (L.n 0),
             K.nilfn,
             K.nilptr,
             K.int (IntKind.i32) (L.n 0),
             K.int (IntKind.i32) (L.n 0)] })]
def eqs : List (Nat × List (Nat × Srt)) := [(7,
  [(0, Srt.int (IntKind.i64)),
   (1, Srt.int (IntKind.i64)),
   (2, Srt.bool),
   (3, Srt.int (IntKind.u8))]),
 (8,
  [(0, Srt.int (IntKind.i64)),
   (1, Srt.int (IntKind.i64)),
   (2, Srt.bool),
   (3, Srt.int (IntKind.u8))]),
 (22, [(0, Srt.int (IntKind.u8)), (1, Srt.int (IntKind.u8))]),
 (24,
  [(0, Srt.int (IntKind.u8)),
   (1, Srt.int (IntKind.i64)),
   (2, Srt.int (IntKind.u8)),
   (3, Srt.int (IntKind.u8)),
   (4, Srt.int (IntKind.u32))]),
 (25,
  [(0, Srt.int (IntKind.u8)),
   (1, Srt.int (IntKind.i64)),
   (2, Srt.int (IntKind.u8)),
   (3, Srt.int (IntKind.u8)),
   (4, Srt.int (IntKind.u32))]),
 (31,
  [(0, Srt.int (IntKind.u8)),
   (1, Srt.int (IntKind.u8)),
   (2, Srt.int (IntKind.u8)),
   (3, Srt.int (IntKind.u16))]),
 (32,
  [(0, Srt.int (IntKind.u8)),
   (1, Srt.int (IntKind.u8)),
   (2, Srt.int (IntKind.u8)),
   (3, Srt.int (IntKind.u16))]),
 (41,
  [(0, Srt.int (IntKind.i64)),
   (1, Srt.int (IntKind.i64)),
   (2, Srt.int (IntKind.i64)),
   (3, Srt.int (IntKind.i64))]),
 (42,
  [(0, Srt.int (IntKind.i64)),
   (1, Srt.int (IntKind.i64)),
   (2, Srt.int (IntKind.i64)),
   (3, Srt.int (IntKind.i64))]),
 (50, [(0, Srt.int (IntKind.i64)), (1, Srt.int (IntKind.i64))]),
 (51, [(0, Srt.int (IntKind.i64)), (1, Srt.int (IntKind.i64))]),
 (52, [(0, Srt.str), (1, Srt.str)]),
 (56, [(0, Srt.int (IntKind.i64)), (1, Srt.int (IntKind.i64))]),
 (57, [(0, Srt.int (IntKind.i64)), (1, Srt.int (IntKind.i64))]),
 (65, [(0, Srt.bool), (1, Srt.bool)]),
 (75,
  [(0, Srt.int (IntKind.i64)),
   (1, Srt.int (IntKind.i64)),
   (2, Srt.int (IntKind.i64)),
   (3, Srt.int (IntKind.i64)),
   (4, Srt.int (IntKind.i64)),
   (5, Srt.int (IntKind.i64)),
   (6, Srt.int (IntKind.i64)),
   (7, Srt.int (IntKind.i64))]),
 (76,
  [(0, Srt.int (IntKind.i64)),
   (1, Srt.int (IntKind.i64)),
   (2, Srt.int (IntKind.i64)),
   (3, Srt.int (IntKind.i64)),
   (4, Srt.int (IntKind.i64)),
   (5, Srt.int (IntKind.i64)),
   (6, Srt.int (IntKind.i64)),
   (7, Srt.int (IntKind.i64)),
   (8, Srt.int (IntKind.i64)),
   (9, Srt.int (IntKind.i64)),
   (10, Srt.int (IntKind.i64)),
   (11, Srt.int (IntKind.i64))]),
 (77,
  [(0, Srt.int (IntKind.i64)),
   (1, Srt.int (IntKind.i64)),
   (2, Srt.int (IntKind.i64)),
   (3, Srt.int (IntKind.i64)),
   (4, Srt.int (IntKind.i64)),
   (5, Srt.int (IntKind.i64)),
   (6, Srt.int (IntKind.i64)),
   (7, Srt.int (IntKind.i64)),
   (8, Srt.int (IntKind.i64)),
   (9, Srt.int (IntKind.i64)),
   (10, Srt.int (IntKind.i64)),
   (11, Srt.int (IntKind.i64))]),
 (94,
  [(0, Srt.int (IntKind.i64)),
   (1, Srt.int (IntKind.i64)),
   (2, Srt.int (IntKind.i64)),
   (3, Srt.int (IntKind.i64))]),
 (98,
  [(0, Srt.int (IntKind.u8)),
   (1, Srt.int (IntKind.i64)),
   (2, Srt.int (IntKind.i64)),
   (3, Srt.int (IntKind.i64)),
   (4, Srt.int (IntKind.i64)),
   (5, Srt.int (IntKind.i64)),
   (6, Srt.int (IntKind.i64)),
   (7, Srt.int (IntKind.i64)),
   (8, Srt.int (IntKind.i64)),
   (9, Srt.int (IntKind.u8))]),
 (99,
  [(0, Srt.int (IntKind.u8)),
   (1, Srt.int (IntKind.i64)),
   (2, Srt.int (IntKind.i64)),
   (3, Srt.int (IntKind.i64)),
   (4, Srt.int (IntKind.i64)),
   (5, Srt.int (IntKind.i64)),
   (6, Srt.int (IntKind.i64)),
   (7, Srt.int (IntKind.i64)),
   (8, Srt.int (IntKind.i64)),
   (9, Srt.int (IntKind.u8))]),
 (101,
  [(0, Srt.int (IntKind.i64)),
   (1, Srt.int (IntKind.i64)),
   (2, Srt.int (IntKind.i64)),
   (3, Srt.int (IntKind.i64)),
   (4, Srt.int (IntKind.i64)),
   (5, Srt.int (IntKind.i64)),
   (6, Srt.int (IntKind.i64)),
   (7, Srt.int (IntKind.i64)),
   (8, Srt.int (IntKind.i64)),
   (9, Srt.int (IntKind.i64))]),
 (102,
  [(0, Srt.int (IntKind.i64)),
   (1, Srt.int (IntKind.i64)),
   (2, Srt.int (IntKind.i64)),
   (3, Srt.int (IntKind.i64)),
   (4, Srt.int (IntKind.i64)),
   (5, Srt.int (IntKind.i64)),
   (6, Srt.int (IntKind.i64)),
   (7, Srt.int (IntKind.i64)),
   (8, Srt.int (IntKind.i64)),
   (9, Srt.int (IntKind.i64))]),
 (105,
  [(0, Srt.int (IntKind.u8)),
   (1, Srt.int (IntKind.u8)),
   (2, Srt.int (IntKind.u8)),
   (3, Srt.int (IntKind.u16))]),
 (106,
  [(0, Srt.int (IntKind.u8)),
   (1, Srt.int (IntKind.u8)),
   (2, Srt.int (IntKind.u8)),
   (3, Srt.int (IntKind.u16))]),
 (120,
  [(0, Srt.int (IntKind.i64)),
   (1, Srt.int (IntKind.i64)),
   (2, Srt.int (IntKind.i64)),
   (3, Srt.int (IntKind.i64)),
   (4, Srt.int (IntKind.i64)),
   (5, Srt.int (IntKind.i64)),
   (6, Srt.int (IntKind.i64)),
   (7, Srt.int (IntKind.i64)),
   (8, Srt.int (IntKind.i64)),
   (9, Srt.int (IntKind.i64)),
   (10, Srt.int (IntKind.i64)),
   (11, Srt.int (IntKind.i64)),
   (12, Srt.int (IntKind.i64)),
   (13, Srt.int (IntKind.i64)),
   (14, Srt.int (IntKind.i64)),
   (15, Srt.int (IntKind.i64)),
   (16, Srt.int (IntKind.i64)),
   (17, Srt.int (IntKind.i64)),
   (18, Srt.int (IntKind.i64)),
   (19, Srt.int (IntKind.i64)),
   (20, Srt.int (IntKind.i64)),
   (21, Srt.int (IntKind.i64)),
   (22, Srt.int (IntKind.i64)),
   (23, Srt.int (IntKind.i64))]),
 (153,
  [(0, Srt.int (IntKind.i64)),
   (1, Srt.int (IntKind.i64)),
   (2, Srt.int (IntKind.i64)),
   (3, Srt.int (IntKind.i64)),
   (4, Srt.int (IntKind.i64)),
   (5, Srt.int (IntKind.i64)),
   (6, Srt.int (IntKind.i64)),
   (7, Srt.int (IntKind.i64)),
   (8, Srt.int (IntKind.i64)),
   (9, Srt.bool)]),
 (154,
  [(0, Srt.int (IntKind.i64)),
   (1, Srt.int (IntKind.i64)),
   (2, Srt.int (IntKind.i64)),
   (3, Srt.int (IntKind.i64)),
   (4, Srt.int (IntKind.i64)),
   (5, Srt.int (IntKind.i64)),
   (6, Srt.int (IntKind.i64)),
   (7, Srt.int (IntKind.i64)),
   (8, Srt.int (IntKind.i64)),
   (9, Srt.bool)])]
-- 207 [13, 14]
theorem tysB : tys.all (fun x => x.2.okB Try.prog x.1) = true := by kernel_rfl
theorem tysOk : TysOK Try.prog tys := tysOK tysB
theorem eqsOk : EqsOK Try.prog eqs := eqsOK (by kernel_rfl)
theorem mixed : Try.prog.follows .mixedOrders = true := by kernel_rfl
theorem fn3 : FnOK Try.prog 3 Try.f3 := ⟨Try.func3, by kernel_rfl, by kernel_rfl⟩
theorem fn4 : FnOK Try.prog 4 Try.f4 := ⟨Try.func4, by kernel_rfl, by kernel_rfl⟩
theorem fn5 : FnOK Try.prog 5 Try.f5 := ⟨Try.func5, by kernel_rfl, by kernel_rfl⟩
theorem fn6 : FnOK Try.prog 6 Try.f6 := ⟨Try.func6, by kernel_rfl, by kernel_rfl⟩
theorem fn7 : FnOK Try.prog 7 Try.f7 := ⟨Try.func7, by kernel_rfl, by kernel_rfl⟩
theorem fn8 : FnOK Try.prog 8 Try.f8 := ⟨Try.func8, by kernel_rfl, by kernel_rfl⟩
theorem fn11 : FnOK Try.prog 11 Try.f11 := ⟨Try.func11, by kernel_rfl, by kernel_rfl⟩
theorem fn12 : FnOK Try.prog 12 Try.f12 := ⟨Try.func12, by kernel_rfl, by kernel_rfl⟩
theorem fn13 : FnOK Try.prog 13 Try.f13 := ⟨Try.func13, by kernel_rfl, by kernel_rfl⟩
theorem fn32 : FnOK Try.prog 32 Try.f32 := ⟨Try.func32, by kernel_rfl, by kernel_rfl⟩
theorem fn33 : FnOK Try.prog 33 Try.f33 := ⟨Try.func33, by kernel_rfl, by kernel_rfl⟩
theorem fn34 : FnOK Try.prog 34 Try.f34 := ⟨Try.func34, by kernel_rfl, by kernel_rfl⟩
theorem fn35 : FnOK Try.prog 35 Try.f35 := ⟨Try.func35, by kernel_rfl, by kernel_rfl⟩
theorem fn36 : FnOK Try.prog 36 Try.f36 := ⟨Try.func36, by kernel_rfl, by kernel_rfl⟩
theorem fn37 : FnOK Try.prog 37 Try.f37 := ⟨Try.func37, by kernel_rfl, by kernel_rfl⟩
theorem fn38 : FnOK Try.prog 38 Try.f38 := ⟨Try.func38, by kernel_rfl, by kernel_rfl⟩
theorem fn39 : FnOK Try.prog 39 Try.f39 := ⟨Try.func39, by kernel_rfl, by kernel_rfl⟩
theorem fn40 : FnOK Try.prog 40 Try.f40 := ⟨Try.func40, by kernel_rfl, by kernel_rfl⟩
theorem fn41 : FnOK Try.prog 41 Try.f41 := ⟨Try.func41, by kernel_rfl, by kernel_rfl⟩
theorem fn42 : FnOK Try.prog 42 Try.f42 := ⟨Try.func42, by kernel_rfl, by kernel_rfl⟩
theorem fn43 : FnOK Try.prog 43 Try.f43 := ⟨Try.func43, by kernel_rfl, by kernel_rfl⟩
theorem fn44 : FnOK Try.prog 44 Try.f44 := ⟨Try.func44, by kernel_rfl, by kernel_rfl⟩
theorem fn45 : FnOK Try.prog 45 Try.f45 := ⟨Try.func45, by kernel_rfl, by kernel_rfl⟩
theorem fn46 : FnOK Try.prog 46 Try.f46 := ⟨Try.func46, by kernel_rfl, by kernel_rfl⟩
theorem fn47 : FnOK Try.prog 47 Try.f47 := ⟨Try.func47, by kernel_rfl, by kernel_rfl⟩
theorem fn48 : FnOK Try.prog 48 Try.f48 := ⟨Try.func48, by kernel_rfl, by kernel_rfl⟩
theorem fn49 : FnOK Try.prog 49 Try.f49 := ⟨Try.func49, by kernel_rfl, by kernel_rfl⟩
theorem fn50 : FnOK Try.prog 50 Try.f50 := ⟨Try.func50, by kernel_rfl, by kernel_rfl⟩
theorem fn51 : FnOK Try.prog 51 Try.f51 := ⟨Try.func51, by kernel_rfl, by kernel_rfl⟩
theorem fn52 : FnOK Try.prog 52 Try.f52 := ⟨Try.func52, by kernel_rfl, by kernel_rfl⟩
theorem fn53 : FnOK Try.prog 53 Try.f53 := ⟨Try.func53, by kernel_rfl, by kernel_rfl⟩
theorem fn54 : FnOK Try.prog 54 Try.f54 := ⟨Try.func54, by kernel_rfl, by kernel_rfl⟩
theorem fn55 : FnOK Try.prog 55 Try.f55 := ⟨Try.func55, by kernel_rfl, by kernel_rfl⟩
theorem fn56 : FnOK Try.prog 56 Try.f56 := ⟨Try.func56, by kernel_rfl, by kernel_rfl⟩
theorem fn57 : FnOK Try.prog 57 Try.f57 := ⟨Try.func57, by kernel_rfl, by kernel_rfl⟩
theorem fn58 : FnOK Try.prog 58 Try.f58 := ⟨Try.func58, by kernel_rfl, by kernel_rfl⟩
theorem fn59 : FnOK Try.prog 59 Try.f59 := ⟨Try.func59, by kernel_rfl, by kernel_rfl⟩
theorem fn60 : FnOK Try.prog 60 Try.f60 := ⟨Try.func60, by kernel_rfl, by kernel_rfl⟩
theorem fn61 : FnOK Try.prog 61 Try.f61 := ⟨Try.func61, by kernel_rfl, by kernel_rfl⟩
theorem fn62 : FnOK Try.prog 62 Try.f62 := ⟨Try.func62, by kernel_rfl, by kernel_rfl⟩
theorem fn63 : FnOK Try.prog 63 Try.f63 := ⟨Try.func63, by kernel_rfl, by kernel_rfl⟩
theorem fn64 : FnOK Try.prog 64 Try.f64 := ⟨Try.func64, by kernel_rfl, by kernel_rfl⟩
theorem fn65 : FnOK Try.prog 65 Try.f65 := ⟨Try.func65, by kernel_rfl, by kernel_rfl⟩
theorem fn66 : FnOK Try.prog 66 Try.f66 := ⟨Try.func66, by kernel_rfl, by kernel_rfl⟩
theorem fn84 : FnOK Try.prog 84 Try.f84 := ⟨Try.func84, by kernel_rfl, by kernel_rfl⟩
theorem fn85 : FnOK Try.prog 85 Try.f85 := ⟨Try.func85, by kernel_rfl, by kernel_rfl⟩
theorem fn86 : FnOK Try.prog 86 Try.f86 := ⟨Try.func86, by kernel_rfl, by kernel_rfl⟩
theorem fn87 : FnOK Try.prog 87 Try.f87 := ⟨Try.func87, by kernel_rfl, by kernel_rfl⟩
theorem fn88 : FnOK Try.prog 88 Try.f88 := ⟨Try.func88, by kernel_rfl, by kernel_rfl⟩
theorem fn129 : FnOK Try.prog 129 Try.f129 := ⟨Try.func129, by kernel_rfl, by kernel_rfl⟩
theorem fn130 : FnOK Try.prog 130 Try.f130 := ⟨Try.func130, by kernel_rfl, by kernel_rfl⟩
theorem fn131 : FnOK Try.prog 131 Try.f131 := ⟨Try.func131, by kernel_rfl, by kernel_rfl⟩
theorem fn132 : FnOK Try.prog 132 Try.f132 := ⟨Try.func132, by kernel_rfl, by kernel_rfl⟩
theorem fn133 : FnOK Try.prog 133 Try.f133 := ⟨Try.func133, by kernel_rfl, by kernel_rfl⟩
theorem fn134 : FnOK Try.prog 134 Try.f134 := ⟨Try.func134, by kernel_rfl, by kernel_rfl⟩
theorem fn140 : FnOK Try.prog 140 Try.f140 := ⟨Try.func140, by kernel_rfl, by kernel_rfl⟩
theorem fn142 : FnOK Try.prog 142 Try.f142 := ⟨Try.func142, by kernel_rfl, by kernel_rfl⟩
theorem fn143 : FnOK Try.prog 143 Try.f143 := ⟨Try.func143, by kernel_rfl, by kernel_rfl⟩
theorem fn148 : FnOK Try.prog 148 Try.f148 := ⟨Try.func148, by kernel_rfl, by kernel_rfl⟩
theorem fn149 : FnOK Try.prog 149 Try.f149 := ⟨Try.func149, by kernel_rfl, by kernel_rfl⟩
end Rx.S
namespace Rx.S
open Go Rx
set_option maxRecDepth 100000
set_option linter.unusedVariables false
def t_133 (al : List A) : Bool × List A := (true, [.i (Day.clampR (gi al 0) (gi al 1) (gi al 2))])
def t_143 (al : List A) : Bool × List A := (Day.sm (gi al 1), [.i (Day.upR (gi al 0) (gi al 1))])
def t_142 (al : List A) : Bool × List A := (Day.i64 (gi al 0), [.i (Day.downR (gi al 0))])
def t_134 (al : List A) : Bool × List A := (true, [.i (Day.clampR (gi al 0) (gi al 1) (gi al 2))])
def t_148 (al : List A) : Bool × List A := (Day.sm (gi al 1), [.i (Day.upR (gi al 0) (gi al 1))])
def t_149 (al : List A) : Bool × List A := (Day.i64 (gi al 0), [.i (Day.downR (gi al 0))])
def t_33 (al : List A) : Bool × List A := (Day.modP (gi al 0) && Day.i64 (gi al 1), [.i (Day.modR (gi al 0) (gi al 1))])
def t_35 (al : List A) : Bool × List A := (Day.slotP (gi al 0) (gi al 1), [.i (Day.nextR (gi al 0) (gi al 1))])
def t_37 (al : List A) : Bool × List A := (Day.atP (gi al 0) (gi al 1) (gi al 2), [.i (Day.atR (gi al 0) (gi al 1) (gi al 2))])
def t_39 (al : List A) : Bool × List A := (Day.aheadP (gi al 0) (gi al 1) (gi al 2), [.i (Day.aheadR (gi al 0) (gi al 1) (gi al 2))])
def t_34 (al : List A) : Bool × List A := (Day.modP (gi al 0) && Day.i64 (gi al 1), [.i (Day.modR (gi al 0) (gi al 1))])
def t_36 (al : List A) : Bool × List A := (Day.slotP (gi al 0) (gi al 1), [.i (Day.nextR (gi al 0) (gi al 1))])
def t_38 (al : List A) : Bool × List A := (Day.atP (gi al 0) (gi al 1) (gi al 2), [.i (Day.atR (gi al 0) (gi al 1) (gi al 2))])
def t_40 (al : List A) : Bool × List A := (Day.aheadP (gi al 0) (gi al 1) (gi al 2), [.i (Day.aheadR (gi al 0) (gi al 1) (gi al 2))])
def t_50 (al : List A) : Bool × List A := (true, [.b (Day.right (gi al 0))])
def t_51 (al : List A) : Bool × List A := (true, [.b (Day.right (gi al 0))])
def t_130 (al : List A) : Bool × List A := (Day.timeP (gs al 0), [.i (Day.times (Day.kOf (gs al 0)) (gi al 1))])
def t_132 (al : List A) : Bool × List A := (Day.u8 (gi al 1), [.i (Day.times (gi al 1) (gi al 0))])
def t_44 (al : List A) : Bool × List A := (true, [.i (Day.times 2 (gi al 0))])
def t_52 (al : List A) : Bool × List A := (true, [.i (Day.times 2 (gi al 0))])
def t_45 (al : List A) : Bool × List A := (true, [.i (Day.times 8 (gi al 0))])
def t_53 (al : List A) : Bool × List A := (true, [.i (Day.times 8 (gi al 0))])
def t_54 (al : List A) : Bool × List A := (true, [.i (Day.times 3 (gi al 0))])
def t_55 (al : List A) : Bool × List A := (true, [.i (Day.times 3 (gi al 0))])
def t_46 (al : List A) : Bool × List A := (true, [.i (Day.times 40 (gi al 0))])
def t_56 (al : List A) : Bool × List A := (true, [.i (Day.times 40 (gi al 0))])
def t_47 (al : List A) : Bool × List A := (true, [.i (Day.times 96 (gi al 0))])
def t_57 (al : List A) : Bool × List A := (true, [.i (Day.times 96 (gi al 0))])
def t_129 (al : List A) : Bool × List A := (Day.timeP (gs al 0), [.i (Day.ownR (Day.kOf (gs al 0)) (gi al 1) (gi al 2)), .i (Day.ownE (gi al 1) (gi al 2))])
def t_131 (al : List A) : Bool × List A := (Day.u8 (gi al 2), [.i (Day.ownR (gi al 2) (gi al 0) (gi al 1)), .i (Day.ownE (gi al 0) (gi al 1))])
def t_41 (al : List A) : Bool × List A := (true, [.i (Day.ownR 4 (gi al 0) (gi al 1)), .i (Day.ownE (gi al 0) (gi al 1))])
def t_48 (al : List A) : Bool × List A := (true, [.i (Day.ownR 4 (gi al 0) (gi al 1)), .i (Day.ownE (gi al 0) (gi al 1))])
def t_42 (al : List A) : Bool × List A := (true, [.i (Day.ownR 2 (gi al 0) (gi al 1)), .i (Day.ownE (gi al 0) (gi al 1))])
def t_49 (al : List A) : Bool × List A := (true, [.i (Day.ownR 2 (gi al 0) (gi al 1)), .i (Day.ownE (gi al 0) (gi al 1))])
def t_58 (al : List A) : Bool × List A := (true, [.i (((Day.freshN (gi al 0) (gi al 1))).id), .i (((Day.freshN (gi al 0) (gi al 1))).mode), .i (((Day.freshN (gi al 0) (gi al 1))).count), .i (((Day.freshN (gi al 0) (gi al 1))).pos), .i (Day.idE (gi al 0) (gi al 1))])
def t_63 (al : List A) : Bool × List A := (Day.ND.i64 (Day.ND.mk (gi al 1) (gi al 2) (gi al 3) (gi al 4)), [.b (Day.rightN (gi al 0) (Day.ND.mk (gi al 1) (gi al 2) (gi al 3) (gi al 4)))])
def t_60 (al : List A) : Bool × List A := (Day.ND.i64 (Day.ND.mk (gi al 2) (gi al 3) (gi al 4) (gi al 5)), [.i (((Day.cleanN (gi al 0) (gi al 1) (Day.ND.mk (gi al 2) (gi al 3) (gi al 4) (gi al 5)))).id), .i (((Day.cleanN (gi al 0) (gi al 1) (Day.ND.mk (gi al 2) (gi al 3) (gi al 4) (gi al 5)))).mode), .i (((Day.cleanN (gi al 0) (gi al 1) (Day.ND.mk (gi al 2) (gi al 3) (gi al 4) (gi al 5)))).count), .i (((Day.cleanN (gi al 0) (gi al 1) (Day.ND.mk (gi al 2) (gi al 3) (gi al 4) (gi al 5)))).pos), .i (Day.idE (gi al 0) (gi al 1))])
def t_65 (al : List A) : Bool × List A := (true, [.i (((Day.wakeN (Day.ND.mk (gi al 0) (gi al 1) (gi al 2) (gi al 3)))).id), .i (((Day.wakeN (Day.ND.mk (gi al 0) (gi al 1) (gi al 2) (gi al 3)))).mode), .i (((Day.wakeN (Day.ND.mk (gi al 0) (gi al 1) (gi al 2) (gi al 3)))).count), .i (((Day.wakeN (Day.ND.mk (gi al 0) (gi al 1) (gi al 2) (gi al 3)))).pos)])
def t_59 (al : List A) : Bool × List A := (true, [.i (((Day.freshN (gi al 0) (gi al 1))).id), .i (((Day.freshN (gi al 0) (gi al 1))).mode), .i (((Day.freshN (gi al 0) (gi al 1))).count), .i (((Day.freshN (gi al 0) (gi al 1))).pos), .i (Day.idE (gi al 0) (gi al 1))])
def t_64 (al : List A) : Bool × List A := (Day.ND.i64 (Day.ND.mk (gi al 1) (gi al 2) (gi al 3) (gi al 4)), [.b (Day.rightN (gi al 0) (Day.ND.mk (gi al 1) (gi al 2) (gi al 3) (gi al 4)))])
def t_61 (al : List A) : Bool × List A := (Day.ND.i64 (Day.ND.mk (gi al 2) (gi al 3) (gi al 4) (gi al 5)), [.i (((Day.cleanN (gi al 0) (gi al 1) (Day.ND.mk (gi al 2) (gi al 3) (gi al 4) (gi al 5)))).id), .i (((Day.cleanN (gi al 0) (gi al 1) (Day.ND.mk (gi al 2) (gi al 3) (gi al 4) (gi al 5)))).mode), .i (((Day.cleanN (gi al 0) (gi al 1) (Day.ND.mk (gi al 2) (gi al 3) (gi al 4) (gi al 5)))).count), .i (((Day.cleanN (gi al 0) (gi al 1) (Day.ND.mk (gi al 2) (gi al 3) (gi al 4) (gi al 5)))).pos), .i (Day.idE (gi al 0) (gi al 1))])
def t_66 (al : List A) : Bool × List A := (true, [.i (((Day.wakeN (Day.ND.mk (gi al 0) (gi al 1) (gi al 2) (gi al 3)))).id), .i (((Day.wakeN (Day.ND.mk (gi al 0) (gi al 1) (gi al 2) (gi al 3)))).mode), .i (((Day.wakeN (Day.ND.mk (gi al 0) (gi al 1) (gi al 2) (gi al 3)))).count), .i (((Day.wakeN (Day.ND.mk (gi al 0) (gi al 1) (gi al 2) (gi al 3)))).pos)])
def t_140 (al : List A) : Bool × List A := (true, [.i (Day.waitR (gi al 0) (Day.ND.mk (gi al 1) (gi al 2) (gi al 3) (gi al 4)))])
def t_87 (al : List A) : Bool × List A := (Day.ND.i64 (Day.ND.mk (gi al 1) (gi al 2) (gi al 3) (gi al 4)), [.i (Day.dueR (gi al 0) (Day.ND.mk (gi al 1) (gi al 2) (gi al 3) (gi al 4)))])
def t_84 (al : List A) : Bool × List A := (Day.ND.i64 (Day.ND.mk (gi al 1) (gi al 2) (gi al 3) (gi al 4)), [.i (((Day.ofR (gi al 0) (Day.ND.mk (gi al 1) (gi al 2) (gi al 3) (gi al 4)))).kind), .i (((Day.ofR (gi al 0) (Day.ND.mk (gi al 1) (gi al 2) (gi al 3) (gi al 4)))).id), .i (Day.ofE (gi al 0) (Day.ND.mk (gi al 1) (gi al 2) (gi al 3) (gi al 4)))])
def t_88 (al : List A) : Bool × List A := (Day.ND.i64 (Day.ND.mk (gi al 1) (gi al 2) (gi al 3) (gi al 4)), [.i (Day.dueR (gi al 0) (Day.ND.mk (gi al 1) (gi al 2) (gi al 3) (gi al 4)))])
def t_85 (al : List A) : Bool × List A := (Day.ND.i64 (Day.ND.mk (gi al 1) (gi al 2) (gi al 3) (gi al 4)), [.i (((Day.ofR (gi al 0) (Day.ND.mk (gi al 1) (gi al 2) (gi al 3) (gi al 4)))).kind), .i (((Day.ofR (gi al 0) (Day.ND.mk (gi al 1) (gi al 2) (gi al 3) (gi al 4)))).id), .i (Day.ofE (gi al 0) (Day.ND.mk (gi al 1) (gi al 2) (gi al 3) (gi al 4)))])
def t_32 (al : List A) : Bool × List A := (true, [.b (true)])
def t_43 (al : List A) : Bool × List A := (true, [.b (true)])
def t_62 (al : List A) : Bool × List A := (true, [.b (true)])
def t_86 (al : List A) : Bool × List A := (true, [.b (true)])
def t_3 (al : List A) : Bool × List A := (Day.u8 (gi al 0) && Day.i64 (gi al 1) && Day.u8 (gi al 2) && Day.u8 (gi al 3) && Day.u32 (gi al 4), [.b (true)])
def t_4 (al : List A) : Bool × List A := (Day.u8 (gi al 0) && Day.u8 (gi al 1) && Day.u8 (gi al 2) && Day.u16 (gi al 3), [.b (true)])
def t_6 (al : List A) : Bool × List A := (Day.i64 (gi al 0) && Day.i64 (gi al 1), [.b (true)])
def t_5 (al : List A) : Bool × List A := (Day.u8 (gi al 0) && Day.u8 (gi al 1) && Day.u8 (gi al 2), [.b (true)])
def t_7 (al : List A) : Bool × List A := (Day.i64 (gi al 0) && Day.i64 (gi al 1) && Day.ND.i64 (Day.ND.mk (gi al 2) (gi al 3) (gi al 4) (gi al 5)), [.b (true)])
def t_8 (al : List A) : Bool × List A := (Day.u8 (gi al 0) && Day.u8 (gi al 1) && Day.ND.i64 (Day.ND.mk (gi al 2) (gi al 3) (gi al 4) (gi al 5)), [.b (true)])
def t_11 (al : List A) : Bool × List A := (Day.i64 (gi al 0) && Day.ND.i64 (Day.ND.mk (gi al 1) (gi al 2) (gi al 3) (gi al 4)), [.b (true)])
def t_12 (al : List A) : Bool × List A := (Day.u8 (gi al 0) && Day.ND.i64 (Day.ND.mk (gi al 1) (gi al 2) (gi al 3) (gi al 4)), [.b (true)])
def t_13 (al : List A) : Bool × List A := (Day.u8 (gi al 0) && Day.ND.i64 (Day.ND.mk (gi al 1) (gi al 2) (gi al 3) (gi al 4)), [.b (true)])
def table : List (Nat × (List A → Bool × List A)) := [(133, t_133), (143, t_143), (142, t_142), (134, t_134), (148, t_148), (149, t_149), (33, t_33), (35, t_35), (37, t_37), (39, t_39), (34, t_34), (36, t_36), (38, t_38), (40, t_40), (50, t_50), (51, t_51), (130, t_130), (132, t_132), (44, t_44), (52, t_52), (45, t_45), (53, t_53), (54, t_54), (55, t_55), (46, t_46), (56, t_56), (47, t_47), (57, t_57), (129, t_129), (131, t_131), (41, t_41), (48, t_48), (42, t_42), (49, t_49), (58, t_58), (63, t_63), (60, t_60), (65, t_65), (59, t_59), (64, t_64), (61, t_61), (66, t_66), (140, t_140), (87, t_87), (84, t_84), (88, t_88), (85, t_85), (32, t_32), (43, t_43), (62, t_62), (86, t_86), (3, t_3), (4, t_4), (6, t_6), (5, t_5), (7, t_7), (8, t_8), (11, t_11), (12, t_12), (13, t_13)]
def T : Nat → List A → Bool × List A := tab table
theorem T_133 : T 133 = t_133 := rfl
theorem T_143 : T 143 = t_143 := rfl
theorem T_142 : T 142 = t_142 := rfl
theorem T_134 : T 134 = t_134 := rfl
theorem T_148 : T 148 = t_148 := rfl
theorem T_149 : T 149 = t_149 := rfl
theorem T_33 : T 33 = t_33 := rfl
theorem T_35 : T 35 = t_35 := rfl
theorem T_37 : T 37 = t_37 := rfl
theorem T_39 : T 39 = t_39 := rfl
theorem T_34 : T 34 = t_34 := rfl
theorem T_36 : T 36 = t_36 := rfl
theorem T_38 : T 38 = t_38 := rfl
theorem T_40 : T 40 = t_40 := rfl
theorem T_50 : T 50 = t_50 := rfl
theorem T_51 : T 51 = t_51 := rfl
theorem T_130 : T 130 = t_130 := rfl
theorem T_132 : T 132 = t_132 := rfl
theorem T_44 : T 44 = t_44 := rfl
theorem T_52 : T 52 = t_52 := rfl
theorem T_45 : T 45 = t_45 := rfl
theorem T_53 : T 53 = t_53 := rfl
theorem T_54 : T 54 = t_54 := rfl
theorem T_55 : T 55 = t_55 := rfl
theorem T_46 : T 46 = t_46 := rfl
theorem T_56 : T 56 = t_56 := rfl
theorem T_47 : T 47 = t_47 := rfl
theorem T_57 : T 57 = t_57 := rfl
theorem T_129 : T 129 = t_129 := rfl
theorem T_131 : T 131 = t_131 := rfl
theorem T_41 : T 41 = t_41 := rfl
theorem T_48 : T 48 = t_48 := rfl
theorem T_42 : T 42 = t_42 := rfl
theorem T_49 : T 49 = t_49 := rfl
theorem T_58 : T 58 = t_58 := rfl
theorem T_63 : T 63 = t_63 := rfl
theorem T_60 : T 60 = t_60 := rfl
theorem T_65 : T 65 = t_65 := rfl
theorem T_59 : T 59 = t_59 := rfl
theorem T_64 : T 64 = t_64 := rfl
theorem T_61 : T 61 = t_61 := rfl
theorem T_66 : T 66 = t_66 := rfl
theorem T_140 : T 140 = t_140 := rfl
theorem T_87 : T 87 = t_87 := rfl
theorem T_84 : T 84 = t_84 := rfl
theorem T_88 : T 88 = t_88 := rfl
theorem T_85 : T 85 = t_85 := rfl
theorem T_32 : T 32 = t_32 := rfl
theorem T_43 : T 43 = t_43 := rfl
theorem T_62 : T 62 = t_62 := rfl
theorem T_86 : T 86 = t_86 := rfl
theorem T_3 : T 3 = t_3 := rfl
theorem T_4 : T 4 = t_4 := rfl
theorem T_6 : T 6 = t_6 := rfl
theorem T_5 : T 5 = t_5 := rfl
theorem T_7 : T 7 = t_7 := rfl
theorem T_8 : T 8 = t_8 := rfl
theorem T_11 : T 11 = t_11 := rfl
theorem T_12 : T 12 = t_12 := rfl
theorem T_13 : T 13 = t_13 := rfl
def ws : List (Nat × Nat) := [(133, 2), (143, 2), (142, 2), (134, 2), (148, 2), (149, 2), (33, 2), (35, 2), (37, 2), (39, 2), (34, 2), (36, 2), (38, 2), (40, 2), (50, 2), (51, 2), (130, 2), (132, 2), (44, 2), (52, 2), (45, 2), (53, 2), (54, 2), (55, 2), (46, 2), (56, 2), (47, 2), (57, 2), (129, 3), (131, 3), (41, 3), (48, 3), (42, 3), (49, 3), (58, 6), (63, 2), (60, 6), (65, 5), (59, 6), (64, 2), (61, 6), (66, 5), (140, 2), (87, 2), (84, 4), (88, 2), (85, 4), (32, 2), (43, 2), (62, 2), (86, 2), (3, 2), (4, 2), (6, 2), (5, 2), (7, 2), (8, 2), (11, 2), (12, 2), (13, 2)]
theorem widths : WidthOK T ws := fun f k h al => by
  have := look_mem h
  simp only [ws, List.mem_cons, List.not_mem_nil, or_false, Prod.mk.injEq] at this
  rcases this with ⟨rfl, rfl⟩ | ⟨rfl, rfl⟩ | ⟨rfl, rfl⟩ | ⟨rfl, rfl⟩ | ⟨rfl, rfl⟩ | ⟨rfl, rfl⟩ | ⟨rfl, rfl⟩ | ⟨rfl, rfl⟩ | ⟨rfl, rfl⟩ | ⟨rfl, rfl⟩ | ⟨rfl, rfl⟩ | ⟨rfl, rfl⟩ | ⟨rfl, rfl⟩ | ⟨rfl, rfl⟩ | ⟨rfl, rfl⟩ | ⟨rfl, rfl⟩ | ⟨rfl, rfl⟩ | ⟨rfl, rfl⟩ | ⟨rfl, rfl⟩ | ⟨rfl, rfl⟩ | ⟨rfl, rfl⟩ | ⟨rfl, rfl⟩ | ⟨rfl, rfl⟩ | ⟨rfl, rfl⟩ | ⟨rfl, rfl⟩ | ⟨rfl, rfl⟩ | ⟨rfl, rfl⟩ | ⟨rfl, rfl⟩ | ⟨rfl, rfl⟩ | ⟨rfl, rfl⟩ | ⟨rfl, rfl⟩ | ⟨rfl, rfl⟩ | ⟨rfl, rfl⟩ | ⟨rfl, rfl⟩ | ⟨rfl, rfl⟩ | ⟨rfl, rfl⟩ | ⟨rfl, rfl⟩ | ⟨rfl, rfl⟩ | ⟨rfl, rfl⟩ | ⟨rfl, rfl⟩ | ⟨rfl, rfl⟩ | ⟨rfl, rfl⟩ | ⟨rfl, rfl⟩ | ⟨rfl, rfl⟩ | ⟨rfl, rfl⟩ | ⟨rfl, rfl⟩ | ⟨rfl, rfl⟩ | ⟨rfl, rfl⟩ | ⟨rfl, rfl⟩ | ⟨rfl, rfl⟩ | ⟨rfl, rfl⟩ | ⟨rfl, rfl⟩ | ⟨rfl, rfl⟩ | ⟨rfl, rfl⟩ | ⟨rfl, rfl⟩ | ⟨rfl, rfl⟩ | ⟨rfl, rfl⟩ | ⟨rfl, rfl⟩ | ⟨rfl, rfl⟩ | ⟨rfl, rfl⟩
  · rw [T_133]; exact Nat.le_refl _
  · rw [T_143]; exact Nat.le_refl _
  · rw [T_142]; exact Nat.le_refl _
  · rw [T_134]; exact Nat.le_refl _
  · rw [T_148]; exact Nat.le_refl _
  · rw [T_149]; exact Nat.le_refl _
  · rw [T_33]; exact Nat.le_refl _
  · rw [T_35]; exact Nat.le_refl _
  · rw [T_37]; exact Nat.le_refl _
  · rw [T_39]; exact Nat.le_refl _
  · rw [T_34]; exact Nat.le_refl _
  · rw [T_36]; exact Nat.le_refl _
  · rw [T_38]; exact Nat.le_refl _
  · rw [T_40]; exact Nat.le_refl _
  · rw [T_50]; exact Nat.le_refl _
  · rw [T_51]; exact Nat.le_refl _
  · rw [T_130]; exact Nat.le_refl _
  · rw [T_132]; exact Nat.le_refl _
  · rw [T_44]; exact Nat.le_refl _
  · rw [T_52]; exact Nat.le_refl _
  · rw [T_45]; exact Nat.le_refl _
  · rw [T_53]; exact Nat.le_refl _
  · rw [T_54]; exact Nat.le_refl _
  · rw [T_55]; exact Nat.le_refl _
  · rw [T_46]; exact Nat.le_refl _
  · rw [T_56]; exact Nat.le_refl _
  · rw [T_47]; exact Nat.le_refl _
  · rw [T_57]; exact Nat.le_refl _
  · rw [T_129]; exact Nat.le_refl _
  · rw [T_131]; exact Nat.le_refl _
  · rw [T_41]; exact Nat.le_refl _
  · rw [T_48]; exact Nat.le_refl _
  · rw [T_42]; exact Nat.le_refl _
  · rw [T_49]; exact Nat.le_refl _
  · rw [T_58]; exact Nat.le_refl _
  · rw [T_63]; exact Nat.le_refl _
  · rw [T_60]; exact Nat.le_refl _
  · rw [T_65]; exact Nat.le_refl _
  · rw [T_59]; exact Nat.le_refl _
  · rw [T_64]; exact Nat.le_refl _
  · rw [T_61]; exact Nat.le_refl _
  · rw [T_66]; exact Nat.le_refl _
  · rw [T_140]; exact Nat.le_refl _
  · rw [T_87]; exact Nat.le_refl _
  · rw [T_84]; exact Nat.le_refl _
  · rw [T_88]; exact Nat.le_refl _
  · rw [T_85]; exact Nat.le_refl _
  · rw [T_32]; exact Nat.le_refl _
  · rw [T_43]; exact Nat.le_refl _
  · rw [T_62]; exact Nat.le_refl _
  · rw [T_86]; exact Nat.le_refl _
  · rw [T_3]; exact Nat.le_refl _
  · rw [T_4]; exact Nat.le_refl _
  · rw [T_6]; exact Nat.le_refl _
  · rw [T_5]; exact Nat.le_refl _
  · rw [T_7]; exact Nat.le_refl _
  · rw [T_8]; exact Nat.le_refl _
  · rw [T_11]; exact Nat.le_refl _
  · rw [T_12]; exact Nat.le_refl _
  · rw [T_13]; exact Nat.le_refl _
end Rx.S
