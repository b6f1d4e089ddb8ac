import Derived.Test.YtkdhdjcngafocaaQXe
import Derived.Test.YtkdhdjcngafocaaQXg
import Derived.Test.YtkdhdjcngafocaaQXt
import Derived.Shelf.Lay
import Derived.Shelf.Sort.Plain
import Derived.Sort.OwnSortedInts
import Derived.Ground.Names2Prog
set_option linter.unusedVariables false
set_option linter.unusedSimpArgs false
namespace Go.Proofs
open Go.Shelf
shelf_lay Lays.n189 Nm 189 at Try as Try.lays189
end Go.Proofs
namespace Rx.S
open Go Rx Go.Proofs Go.Sort
set_option maxRecDepth 100000
def EU : T8 := { f := 20, ss := [.int .i64] }
theorem Qk {vs spare : List Value} {ts : List Int} (hl : ts.length = vs.length) : putCells (Value.int .i64) 0 ts.toArray (vs ++ spare).toArray = (ts.map (Value.int .i64) ++ spare).toArray := by
 apply Array.ext_getElem?
 intro j
 simp only [putCells, Array.getElem?_mapIdx, List.getElem?_toArray]
 by_cases hj : j < vs.length
 ·rw [List.getElem?_append_left hj, List.getElem?_append_left (by simp; omega), List.getElem?_map, List.getElem?_eq_getElem hj, List.getElem?_eq_getElem (show j < ts.length by omega)]
  simp [show j < ts.length by omega]
 ·rw [List.getElem?_append_right (by omega), List.getElem?_append_right (by simp; omega), List.length_map, hl]
  cases spare[j - vs.length]? with
  | none => rfl
  | some v => simp [show ¬ j < ts.length by omega]
theorem Ga : QP Try.prog T EU := by
 intro al k c blk cap spare t w hk hlen hc hpre hb hcap
 have hc' : c = (al.map A.int).length := by
  have : al.length = c * 1 := hlen
  rw [List.length_map]
  omega
 have hsem : Ch [.int .i64] al = (al.map A.int).map (Value.int .i64) := by rw [Gz, List.map_map]; rfl
 have hb : w.heap[blk]? = some (.cells ((al.map A.int).map (Value.int .i64) ++ spare).toArray t (0, 0)) := by rw [← hsem]; exact hb
 have hok : Day.L1.ok ⟨.l al, k.int⟩ = true := by
  have : (T 20 [.l al, k]).1 = true := hpre
  rw [Tn] at this
  exact this
 have hsz : (al.map A.int).length < 4611686018427387904 := by
  obtain ⟨h1, h2⟩ := Day.L1.Dw.1 hok
  have h1 : (al.length : Int) = k.int := h1
  have h2 : k.int ≤ 1000 := h2
  rw [List.length_map]
  omega
 have hH : Go.Sort.Holds (Value.int .i64) w blk 0 (al.map A.int).toArray := holds_of_blockI hb (by rw [List.take_append_of_le_length (by simp), List.take_of_length_le (by simp)])
 have hlt := DD hb
 rw [hc']
 refine (Any.slices_Sort_int Try.lays189 blk 0 cap (al.map A.int) w hH hlt hsz).mono ?_
 rintro e w' ⟨rfl, n, os, rfl⟩
 have hml : ((al.map A.int).mergeSort fun x y => decide (x ≤ y)).length = al.length := by rw [List.length_mergeSort, List.length_map]
 refine ⟨rfl, ((al.map A.int).mergeSort fun x y => decide (x ≤ y)).map .i, ?_, by rw [List.length_map, hml], ?_⟩
 ·show (T 20 [.l al, k]).2 = _
  rw [Tn]
  rfl
 ·have hsem' : Ch [.int .i64] (((al.map A.int).mergeSort fun x y => decide (x ≤ y)).map .i) = ((al.map A.int).mergeSort fun x y => decide (x ≤ y)).map (Value.int .i64) := by rw [Gz, List.map_map]; rfl
  show Go.RowKit.Below w.heap.size (w.setRow blk (Ch [.int .i64] _ ++ spare).toArray) _
  rw [hsem']
  have hg := grownBy_sortedI (w := w) (g := blk) (n := n) (os := os) ((al.map A.int).mergeSort fun x y => decide (x ≤ y)).toArray
  obtain ⟨g1, g2, g3, g4, g5⟩ := hg
  refine ⟨g1, g2, g3, by rw [setRow_size]; exact g4, fun i hi => ?_⟩
  by_cases hib : i = blk
  ·subst hib
   rw [heap_sortedI _ hb, setRow_heap w _ _ _ _ _ hb, Qk (by rw [hml]; simp)]
  ·rw [setRow_other w _ _ _ hib]
   exact g5 i hi (fun h => hib (by injection h))
end Rx.S
