import Derived.Test.YtngghkhjejkelaaWXc
import Derived.WalkKit
import Derived.Maps.Own
set_option linter.unusedVariables false
set_option linter.unusedSimpArgs false
namespace Rx
open Go Go.RowKit
section
variable {P : Program}
theorem Gb (w : World) (o : Obj) : (w.alloc o).heap[w.heap.size]? = some o := by
 show (w.heap.push o)[w.heap.size]? = some o
 simp
theorem T8 (w : World) (o o' : Obj) : ({ w.alloc o with heap := (w.alloc o).heap.setIfInBounds w.heap.size o' } : World) = w.alloc o' := by
 show ({ w with heap := (w.heap.push o).setIfInBounds w.heap.size o' } : World) = { w with heap := w.heap.push o' }
 congr 1
 apply Array.ext'
 simp
theorem AM (w : World) {t k e : TypeId} (ht : P.underlying t = some (.map k e)) (es : Array MapEntry) (c : Nat) (key val : Value) {kd : TypeDesc} (hk : P.underlying k = some kd) (hi : MapKept.IsKey kd key)
  (hf : Instr.findNow kd key es.toList 0 = some none) :
  (Instr.mapUpdate t (.map (some w.heap.size)) key val).run P (w.alloc (.map es c)) = .ok () (w.alloc (.map (es.push { key, val, born := c }) (c + 1))) := by
 have hb := Gb w (.map es c)
 simp [Instr.mapUpdate, run_underlying ht, MapKept.run_getObj_map hb, MapKept.run_checkKey hk hi, MapKept.run_findKey hk hf, MapKept.run_setObj_map _ hb, Result.andThen]
 exact T8 w _ _
theorem Hc (w : World) {t k e : TypeId} (ht : P.underlying t = some (.map k e)) {b : Nat} {es : Array MapEntry} {c : Nat} (hb : w.heap[b]? = some (.map es c)) (key : Value) {kd : TypeDesc} (hk : P.underlying k = some kd)
  (hi : MapKept.IsKey kd key) {i : Nat} {v : Value} (hf : Instr.findNow kd key es.toList 0 = some (some (i, v))) (ok : Bool) :
  (Instr.lookup t (.map (some b)) key ok).run P w = .ok (if ok then .tuple #[v, .bool true] else v) w := by
 simp [Instr.lookup, run_underlying ht, MapKept.run_getObj_map hb, MapKept.run_checkKey hk hi, MapKept.run_findKey hk hf, Result.andThen]
theorem Li (w : World) {t k e : TypeId} (ht : P.underlying t = some (.map k e)) {b : Nat} {es : Array MapEntry} {c : Nat} (hb : w.heap[b]? = some (.map es c)) (key : Value) {kd : TypeDesc} (hk : P.underlying k = some kd)
  (hi : MapKept.IsKey kd key) (hf : Instr.findNow kd key es.toList 0 = some none) {z : Value} (hz : (zeroValue e).run P w = .ok z w) (ok : Bool) :
  (Instr.lookup t (.map (some b)) key ok).run P w = .ok (if ok then .tuple #[z, .bool false] else z) w := by
 simp [Instr.lookup, run_underlying ht, MapKept.run_getObj_map hb, MapKept.run_checkKey hk hi, MapKept.run_findKey hk hf, Result.andThen, hz]
end
end Rx
