import Derived.Test.YtjipnabidebgbaaXc
import Derived.Test.YtjipnabidebgbaaXd
import Derived.Carry
set_option linter.unusedVariables false
set_option linter.unusedSimpArgs false
namespace Rx
open Go Go.RowKit
section
variable {H : Type} {enc : TypeId × Value → H} {P : Program} {w : World} {base : Nat} {spare : Nat → Bool} {held : Bool} {a : A}
theorem leaf_i64 (h : LeafOK enc P w base spare held (.s (.int .i64)) a) : Day.i64 a.int = true := by
  have h : IntKind.i64.min ≤ a.int ∧ a.int ≤ IntKind.i64.max := h
  have h1 : IntKind.i64.min = -9223372036854775808 := rfl
  have h2 : IntKind.i64.max = 9223372036854775807 := rfl
  rw [h1, h2] at h
  simp [Day.i64, h]
theorem leaf_u8 (h : LeafOK enc P w base spare held (.s (.int .u8)) a) : Day.u8 a.int = true := by
  have h : IntKind.u8.min ≤ a.int ∧ a.int ≤ IntKind.u8.max := h
  have h1 : IntKind.u8.min = 0 := rfl
  have h2 : IntKind.u8.max = 255 := rfl
  rw [h1, h2] at h
  simp [Day.u8, h]
theorem leaf_u16 (h : LeafOK enc P w base spare held (.s (.int .u16)) a) : Day.u16 a.int = true := by
  have h : IntKind.u16.min ≤ a.int ∧ a.int ≤ IntKind.u16.max := h
  have h1 : IntKind.u16.min = 0 := rfl
  have h2 : IntKind.u16.max = 65535 := rfl
  rw [h1, h2] at h
  simp [Day.u16, h]
theorem leaf_u32 (h : LeafOK enc P w base spare held (.s (.int .u32)) a) : Day.u32 a.int = true := by
  have h : IntKind.u32.min ≤ a.int ∧ a.int ≤ IntKind.u32.max := h
  have h1 : IntKind.u32.min = 0 := rfl
  have h2 : IntKind.u32.max = 4294967295 := rfl
  rw [h1, h2] at h
  simp [Day.u32, h]
theorem agree_none : ∀ as : List A, Agree (List.replicate as.length none) as := fun as =>
  ⟨by simp, fun j x hx a _ => by simp [List.getElem?_replicate] at hx⟩
theorem law_calls {T : Nat → List A → Bool × List A} {c : Ctr} (h : CtrOK P T c) (hok : ∀ n, c.ok (List.replicate n none) = true) (hrs : c.rs = [(false, [.bool])]) {vs : List Value} {as : List A} {w : World}
    (ha : ArgsRel w.cell? c.ps vs as) (hp : (T c.f as).1 = true) (ht : (T c.f as).2 = [.b true]) :
    Calls P c.f vs.toArray w fun e w' => e = .returned (.bool true) ∧ Below w.heap.size w w' := by
  refine (h _ as vs w (hok as.length) (agree_none as) ha hp).mono ?_
  rintro e w' ⟨u, rfl, hu, hb⟩
  refine ⟨?_, hb⟩
  rw [ht, hrs] at hu
  obtain ⟨us, ⟨v, vr, a1, a2, rfl, he, h1, h2⟩, rfl⟩ := hu
  obtain ⟨rfl, rfl⟩ := h2
  rw [List.append_nil] at he
  subst he
  have h3 := h1.2
  rw [if_neg (by simp)] at h3
  obtain ⟨s, x, q1, q2, rfl⟩ := h3
  simp only [List.cons.injEq, and_true] at q1 q2
  subst q1
  subst q2
  rfl
end
end Rx
namespace Rx
open Go
theorem acc_step {b : Bool} {x y z : Int} (hx : 0 ≤ x ∧ x ≤ 1000) (hy : y = IntKind.wrap .i64 (x + 1)) (hz : z = if b then y else x) : z = x + Day.bv b := by
  rw [wrap64 (by omega) (by omega)] at hy
  subst hy hz
  cases b <;> simp [Day.bv]
end Rx
namespace Rx
open Go Day
theorem st1 {w0 : Bool} {a n S i l x w wi m : Int} (h0 : w0 = decide (a < n)) (he : S = i → x = l) (hl : 0 ≤ l ∧ l ≤ 1000) (hw : w = IntKind.wrap .i64 (x + 1)) (hwi : wi = if S = i then w else l)
    (hm : m = if w0 then wi else l) : m = l + bv (decide (a < n) && decide (S = i)) := by
  by_cases hs : S = i
  · have hx := he hs
    rw [if_pos hs, hw, hx, wrap64 (by omega) (by omega)] at hwi
    rw [hm, hwi, h0]
    by_cases ha : a < n <;> simp [ha, hs, bv]
  · rw [if_neg hs] at hwi
    rw [hm, hwi]
    simp [hs, bv]
theorem st2 {w41 w45 : Bool} {T i m y w wi k o : Int} (hf : T = i → y = m) (hm : 0 ≤ m ∧ m ≤ 2000) (hw : w = IntKind.wrap .i64 (y + 1)) (hwi : wi = if T = i then w else m) (hk : k = if w45 then wi else m)
    (ho : o = if w41 then k else m) : o = m + bv (w41 && w45 && decide (T = i)) := by
  by_cases hs : T = i
  · have hx := hf hs
    rw [if_pos hs, hw, hx, wrap64 (by omega) (by omega)] at hwi
    rw [ho, hk, hwi]
    cases w41 <;> cases w45 <;> simp [hs, bv]
  · rw [if_neg hs] at hwi
    rw [ho, hk, hwi]
    simp [hs, bv]
theorem st3 {n a port age p i S T w20 : Int} {w0 w41 w45 : Bool} (h0 : w0 = decide (a < n)) (hS : S = (p + a) % n) (hT : T = (p + age) % n) (hT0 : 0 ≤ T) (h20 : w20 = if w0 then S else -1) (h45 : w45 = (T != w20))
    (h41 : w41 = (decide (p = port) && decide (age < 2 * n))) : bv (decide (a < n) && decide (S = i)) + bv (w41 && w45 && decide (T = i)) = bv (vB n a port age p i) := by
  have e : vB n a port age p i = ((decide (a < n) && decide (S = i)) || (w41 && decide (T = i))) := by rw [vB, h41, hS, hT]
  rw [e, h45, h20, h0]
  generalize w41 = c
  by_cases ha : a < n
  · by_cases hs : S = i
    · by_cases ht : T = i
      · have : T = S := by rw [hs, ht]
        subst hs
        cases c <;> simp [ha, bv, this]
      · simp [ha, hs, ht, bv]
    · by_cases ht : T = i
      · have : T ≠ S := by intro h; exact hs (by rw [← h, ht])
        cases c <;> simp [ha, hs, ht, bv]
        intro h
        exact absurd h.symm hs
      · simp [hs, ht, bv]
  · by_cases ht : T = i
    · have : T ≠ -1 := by omega
      cases c <;> simp [ha, ht, bv]
      omega
    · simp [ha, ht, bv]
end Rx
