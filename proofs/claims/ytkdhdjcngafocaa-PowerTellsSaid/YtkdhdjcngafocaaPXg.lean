import Derived.Test.YtkdhdjcngafocaaPXc
import Derived.Test.YtkdhdjcngafocaaPXf
set_option linter.unusedVariables false
set_option linter.unusedSimpArgs false
namespace Rx
open Go Go.RowKit
def XK : List Ak → List A → Prop
 | [], dl => dl = []
 | .sl ss :: r, dl => ∃ (as : List A) (m : Nat) (dr : List A), dl = .l as :: .i m :: dr ∧ (as.length = m * ss.length ∧ m ≤ maxLen) ∧ XK r dr
 | s :: r, dl => ∃ (a : A) (dr : List A), dl = a :: dr ∧ V9 s a ∧ XK r dr
def V5 (ss : List Ak) : Bool := ss.all fun s => match s with | .sl l => l.length != 0 | _ => true
theorem SC {s : Ak} {r : List Ak} {a : A} {dr : List A} (hs : s.single = true) (h : V9 s a) (hr : XK r dr) : XK (s :: r) (a :: dr) := by
 cases s <;> simp [Ak.single] at hs <;> exact ⟨a, dr, rfl, h, hr⟩
theorem Ox {M : Addr → Option Value} {s : Ak} {r : List Ak} {a : A} {dr : List A} {c : Value} {cs : List Value} (hs : s.single = true) (h : c = s.A7 a) (hr : A2 M r dr cs) : A2 M (s :: r) (a :: dr) (c :: cs) := by
 subst h
 cases s <;> simp [Ak.single] at hs <;> exact ⟨a, dr, cs, rfl, rfl, hr⟩
theorem Po {M : Addr → Option Value} : ∀ {ss : List Ak} {as : List A} {cs : List Value}, V5 ss = true → L5 ss as → Dk M ss as cs → ∃ dl, XK ss dl ∧ A2 M ss dl cs
 | [], [], [], _, _, _ => ⟨[], rfl, rfl, rfl⟩
 | s :: ss, a :: as, c :: cs, hn, ho, hf => by
  simp only [V5, List.all_cons, Bool.and_eq_true] at hn
  obtain ⟨dl, h1, h2⟩ := Po (ss := ss) hn.2 ho.2 hf.2
  have ho1 := ho.1
  have hf1 := hf.1
  by_cases hs : s.single = true
  ·exact ⟨a :: dl, SC hs ho1 h1, Ox hs (hf1.single hs) h2⟩
  ·cases hf1 with
   | sc h => exact absurd h hs
   | @emp l b c =>
    have hl : 0 < l.length := by
     have := hn.1
     simp at this
     exact List.length_pos_iff.2 this
    exact ⟨.l [] :: .i ((0 : Nat) : Int) :: dl, ⟨[], 0, dl, rfl, ⟨by simp, Nat.zero_le _⟩, h1⟩, ⟨.l [], .i ((0 : Nat) : Int), dl, b, 0, c, cs, rfl, rfl, rfl, hl, .emp, h2⟩⟩
   | @sl l as' us b o n c g0 g1 g2 g3 g4 =>
    have hm : n ≤ maxLen := by
     cases ho1 with
     | @sl _ _ m e1 e2 _ =>
      rw [g1] at e1
      have := Nat.eq_of_mul_eq_mul_right g0 e1
      omega
    exact ⟨.l as' :: .i (n : Int) :: dl, ⟨as', n, dl, rfl, ⟨g1, hm⟩, h1⟩, ⟨.l as', .i (n : Int), dl, some ⟨b, o, none⟩, n, c, cs, rfl, rfl, rfl, g0, .sl g0 g1 g2 g3 g4, h2⟩⟩
 | [], [], _ :: _, _, _, h => h.elim
 | [], _ :: _, _, _, h, _ => h.elim
 | _ :: _, [], _, _, h, _ => h.elim
 | _ :: _, _ :: _, [], _, _, h => h.elim
theorem Kh {a : A} (h : V9 (.int .i64) a) : Day.i64 a.int = true := by
 cases h with
 | int h1 h2 =>
  have e1 : IntKind.i64.min = -9223372036854775808 := rfl
  have e2 : IntKind.i64.max = 9223372036854775807 := rfl
  rw [e1] at h1
  rw [e2] at h2
  simp [Day.i64, A.int, h1, h2]
section
variable {H : Type} {enc : TypeId × Value → H} {P : Program} {w : World} {base : Nat} {spare : Nat → Bool} {held : Bool}
theorem Ux {Aw : List (Nat × Ty)} (hX : BE P Aw) {r : Reach} {b0 n t : Nat} {ty : Ty} {ss : List Ak} {v : Value} {d : DataW H} {p : List MemPlace} (hty : look t Aw = some ty) (ha : ty.kind.agg = true) (hs : NN Aw n t = some ss) (hk : V5 ss = true)
  (hval : Value.okWide P w r b0 t v) (h : DataW.Trod enc P w base spare held t v d p) :
  ∃ dl, XK ss dl ∧ KE w.cell? (.d true ss) v dl := by
 obtain ⟨fuel, hx⟩ := h
 obtain ⟨as, h1, h2⟩ := GK hX n t _ hs fuel _ _ hx
 obtain ⟨dd, hd, hkd⟩ := (hX t ty hty).kind
 have hagg : ∃ cs, v = .agg cs := by
  cases hkk : ty.kind <;> rw [hkk] at ha hkd <;> simp [TK.agg] at ha
  all_goals
   cases dd <;> simp [TK.okB] at hkd
   simp only [Value.okWide, hd] at hval
   obtain ⟨cs, h1, _⟩ := hval
   exact ⟨cs, h1⟩
 obtain ⟨cs, rfl⟩ := hagg
 simp only [Value.cells] at h2
 obtain ⟨dl, d1, d2⟩ := Po hk h1 h2
 exact ⟨dl, d1, cs.toList, by simp, d2⟩
end
end Rx
