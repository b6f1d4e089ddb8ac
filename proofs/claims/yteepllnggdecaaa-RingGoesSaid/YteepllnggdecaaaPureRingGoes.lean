/- The pure side of RingGoes: so many ticks ahead of a slot is the other one, of any number of slots from 1 to 8. -/
import Derived.Test.YteepllnggdecaaaPRingGoesx1
import Derived.DataShut
namespace Go.Proofs.Yteepllnggdecaaa.Pure
open Go.RowKit Go.Proofs.Yteepllnggdecaaa.PRingGoes Go.Proofs.YteepllnggdecaaaW.PrintWords Go.Proofs.YteepllnggdecaaaW.PrintLast

theorem rg_wf {a : Int} (h : (Go.Lit.int .u8 a).wf = true) : 0 ≤ a ∧ a ≤ 255 := (Go.Lit.wf_int_iff .u8 a).1 h
set_option maxRecDepth 100000 in
theorem rg_all : ∀ m : Fin 8, ∀ x : Fin 8, ∀ y : Fin 8, x.val ≤ m.val → y.val ≤ m.val →
    ((ring_Ahead.f (m.val + 1 : Nat) (x.val : Nat) (y.val : Nat)).bind fun t => daybreaklaw05_RingGoes.l0 20 (m.val + 1 : Nat) (x.val : Nat) (y.val : Nat) t (x.val : Nat) 0) = some true := by decide +kernel
theorem RingGoes : daybreaklaw05_RingGoes.Pure := by
  intro n a b hn ha hb
  obtain ⟨hn0, hn1⟩ := rg_wf hn
  obtain ⟨ha0, ha1⟩ := rg_wf ha
  obtain ⟨hb0, hb1⟩ := rg_wf hb
  have w : ∀ x : Int, 0 ≤ x → x ≤ 1000 → wrap64 x = x := fun x h0 h1 => by unfold wrap64; omega
  have h8 : Int.tmod n 8 = n % 8 := Int.tmod_eq_emod_of_nonneg hn0
  obtain ⟨m, hm⟩ := Int.eq_ofNat_of_zero_le (a := n % 8) (by omega)
  have hm8 : m < 8 := by omega
  have em : wrap64 (1 + wrap64 (Int.tmod n 8)) = ((m + 1 : Nat) : Int) := by rw [h8, hm, w m (by omega) (by omega), w (1 + m) (by omega) (by omega)]; omega
  obtain ⟨x, hx⟩ := Int.eq_ofNat_of_zero_le (a := a % ((m + 1 : Nat) : Int)) (Int.emod_nonneg _ (by omega))
  have hxm : (x : Int) < ((m + 1 : Nat) : Int) := by have := Int.emod_lt_of_pos a (b := ((m + 1 : Nat) : Int)) (by omega); rw [hx] at this; exact this
  obtain ⟨y, hy⟩ := Int.eq_ofNat_of_zero_le (a := b % ((m + 1 : Nat) : Int)) (Int.emod_nonneg _ (by omega))
  have hym : (y : Int) < ((m + 1 : Nat) : Int) := by have := Int.emod_lt_of_pos b (b := ((m + 1 : Nat) : Int)) (by omega); rw [hy] at this; exact this
  have ex : Int.tmod (wrap64 a) ((m + 1 : Nat) : Int) = x := by rw [w a ha0 (by omega), Int.tmod_eq_emod_of_nonneg ha0, hx]
  have ey : Int.tmod (wrap64 b) ((m + 1 : Nat) : Int) = y := by rw [w b hb0 (by omega), Int.tmod_eq_emod_of_nonneg hb0, hy]
  refine ⟨20, ?_⟩
  unfold daybreaklaw05_RingGoes.f
  rw [em, ex, ey, if_neg (by omega)]
  exact rg_all ⟨m, hm8⟩ ⟨x, by omega⟩ ⟨y, by omega⟩ (by simp only; omega) (by simp only; omega)

end Go.Proofs.Yteepllnggdecaaa.Pure
