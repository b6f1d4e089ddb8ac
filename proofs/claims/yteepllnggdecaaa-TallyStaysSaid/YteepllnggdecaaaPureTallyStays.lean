/- The pure side of TallyStays: counted up so many times, a counter within its bounds stays at most its greatest, and gets there; down and up it is as it was. -/
import Derived.Test.YteepllnggdecaaaPTallyStaysx1
import Derived.DataShut
namespace Go.Proofs.Yteepllnggdecaaa.Pure
open Go.RowKit Go.Proofs.Yteepllnggdecaaa.PTallyStays Go.Proofs.YteepllnggdecaaaW.PrintWords Go.Proofs.YteepllnggdecaaaW.PrintLast Go.Proofs.YteepllnggdecaaaW.PrintMore

theorem ts_wf {a : Int} (h : (Go.Lit.int .u8 a).wf = true) : 0 ≤ a ∧ a ≤ 255 := (Go.Lit.wf_int_iff .u8 a).1 h
theorem ts_wrap {x : Int} (h0 : -1000 ≤ x) (h1 : x ≤ 1000) : wrap64 x = x := by unfold wrap64; omega
theorem ts_up {c m : Int} (h0 : 0 ≤ c) (h1 : c ≤ m) (hm : m ≤ 255) : tally_Up.f c m = some (if c < m then c + 1 else m) := by
  unfold tally_Up.f mx mn
  rw [if_neg (show ¬ c < 0 by omega)]
  by_cases h : c < m
  · rw [if_pos h, if_pos h, ts_wrap (by omega) (by omega), if_neg (by omega)]
  · rw [if_neg h, if_neg h]; congr 1; split <;> omega
theorem ts_down {c : Int} (h0 : 0 < c) (hm : c ≤ 255) : tally_Down.f c = some (c - 1) := by
  unfold tally_Down.f mx
  rw [if_neg (by omega), ts_wrap (by omega) (by omega)]
theorem ts_awake : daybreaklaw04_awake.f = some true := by decide +kernel
/-- i rounds are done, d are still to do -/
theorem ts_loop {m c : Int} (t : Int) (ht : t ≤ 255) (h0 : 0 ≤ c) (h1 : c ≤ m) (hm : m ≤ 255) (d : Nat) : ∀ i : Int, 0 ≤ i → t - i = d →
    daybreaklaw04_TallyStays.l0 (d + 1) t m c (if c + i < m then c + i else m) i = some true := by
  induction d with
  | zero =>
    intro i hi hd
    simp only [daybreaklaw04_TallyStays.l0]
    rw [ts_wrap (x := t) (by omega) (by omega), if_neg (by omega), ts_awake]
    simp only [Option.bind_some, if_true]
    have hn : (if c + i < m then c + i else m) = mn (wrap64 (c + t)) m := by
      rw [ts_wrap (by omega) (by omega)]
      unfold mn
      split <;> split <;> omega
    rw [if_pos hn]
    by_cases hc : c = 0
    · rw [if_pos hc]
    · rw [if_neg hc, ts_down (by omega) (by omega)]
      simp only [Option.bind_some]
      rw [ts_up (by omega) (by omega) hm, if_pos (by omega)]
      simp only [Option.bind_some, Int.sub_add_cancel, beq_self_eq_true]
  | succ d ih =>
    intro i hi hd
    obtain ⟨n, hn⟩ : ∃ n, (if c + i < m then c + i else m) = n := ⟨_, rfl⟩
    have hn0 : 0 ≤ n ∧ n ≤ m := by rw [← hn]; split <;> omega
    obtain ⟨n', hn'⟩ : ∃ n', (if n < m then n + 1 else m) = n' := ⟨_, rfl⟩
    have hn1 : n' ≤ m := by rw [← hn']; split <;> omega
    have he : n' = (if c + (i + 1) < m then c + (i + 1) else m) := by
      rw [← hn']
      by_cases h : c + i < m
      · rw [if_pos h] at hn
        subst hn
        rw [if_pos h]
        split <;> omega
      · rw [if_neg h] at hn
        rw [if_neg (show ¬ n < m by omega), if_neg (by omega)]
    rw [daybreaklaw04_TallyStays.l0, hn, ts_wrap (x := t) (by omega) (by omega), if_pos (by omega), ts_up hn0.1 hn0.2 hm, hn']
    simp only [Option.bind_some]
    rw [if_neg (by omega), ts_wrap (x := i + 1) (by omega) (by omega), he]
    exact ih (i + 1) (by omega) (by omega)

theorem TallyStays : daybreaklaw04_TallyStays.Pure := by
  intro c m t hc hm ht
  obtain ⟨hm0, hm1⟩ := ts_wf hm
  obtain ⟨ht0, ht1⟩ := ts_wf ht
  obtain ⟨d, hd⟩ := Int.eq_ofNat_of_zero_le ht0
  refine ⟨d + 1, ?_⟩
  unfold daybreaklaw04_TallyStays.f tally_Clamp.f mn
  rw [ts_wrap (x := m) (by omega) (by omega)]
  by_cases h : c < 0
  · rw [if_pos h]
    simp only [Option.bind_some]
    have := ts_loop (m := m) (c := 0) t ht1 (by omega) (by omega) hm1 d 0 (by omega) (by omega)
    rw [show (if (0 : Int) + 0 < m then (0 : Int) + 0 else m) = 0 by split <;> omega] at this
    exact this
  · rw [if_neg h]
    simp only [Option.bind_some]
    have := ts_loop (m := m) (c := if m < c then m else c) t ht1 (by split <;> omega) (by split <;> omega) hm1 d 0 (by omega) (by omega)
    rw [show (if (if m < c then m else c) + 0 < m then (if m < c then m else c) + 0 else m) = (if m < c then m else c) by split <;> split <;> omega] at this
    exact this

end Go.Proofs.Yteepllnggdecaaa.Pure
