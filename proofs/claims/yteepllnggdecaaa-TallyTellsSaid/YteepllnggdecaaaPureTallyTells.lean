/- The pure side of TallyTells: counted up, down and within bounds, a counter is the document's, for all numbers of 64 bits. -/
import Derived.Test.YteepllnggdecaaaPTallyTellsx1
import Derived.DataShut
namespace Go.Proofs.Yteepllnggdecaaa.Pure
open Go.RowKit Go.Proofs.Yteepllnggdecaaa.PTallyTells Go.Proofs.YteepllnggdecaaaW.PrintWords Go.Proofs.YteepllnggdecaaaW.PrintLast Go.Proofs.YteepllnggdecaaaW.PrintMore

theorem tt_wf {a : Int} (h : (Go.Lit.int .i64 a).wf = true) : -9223372036854775808 ≤ a ∧ a ≤ 9223372036854775807 := (Go.Lit.wf_int_iff .i64 a).1 h

theorem tt_up {c m : Int} (hc : -9223372036854775808 ≤ c ∧ c ≤ 9223372036854775807) (hm : -9223372036854775808 ≤ m ∧ m ≤ 9223372036854775807) : tally_Up.f c m = daybreakref04_Up.f c m ∧ ∃ r, tally_Up.f c m = some r := by
  unfold tally_Up.f daybreakref04_Up.f mx mn wrap64
  constructor
  · repeat' split
    all_goals first | rfl | (exfalso; omega) | (congr 1; omega)
  · by_cases h : (if c < 0 then 0 else c) < m
    · rw [if_pos h]; exact ⟨_, rfl⟩
    · rw [if_neg h]; exact ⟨_, rfl⟩
theorem tt_down {c : Int} (hc : -9223372036854775808 ≤ c ∧ c ≤ 9223372036854775807) : tally_Down.f c = daybreakref04_Down.f c ∧ ∃ r, tally_Down.f c = some r := by
  unfold tally_Down.f daybreakref04_Down.f mx wrap64
  constructor
  · repeat' split
    all_goals first | rfl | (exfalso; omega) | (congr 1; omega)
  · exact ⟨_, rfl⟩
theorem tt_clamp (c l m : Int) : tally_Clamp.f c l m = daybreakref04_Clamp.f c l m ∧ ∃ r, tally_Clamp.f c l m = some r := by
  unfold tally_Clamp.f daybreakref04_Clamp.f mn
  constructor
  · repeat' split
    all_goals first | rfl | (exfalso; omega) | (congr 1; omega)
  · by_cases h : c < l
    · rw [if_pos h]; exact ⟨_, rfl⟩
    · rw [if_neg h]; exact ⟨_, rfl⟩
theorem tt_awake : daybreaklaw04_awake.f = some true := by decide +kernel

theorem TallyTells : daybreaklaw04_TallyTells.Pure := by
  intro c l m hc hl hm
  obtain ⟨u1, r1, u2⟩ := tt_up (tt_wf hc) (tt_wf hm)
  obtain ⟨d1, r2, d2⟩ := tt_down (tt_wf hc)
  obtain ⟨k1, r3, k2⟩ := tt_clamp c l m
  unfold daybreaklaw04_TallyTells.f
  rw [tt_awake, ← u1, ← d1, ← k1, u2, d2, k2]
  simp

end Go.Proofs.Yteepllnggdecaaa.Pure
