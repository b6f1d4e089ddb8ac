import Derived.Test.YtjipnabidebgbaaHXe
import Derived.Test.YtjipnabidebgbaaHYport
set_option linter.unusedVariables false
set_option linter.unusedSimpArgs false
namespace Rx.S
open Go Rx Go.Proofs
set_option maxRecDepth 100000
set_option maxHeartbeats 4000000
def c_ref10_Same : Ctr := { f := 123, ps := [.lst [.int .i64, .int .i64], .lst [.int .i64, .int .i64]], rs := [(false, [.bool])], ok := fun _ => true }
noncomputable def fns_ref10_Same : List (Nat × Func) := [(123, Try.f123)]
theorem fnsOk_ref10_Same : FnsAll Try.prog fns_ref10_Same := ⟨fn123, trivial⟩
noncomputable def X_ref10_Same_0 : Ctx := { tys := tys, eqs := eqs, fns := fun f => look f fns_ref10_Same, ctr := [], lim := 30, big := [], lps := [] }
theorem xok_ref10_Same_0 : XL Try.prog T X_ref10_Same_0 where
 tys := tysOk
 eqs := eqsOk
 mixed := mixed
 ctr := ctrsOK_of trivial
 fns := fnsOK_of fnsOk_ref10_Same
 big := bigsOK_of trivial
 lps := lps_nil rfl
theorem lpok_1830 : ∀ fn body c, X_ref10_Same_0.fns lp_1830.f = some fn → fn.body = some body → subAt lp_1830.p body = some (.loop c) → LoopOK Try.prog T lp_1830 c :=
 loop_of xok_ref10_Same_0 widths (g := g_L1830) (back := some (V 30, [V 0, V 1, V 27, V 3, V 4, V 5])) (exs := [(V 31, [some (B true), none]), (V 7, [none, some (B true)])]) (by kernel_rfl) (fun aq => by rw [show lp_1830.id = 1830 from rfl, T_1830]; rfl) m_1830 fun aq e h1 h2 h3 => by
  rw [show lp_1830.id = 1830 from rfl, T_1830] at h2 ⊢
  exact lpure_1830 aq e h1 h2 h3
noncomputable def X_ref10_Same : Ctx := { tys := tys, eqs := eqs, fns := fun f => look f fns_ref10_Same, ctr := [], lim := 30, big := [], lps := [lp_1830] }
theorem xok_ref10_Same : XL Try.prog T X_ref10_Same where
 tys := tysOk
 eqs := eqsOk
 mixed := mixed
 ctr := ctrsOK_of trivial
 fns := fnsOK_of fnsOk_ref10_Same
 big := bigsOK_of trivial
 lps := lpsOK_of ⟨lpok_1830, trivial⟩
theorem ctr_ref10_Same : CtrOK Try.prog T c_ref10_Same := ctr_of xok_ref10_Same widths (g := g_ref10_Same) (ls := [V 19]) (by kernel_rfl) (fun aq => by rw [show c_ref10_Same.f = 123 from rfl, T_123]; rfl) fun aq e h1 h2 h3 => by
 subst h1
 rw [show c_ref10_Same.f = 123 from rfl, T_123] at h2 ⊢
 obtain ⟨ho, hr⟩ := pure_ref10_Same e h3 h2
 have r0 := hr
 refine ⟨⟨ho.1, ho.2, trivial⟩, ?_⟩
 show semMany [.bool] (t_123 _).2 = semMany [.bool] [L.ev e (V 19)]
 exact (semB r0 rfl)
end Rx.S
