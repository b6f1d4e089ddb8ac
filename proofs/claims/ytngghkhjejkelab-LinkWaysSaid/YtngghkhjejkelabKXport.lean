import Derived.Test.YtngghkhjejkelabKXe
import Derived.Test.YtngghkhjejkelabKXClone
import Derived.Test.YtngghkhjejkelabKYport
set_option linter.unusedVariables false
set_option linter.unusedSimpArgs false
namespace Rx.S
open Go Rx Go.Proofs
set_option maxRecDepth 100000
set_option maxHeartbeats 4000000
def c_port_Both : Big := { f := 44, ps := [.lst [.int .i64, .int .i64], .lst [.int .i64, .int .i64]], rs := [.lst [.int .i64, .int .i64] 32, .c false [.int .i64]], ok := fun _ => true, w := 4 }
noncomputable def fns_port_Both : List (Nat × Func) := [(44, Try.f44), (59, Try.f59)]
theorem fnsOk_port_Both : FnsAll Try.prog fns_port_Both := ⟨fn44, fn59, trivial⟩
noncomputable def X_port_Both_0 : Ctx := { tys := tys, eqs := eqs, fns := fun f => look f fns_port_Both, ctr := [], lim := 30, big := [(59, c_Clone)], lps := [] }
theorem xok_port_Both_0 : XL Try.prog T X_port_Both_0 where
 tys := tysOk
 eqs := eqsOk
 mixed := mixed
 ctr := ctrsOK_of trivial
 fns := fnsOK_of fnsOk_port_Both
 big := bigsOK_of ⟨⟨rfl, ctr_Clone⟩, trivial⟩
 lps := lps_nil rfl
theorem lpok_1890 : ∀ fn body c, X_port_Both_0.fns lp_1890.f = some fn → fn.body = some body → subAt lp_1890.p body = some (.loop c) → LoopOK Try.prog T lp_1890 c :=
 loop_of xok_port_Both_0 widths (g := g_L1890) (back := some (V 8, [V 0, V 1, V 2, V 3, V 28, V 5, V 6, V 27])) (exs := [(V 9, [some (V 7)])]) (by kernel_rfl) (fun aq => by rw [show lp_1890.id = 1890 from rfl, T_1890]; rfl) m_1890 fun aq e h1 h2 h3 => by
  rw [show lp_1890.id = 1890 from rfl, T_1890] at h2 ⊢
  exact lpure_1890 aq e h1 h2 h3
noncomputable def X_port_Both : Ctx := { tys := tys, eqs := eqs, fns := fun f => look f fns_port_Both, ctr := [], lim := 30, big := [(59, c_Clone)], lps := [lp_1890] }
theorem xok_port_Both : XL Try.prog T X_port_Both where
 tys := tysOk
 eqs := eqsOk
 mixed := mixed
 ctr := ctrsOK_of trivial
 fns := fnsOK_of fnsOk_port_Both
 big := bigsOK_of ⟨⟨rfl, ctr_Clone⟩, trivial⟩
 lps := lpsOK_of ⟨lpok_1890, trivial⟩
theorem ctr_port_Both : BigOK Try.prog T c_port_Both := big_of xok_port_Both widths (g := g_port_Both) (ls := [V 16, V 14, V 15]) (by kernel_rfl) fun aq e h1 h2 h3 => by
 subst h1
 rw [show c_port_Both.f = 44 from rfl, T_44] at h2 ⊢
 obtain ⟨ho, hr⟩ := pure_port_Both e h3 h2
 obtain ⟨r0, r1, r2⟩ := hr
 refine ⟨⟨ho.1, ho.2, trivial⟩, ?_⟩
 exact ⟨_, _, _, _, _, _, rfl, rfl, r0, r1, ⟨[_], _, [_], _, rfl, rfl, rfl, rfl, (semI r2 rfl), ⟨rfl, rfl⟩⟩⟩
end Rx.S
