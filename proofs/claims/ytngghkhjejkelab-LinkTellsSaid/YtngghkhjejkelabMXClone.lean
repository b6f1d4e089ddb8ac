import Derived.Test.YtngghkhjejkelabMXe
import Derived.Test.YtngghkhjejkelabMYClone
set_option linter.unusedVariables false
set_option linter.unusedSimpArgs false
namespace Rx.S
open Go Rx Go.Proofs
set_option maxRecDepth 100000
set_option maxHeartbeats 4000000
def Ru : XG := { f := 59, ps := [.lst [.int .i64, .int .i64]], rs := [.lst [.int .i64, .int .i64] 32], ok := fun _ => true, w := 3 }
noncomputable def V9 : List (Nat × Func) := [(59, Try.f59)]
theorem YW : AG Try.prog V9 := ⟨Aho, trivial⟩
noncomputable def AfV : Ctx := { At := At, eqs := eqs, fns := fun f => look f V9, ctr := [], lim := 30, big := [], lps := [] }
theorem Acp : XL Try.prog T AfV where
 At := AL
 eqs := AP
 mixed := mixed
 ctr := Af trivial
 fns := Am YW
 big := Ag trivial
 lps := Ax rfl
theorem Wc : Nm Try.prog T Ru := Sv Acp Aw (g := Xo) (ls := [V 3, V 4]) (by kernel_rfl) fun aq e h1 h2 h3 => by
 subst h1
 rw [show Ru.f = 59 from rfl, AfR] at h2 ⊢
 obtain ⟨ho, hr⟩ := Aai e h3 h2
 obtain ⟨r0, r1⟩ := hr
 refine ⟨⟨ho.1, ho.2.1, ho.2.2, trivial⟩, ?_⟩
 exact ⟨_, _, _, _, _, _, rfl, rfl, r0, r1, ⟨rfl, rfl⟩⟩
end Rx.S
